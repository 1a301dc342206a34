/-
  A part of the proof that the law RollTexts returns true for every input; five variables of Go's library start as the text lays them (the card ties them); conditions: none beyond the statement's own. (part 4 of 6)
-/
import Derived.SizedLaws
import Derived.Lib.SplitLaws
import Derived.Lib.AtoiAll
import Derived.Lib.ItoaMem
import Derived.Shelf.Strings.Split
import Derived.Shelf.Small.Wraps
import Derived.Shelf.Strconv.ErrVarAll
import Derived.Lib.FieldsP
import Derived.Laws.RangeAny
import Derived.Shelf.Strconv.Itoa3
import Derived.Lib.ItoaLen
import Derived.Shelf.Strings.Prefix
import Derived.Shelf.Strings.Cut
import Derived.Shelf.Small.Strs
import Derived.Shelf.Strconv.Clone
import Derived.Shelf.Strings.FieldsFuncAny
import Derived.WalkKit
import Derived.Tactics
import Derived.Tactics2
import Derived.RecoverIn
import Derived.Deep.MidRow
import Derived.Shelf.Strings.BuilderK
import Derived.BigCall
import Derived.Deep.RegionWith
import Derived.Test.YtoffnnjbplgnaaaGreatDoorNgc
set_option linter.unusedSimpArgs false
set_option linter.unusedVariables false
set_option maxHeartbeats 16000000
set_option maxRecDepth 100000
namespace Go.Abs
open Go Go.RowKit Go.ChangeShapes
open Enc (enc)
def Ya(P:Program)(t:TypeId)(l:List (TypeId×Nat)):Bool:=match P.underlying t with
 |some (.struct fs)=>fs.toList.map (fun f=>(f.type,f.offset))==l
 |_=>false
def AF(P:Program)(t:TypeId)(n:Nat)(e:TypeId):Bool:=match P.underlying t with
 |some (.array n' e')=>n'==n&&e'==e
 |_=>false
theorem Uc{P:Program}{t:TypeId}{n:Nat}{e:TypeId}(h:AF P t n e=true):P.underlying t=some (.array n e):=by
 unfold AF at h;split at h
 ·rename_i n' e' ht;simp only[Z0,beq_iff_eq] at h;rw[ht,h.1,h.2]
 ·cases h
theorem Wj{H:Type}{enc0:TypeId×Value→H}{P:Program}{f:Func}{s:ChangeSpec}{apart iY handsOn again:Bool}{W W':World}{args:Array Value}{v:Value}{ds gs:List (DataW H)}{before pa pv:List MemPlace}
  (hW:DataW.Whole enc0 P f.params.toList s.vars apart W args.toList ds gs before)
  (hres:∀ (b:Nat) (sp:Nat→Bool) (hd:Bool),DataW.TrodAll enc0 P W' b sp hd f.resultTypes.toList (v.resultList f.resultTypes.size) (s.fn H (ds++gs)).results [])
  (hargs:∀ sp:Nat→Bool,(∀ p∈before,sp p.block=true)→DataW.TrodAll enc0 P W' 0 sp true f.params.toList args.toList (s.fn H (ds++gs)).args pa)
  (hvars:∀ sp:Nat→Bool,(∀ p∈before,sp p.block=true)→DataW.TrodVars enc0 P W' sp s.vars (s.fn H (ds++gs)).vars pv)
  (hps:before=pa++pv) (hb:Below W.heap.size W W')
  (hok:∀ (j:Nat) (t:TypeId) (r:Value),f.resultTypes[j]?=some t→(v.resultList f.resultTypes.size)[j]?=some r→Value.okWide P W' .any 0 t r) :
  s.post enc0 P f apart iY handsOn again W args v W':=by
 have hlt:∀ p∈before,p.block<W.heap.size:=fun p hp=>by simpa using hW.lt p hp
 have hold:∀ p∈before,(fun b=>decide (b<W.heap.size)) p.block=true:=fun p hp=>by simpa using hlt p hp
 refine ⟨ds,gs,before,[],pa,pv,hW,hres _ _ _,hargs _ hold,hvars _ hold,World.keptBut_mono (fun p hp=>⟨hp,?_⟩) (hb.frame (· ∈ before)),fun _ =>?_⟩
 ·rw[hps,Y8] at hp;exact Or.inr hp
 ·obtain ⟨_,_,_,_,_,hz,hn⟩:=hW;refine ⟨hok,_,_,([]++pa)++pv,⟨[]++pa,pv,trodAll_append (hargs _ (fun _ _=>rfl)) (hres _ _ _),hvars _ (fun _ _=>rfl),rfl,?_,?_⟩,?_⟩
  ·intro b off hp;have hp':MemPlace.cell b off∈before:=by rw[hps];simpa using hp
   rw[hb.frozen (p:=⟨b,off,none⟩) (hlt _ hp')];exact hz b off hp'
  ·intro ha;have:=hn ha;rw[hps] at this;simpa using this
  ·intro p hp _;rw[hps];simpa using hp
theorem Ut{P:Program}{f:FuncId}{fn:Func}{s:ChangeSpec}{H:Type}{enc0:TypeId×Value→H}{W:World}{ds gs:List (DataW H)}{before:List MemPlace}{xs:List I}{tb:TypeId}{v0 v1 v2:Value}{t0 t1 t2:TypeId}{d0 d1 d2:DataW H}{p0 p1 p2:List MemPlace}{again handsOn iY:Bool}
  (hl:laidOutB P=true) (hpar:fn.params.toList=[t0,t1,t2]) (hds:ds=[d0,d1,d2]) (hgs:gs=[]) (hbef:before=p0++p1++p2)
  (hvars:s.vars=[]) (hfn:s.fn H [d0,d1,d2] = { results:=[.lit (.bool true)],args:=[d0,d1,d2] }) (hres:fn.resultTypes = #[tb]) (htb:P.underlying tb=some .bool)
  (hW:DataW.Whole enc0 P fn.params.toList s.vars false W #[v0,v1,v2].toList ds gs before)
  (h0:DataW.Trod enc0 P W 0 (fun _=>true) true t0 v0 d0 p0) (h1:DataW.Trod enc0 P W 0 (fun _=>true) true t1 v1 d1 p1) (h2:DataW.Trod enc0 P W 0 (fun _=>true) true t2 v2 d2 p2)
  (hr:∀ t∈[t0,t1,t2],P.readableRec t=true∧t<P.types.size)
  (hctr:aQ P f xs (enc true)) (hlaid:eA P W (fun _=>False)) (hv:ao W (kz W) cu xs [v0,v1,v2]) :
  Calls P f #[v0,v1,v2] W fun e W'=>∃ v,e=.returned v∧s.post enc0 P fn false iY handsOn again W #[v0,v1,v2] v W':=by
 subst hds hgs;refine (hctr.2 W (kz W) [v0,v1,v2] hlaid (fun _ _ h=>h) hv).mono fun e W' ⟨v,D',he,hrv,hb,_,_⟩=>⟨v,he,?_⟩
 have hvb:v=.bool true:=kc hrv;subst hvb;have hlt:∀ x∈before,x.block<W.heap.size:=fun x hx=>by simpa using hW.lt x hx
 rw[hbef] at hlt;refine Wj (pa:=p0++(p1++p2)) (pv:=[]) hW (fun _ _ _ =>?_) (fun sp hsp =>?_) (fun _ _ =>?_) (by rw[hbef];simp) hb ?_
 ·simp only[zy6,hfn,hres];exact trodAll_mk1 (shut_bool htb true)
 ·simp only[zy6,hfn,hpar];rw[hbef] at hsp;have aV:∀ {t:TypeId} {v:Value} {d:DataW H} {p:List MemPlace},t∈[t0,t1,t2]→DataW.Trod enc0 P W 0 (fun _=>true) true t v d p→(∀ x∈p,x∈p0++p1++p2)→DataW.Trod enc0 P W' 0 sp true t v d p:=fun ht h hp =>
   WideElems.Trod_stays hl (hr _ ht).1 (hr _ ht).2 h (fun x hx=>hb.same (hlt x (hp x hx))) (fun x hx=>hsp x (hp x hx))
  exact trodAll_mk3 (aV (by simp) h0 fun x hx=>by simp[hx]) (aV (by simp) h1 fun x hx=>by simp[hx]) (aV (by simp) h2 fun x hx=>by simp[hx])
 ·simp only[zy6,hfn,hvars];rfl
 ·intro j t r hj hv';rw[hres] at hj hv'
  match j,hj,hv' with
  |0,hj,hv' =>
   simp[Value.resultList] at hj hv';subst hj;subst hv';simp[Value.okWide,htb,Cell.okWide,Cell.ok]
structure lr (P:Program) (t:TypeId) (α:Type) [Enc α] (B:α→Prop):Prop where
 cells:P.cellsOf t=Enc.sz α
 pX:0<Enc.sz α
 mH:∀ {H:Type} {enc0:TypeId×Value→H} {w:World} {fuel:Nat} {cs:List Value} {x:DataW H×List MemPlace},DataW.trod enc0 P w 0 (fun _=>true) true fuel t cs=some x→(∀ k∈x.1.weights P t,k≤reachBytes)→∃ a:α,B a∧ae w (kz w) cu (enc a) cs
theorem nu.BI{P:Program}{t:TypeId}{α:Type}[Enc α](h:nu P t α):lr P t α fun _=>True:=⟨h.cells,h.pX,fun hx _=>by
 obtain ⟨a,ha⟩:=h.mH hx;exact ⟨a,trivial,ha⟩⟩
theorem Ep{H:Type}{P:Program}{e:TypeId} : ∀ {l:List (DataW H)} {d:DataW H},d∈l→∀ n∈d.weights P e,n∈DataW.weightsAll P e l
 |d'::r,d,hd,n,hn=>by
  simp only[DataW.weightsAll,Y8];rcases zy0.1 hd with rfl | h
  ·exact .inl hn
  ·exact .inr (Ep h n hn)
theorem Wa{P:Program}{t e:TypeId}{α:Type}[Enc α]{B:α→Prop}(ht:P.underlying t=some (.slice e))(he:lr P e α B)(hc:P.cellsOf t=1):lr P t (List α) fun l=>(∀ a∈l,B a)∧l.length*P.bytesOf e≤reachBytes :=
 ⟨hc,by rw[KZ];exact Nat.one_pos,fun {H enc0 w fuel cs x} h hwt=>by
  rcases DataW.trod_slice ht h with ⟨rfl,_⟩ | ⟨a,len,cap,elems,rest,n,_,rfl,hxx,hb,hl,hm,hlen,hel,_⟩
  ·refine ⟨[],⟨by simp,by simp⟩,?_⟩;simp only[gy,zz0];rw[ae];exact ⟨none,0,rfl,Z5 _,by decide,.inl rfl,by simp⟩
  ·have hw1:∀ y∈elems,∀ k∈y.1.weights P e,k≤reachBytes:=fun y hy k hk=>by
    refine hwt k ?_;rw[hxx];simp only[DataW.weights,ht,zy0,Y8];exact .inr (.inl (Ep (zz1.2 ⟨y,hy,rfl⟩) k hk))
   have hw2:len*P.bytesOf e≤reachBytes:=by
    have:=hwt ((elems.length+rest.length)*P.bytesOf e) (by rw[hxx];simp[DataW.weights,ht]);have h3:elems.length*P.bytesOf e≤(elems.length+rest.length)*P.bytesOf e:=Nat.mul_le_mul_right _ (by omega);rw[←hlen];omega
   have key:∀ k,k≤len→∃ (l:List α) (cs':List Value),l.length=k∧az w (kz w) cu (l.map enc) cs'∧cs'.length=k*Enc.sz α∧(∀ j v,cs'[j]?=some v→w.cell? (a.add j)=some v)∧∀ b∈l,B b:=by
    intro k
    induction k with
    |zero=>exact fun _=>⟨[],[],rfl,by simp[az],by simp,by simp,by simp⟩
    |succ k ih =>
     intro hk;obtain ⟨l,cs',h1,h2,h3,h4,hB⟩:=ih (by omega);have h5:=hel k (by omega);have h6:k<elems.length:=by omega
     rw[Y4 h6] at h5;obtain ⟨ce,h7,h8⟩:=zy3.1 h5;obtain ⟨y,hyB,hy⟩:=he.mH h8 (hw1 _ (List.getElem_mem h6));rw[he.cells] at h7;obtain ⟨_,h9,h10⟩:=World.cells?_some h7;refine ⟨l++[y],cs'++ce,by simp[h1],?_,by rw[Z1,h3,h9,Nat.succ_mul],fun j v hj =>?_,fun b hb=>(Y8.1 hb).elim (hB b) fun h=>by rw[zy2.1 h];exact hyB⟩
     ·rw[zz8];refine iK _ _ _ _ h2 ?_;simp only[Z4,zz0,az];exact ⟨ce,[],by simp,hy,rfl⟩
     ·rcases Nat.lt_or_ge j cs'.length with hlt | hge
      ·rw[zz7 hlt] at hj;exact h4 j v hj
      ·rw[List.getElem?_append_right hge] at hj;have hlt:j-cs'.length<Enc.sz α:=by
        have:=(Z8.1 hj).1;omega
       have:=h10 (j-cs'.length) hlt;rw[Fv,←h3,Nat.add_sub_cancel' hge] at this;rw[this];exact hj
   obtain ⟨l,cs',h1,h2,h3,h4,hB⟩:=key len (Z5 _);refine ⟨l,⟨hB,by rw[h1];exact hw2⟩,?_⟩;simp only[gy,ae,Z2];refine ⟨some a,cap,by rw[h1],by omega,hm,?_,FB l⟩;by_cases hz:len=0
   ·left;have:l=[]:=List.length_eq_zero_iff.1 (by omega);rw[this];rfl
   right
   have hpos:0<cs'.length:=by rw[h3];exact Nat.mul_pos (Nat.pos_of_ne_zero hz) he.pX
   have h0:=h4 0 cs'[0] (Y4 hpos);have hsp:a.spot=none:=by
    simp only[Addr.add,if_true] at h0;unfold World.cell? at h0;split at h0
    ·split at h0
     ·cases h0
     ·rename_i hs;cases hh:a.spot <;>simp_all
    ·cases h0
   have ha:∀ j,a.add j=⟨a.block,a.off+j,none⟩:=fun j=>by
    unfold Addr.add;split
    ·rename_i hj;subst hj;cases a;simp_all
    ·rfl
   refine ⟨a.block,a.off,cs',by cases a;simp_all,fun j v hj =>?_,h2⟩;have h5:=h4 j v hj;rw[ha] at h5;refine ⟨h5,?_⟩
   show (⟨a.block,a.off+j,none⟩:Addr).block<_
   exact World.block_lt_of_cell? w _ h5⟩
theorem Wb{P:Program}{t:TypeId}{α:Type}[Enc α]{B:α→Prop}{H:Type}{enc0:TypeId×Value→H}{w:World}{dC:Nat}{v:Value}{d:DataW H}{p:List MemPlace}(ho:lr P t α B)(hA:Enc.gl α=true)(hst:(match P.underlying t with | some (.struct _) | some (.array _ _)=>true | _=>false)=true)(hv:Value.okWide P w .any dC t v)
  (h:DataW.Trod enc0 P w 0 (fun _=>true) true t v d p) (hwt:∀ k∈d.weights P t,k≤reachBytes):∃ (a:α),B a∧∃ (cs:List Value),aW (enc a) v cs∧ae w (kz w) cu (enc a) cs:=by
 obtain ⟨fuel,h⟩:=h;have hagg:∃ cs,v=.agg cs:=by
  unfold Value.okWide at hv;split at hst
  ·rename_i fs ht;rw[ht] at hv;obtain ⟨cs,h1,_⟩:=hv;exact ⟨cs,h1⟩
  ·rename_i n e ht;rw[ht] at hv;obtain ⟨cs,h1,_⟩:=hv;exact ⟨cs,h1⟩
  ·cases hst
 obtain ⟨cs,rfl⟩:=hagg;have e:(Value.agg cs).cells.toList=cs.toList:=rfl;rw[e] at h;obtain ⟨a,hB,ha⟩:=ho.mH h hwt;exact ⟨a,hB,cs.toList,by simp[aW,Enc.agg,hA],ha⟩
end Go.Abs
namespace Go.Abs
open Go Go.RowKit
open Enc (enc)
structure ak where
 b:ByteArray
 deriving DecidableEq,Inhabited
instance:Enc ak where
 enc s:=.aj s.b
 sz:=1
 aK:=.one
 gl:=false
 done _:=rfl
 size _:=by simp[I.size]
 iv _:=by simp[I.aK]
 agg _:=rfl
instance:Enc UInt8 where
 enc b:=.int .u8 b.toNat
 sz:=1
 aK:=.one
 gl:=false
 done _:=rfl
 size _:=by simp[I.size]
 iv _:=by simp[I.aK]
 agg _:=rfl
def ak.l(s:ak):List UInt8:=s.b.data.toList
def ak.of(l:List UInt8):ak:=⟨⟨l.toArray⟩⟩
theorem ak.vz(s:ak):ak.of s.l=s:=by obtain ⟨⟨⟨l⟩⟩⟩:=s;rfl
theorem ak.de(l:List UInt8):(ak.of l).l=l:=rfl
theorem ak.Le{s t:ak}(h:s.l=t.l):s=t:=by rw[←ak.vz s,←ak.vz t,h]
theorem ak.su{s t:List UInt8} : ak.of s=ak.of t↔s=t:=⟨fun h=>by rw[←ak.de s,h,ak.de],fun h=>by rw[h]⟩
theorem ak.size(s:ak):s.b.size=s.l.length:=Lib.size_eq s.b
theorem wF(s t:ByteArray):(s.toList==t.toList)=decide ((⟨s⟩:ak)=⟨t⟩):=by
 obtain ⟨⟨l⟩⟩:=s;obtain ⟨⟨m⟩⟩:=t;simp;by_cases h:l=m <;>simp[h]
def DB(a b:ak):ak:=⟨a.b++b.b⟩
theorem sV(s:ak):enc s=I.aj s.b:=rfl
theorem Xk(a b:ak)(h:a.l.length+b.l.length≤9223372036854775807):bF .add (enc a) (enc b)=some (enc (DB a b)):=by
 rw[←ak.size,←ak.size] at h;simp only[sV,bF,if_pos h,DB]
theorem wb(a b:ak):bF .eql (enc a) (enc b)=some (.bool (decide (a=b))):=by
 simp only[sV,bF,wF]
theorem wc(a b:ak):bF .neq (enc a) (enc b)=some (.bool (!decide (a=b))):=by
 simp only[sV,bF,wF]
theorem qj(a:ak):lG (enc a)=some (.int .i64 a.l.length):=by
 simp only[sV,lG,ak.size]
theorem DI(a:ak){i:Nat}(h:i<a.l.length):ej .dK [enc a,.int .i64 (i:Int)]=some (.int .u8 (a.l[i].toNat:Int)):=by
 show (if 0≤(i:Int) then (a.b.data.toList[(i:Int).toNat]?).map fun b=>I.int .u8 b.toNat else none)=_
 rw[if_pos (by omega),Int.toNat_natCast,Y4 (show i<a.b.data.toList.length from h)];rfl
theorem zG(s:ByteArray)(i j:Nat):(⟨s.extract i j⟩:ak)=ak.of ((s.data.toList.drop i).take (j-i)):=ak.Le (Lib.extract_data s i j)
theorem we(a:ak){i:Nat}(h2:i≤a.l.length):ej (.ss true false) [enc a,.int .i64 (i:Int)]=some (enc (ak.of (a.l.drop i))):=by
 show (if 0≤(i:Int)∧(i:Int)≤a.b.size then some (I.aj (a.b.extract (i:Int).toNat a.b.size)) else none)=_
 rw[if_pos ⟨by omega,by rw[ak.size];omega⟩,Int.toNat_natCast];refine (congrArg (fun s:ak=>some (enc s)) (zG a.b i a.b.size)).trans ?_;rw[ak.size,List.take_of_length_le (by simp[ak.l])];rfl
theorem mX(a:ak){j:Nat}(h2:j≤a.l.length):ej (.ss false true) [enc a,.int .i64 (j:Int)]=some (enc (ak.of (a.l.take j))):=by
 show (if 0≤(j:Int)∧(j:Int)≤a.b.size then some (I.aj (a.b.extract 0 (j:Int).toNat)) else none)=_
 rw[if_pos ⟨by omega,by rw[ak.size];omega⟩,Int.toNat_natCast];exact congrArg (fun s:ak=>some (enc s)) (zG a.b 0 j)
theorem DF(n:Int):gh 1 (some [.int .u8 n])=some (.slice 1 [.int .u8 n]):=by
 simp[gh,I.size,I.cj,I.bu]
theorem DE(A:ab)(n:Int):kC (cO A 1 (.slice 1 [.int .u8 n]))=some (enc (ak.of [UInt8.ofNat n.toNat])):=rfl
theorem qk(b:UInt8):enc b=I.int .u8 (b.toNat:Int):=rfl
theorem DH(s:ak):kZ (enc s)=some (s.l.map enc):=rfl
theorem DA{A:ab}{d:Nat}{k:ab→bV}{l:List UInt8}(hd:A.o d=none) :
  ∃ p:Nat→Prop,gY A (some d) k (some (l.map enc))=.any p fun m=>k ((A.aO d (.box (.agg ((l++List.replicate m 0).map enc)))).aM (some d) (.view d [] 1 0 l.length)):=by
 refine ⟨fun m=>(l.map enc).length+m≤maxLen,?_⟩;have e:∀ m,(l++List.replicate m (0:UInt8)).map enc=l.map enc++List.replicate m (I.int .u8 0):=fun m=>by
  rw[zz8,List.map_replicate];rfl
 simp only[gY,hd,e,Z2]
theorem aX.ef{P:Program}{Y:Value→List I→List (Nat×ai)→b6→Prop}{K:ab→Prop}{ts:List (Nat×I)}{os:List (Nat×ai)}{d:Nat}{rest:List ar}{l:List UInt8}(hd:aH os d=none)
  (h:∀ m,aX P Y false K (al rest (aw ((d,.view d [] 1 0 l.length)::ts) ((d,.box (.agg ((l++List.replicate m 0).map enc)))::os)))):aX P Y false K (gY (aw ts os) (some d) (al rest) (some (l.map enc))):=by
 obtain ⟨p,e⟩:=DA (A:=aw ts os) (k:=al rest) (l:=l) hd;rw[e];exact .any rfl fun m _=>h m
theorem zK{A:ab}{n:Nat}{l q:List UInt8}(h:A.o n=some (.box (.agg ((l++q).map enc)))):aZ true A (.view n [] 1 0 l.length)=some (enc l):=by
 have h1:aZ true A (.view n [] 1 0 l.length)=kL 1 0 l.length (some ((l++q).map enc)):=by
  rw[uL,h];rfl
 have e:kL 1 0 l.length (some ((l++q).map enc))=some (enc ((l++q).take l.length)):=ru rfl;rw[h1,e,zy7]
theorem bI.ef{P:Program}{Y:Value→List I→List (Nat×ai)→b6→Prop}{hs:List FuncId}{K:ab→Prop}{ts:List (Nat×I)}{os:List (Nat×ai)}{d:Nat}{rest:List ar}{l:List UInt8}(hd:aH os d=none)
  (h:∀ m,bI P Y hs K (al rest (aw ((d,.view d [] 1 0 l.length)::ts) ((d,.box (.agg ((l++List.replicate m 0).map enc)))::os)))):bI P Y hs K (gY (aw ts os) (some d) (al rest) (some (l.map enc))):=by
 obtain ⟨p,e⟩:=DA (A:=aw ts os) (k:=al rest) (l:=l) hd;rw[e];exact .any fun m _=>h m
theorem DG(a:ak):bS none (enc a)=true:=rfl
theorem bl :
  (∀ d rest A p xs,bm A d (.prim p xs) rest=b8 (ej p (xs.map (af A))) (cE d rest A))∧(∀ d rest A x,bm A d (.b2s x) rest=b8 (kC (cO A 1 (af A x))) (cE d rest A)) ∧
  (∀ b,ej (.mz b) [.cN]=some (.bool (!b)))∧(∀ b t v,ej (.mz b) [.iface t v]=some (.bool b))∧(type_of% @wb)∧(type_of% @wc)∧(type_of% @qj)∧(type_of% @DF)∧(type_of% @DE)∧(type_of% @DG)∧(∀ d rest A x,bm A d (.ef x) rest=gY A d (al rest) (kZ (af A x)))∧(type_of% @DH)∧(∀ a b,ej .min2 [.int .i64 a,.int .i64 b]=some (.int .i64 (if b<a then b else a))) ∧
  (∀ a b,bF .eql (.int .u8 a) (.int .u8 b)=some (.bool (a==b)))∧(∀ a b,bF .neq (.int .u8 a) (.int .u8 b)=some (.bool (a != b)))∧(∀ a b,bF .lss (.int .u8 a) (.int .u8 b)=some (.bool (decide (a<b))))∧(∀ a b,bF .gtr (.int .u8 a) (.int .u8 b)=some (.bool (decide (a>b)))) ∧
  (∀ a b,bF .leq (.int .u8 a) (.int .u8 b)=some (.bool (decide (a≤b))))∧(∀ a b,bF .geq (.int .u8 a) (.int .u8 b)=some (.bool (decide (a≥b))))∧(∀ a b,bF .sub (.int .u8 a) (.int .u8 b)=some (.int .u8 (IntKind.u8.wrap (a-b)))) :=
 ⟨fun _ _ _ _ _=>rfl,fun _ _ _ _=>rfl,fun _=>rfl,fun _ _ _=>rfl,wb,wc,qj,DF,DE,DG,fun _ _ _ _=>rfl,DH,fun _ _=>rfl,fun _ _=>rfl,fun _ _=>rfl,fun _ _=>rfl,fun _ _=>rfl,fun _ _=>rfl,fun _ _=>rfl,fun _ _=>rfl⟩
end Go.Abs
namespace Go.Abs
open Go
open Enc (enc)
def iW(c:UInt8)(gM:Bool):List UInt8→List (List UInt8)
 | []=>[[]]
 |b::l=>if b=c then (if gM then [b] else [])::iW c gM l else match iW c gM l with
  |h::t=>(b::h)::t
  | []=>[[b]]
theorem J3(c:UInt8)(gM:Bool)(l:List UInt8):iW c gM l≠[]:=by
 cases l with
 |nil=>simp[iW]
 |cons b l =>
  simp only[iW];split
  ·simp
  ·split <;>simp
theorem zg{c:UInt8}{gM:Bool} : ∀ {l:List UInt8},(∀ b∈l,b≠c)→iW c gM l=[l]
 | [],_=>rfl
 |b::l,h=>by
  simp only[iW,if_neg (h b (by simp)),zg (l:=l) fun x hx=>h x (by simp[hx])]
theorem zf{c:UInt8}{gM:Bool} : ∀ {x:List UInt8} (y:List UInt8),(∀ b∈x,b≠c)→iW c gM (x++c::y)=(x++if gM then [c] else [])::iW c gM y
 | [],y,_=>by cases gM <;>simp[iW]
 |b::x,y,h=>by
  simp only[Y2,iW,if_neg (h b (by simp)),zf (x:=x) y fun z hz=>h z (by simp[hz])]
def iD(b:UInt8):Bool:=decide (48≤b.toNat∧b.toNat≤57)
def eD(acc:Nat):List UInt8→Option Nat
 | []=>some acc
 |b::l=>if iD b then eD (acc*10+(b.toNat-48)) l else none
def sn(most:Nat)(w:List UInt8):Option Nat:=if w=[]∨most<w.length∨(w.head?=some 48∧1<w.length) then none else eD 0 w
theorem uh(x y:List UInt8):∀ acc,eD acc (x++y)=(eD acc x).bind fun n=>eD n y:=by
 induction x with
 |nil=>intro acc;rfl
 |cons b x ih =>
  intro acc;simp only[Y2,eD];split
  ·exact ih _
  ·rfl
theorem zi:∀ (l:List UInt8) (acc n:Nat),eD acc l=some n→n<(acc+1)*10^l.length
 | [],acc,n,h=>by simp only[eD,v6] at h;simp;omega
 |b::l,acc,n,h=>by
  simp only[eD] at h;split at h
  case isFalse=>cases h
  rename_i hd;simp only[iD,decide_eq_true_eq] at hd;have:=zi l _ n h;have h2:(acc*10+(b.toNat-48)+1)*10^l.length≤((acc+1)*10)*10^l.length:=Nat.mul_le_mul_right _ (by omega);rw[zz4,Nat.pow_succ]
  calc n<_:=this
   _≤_:=h2
   _=_:=by rw[Nat.mul_assoc,Nat.mul_comm 10 (10^l.length)]
theorem Ku{l:List UInt8}{n k:Nat}(h:eD 0 l=some n)(hl:l.length≤k):n<10^k:=by
 have:=zi l 0 n h;have h2:10^l.length≤10^k:=Nat.pow_le_pow_right (by omega) hl;omega
theorem BO:∀ (l:List UInt8) (acc:Nat),(acc+1)*10^l.length≤1000000000000000000→Lib.parseUint10 acc l=match eD acc l with | some n=>.ok n | none=>Lib.parseUint10 0 [97]
 | [],acc,_=>rfl
 |b::l,acc,h=>by
  have hp:1≤10^l.length:=Nat.one_le_pow _ _ (by decide);rw[zz4,Nat.pow_succ] at h;have hacc:(acc+1)*10≤1000000000000000000:=by
   calc (acc+1)*10=(acc+1)*(1*10):=by omega
    _≤(acc+1)*(10^l.length*10):=Nat.mul_le_mul_left _ (Nat.mul_le_mul_right _ hp)
    _≤_:=h
  simp only[Lib.parseUint10,eD,iD,decide_eq_true_eq];split
  ·rename_i hd;rw[if_neg (by omega),if_neg (by omega)];refine BO l _ ?_
   calc (acc*10+(b.toNat-48)+1)*10^l.length≤((acc+1)*10)*10^l.length:=Nat.mul_le_mul_right _ (by omega)
    _=(acc+1)*(10^l.length*10):=by rw[Nat.mul_assoc,Nat.mul_comm 10 (10^l.length)]
    _≤_:=h
  ·rfl
theorem As{x y:List UInt8}(h:x≠[]):(x++y).head?=x.head?:=by cases x with
 |nil=>exact absurd rfl h
 |cons _ _=>rfl
theorem zm(d:Nat)(h:d<10):(UInt8.ofNat (48+d)).toNat=48+d:=by simp;omega
theorem rl{u:Nat}(h:¬ u<10):Lib.decDigits u=Lib.decDigits (u / 10)++[UInt8.ofNat (48+u%10)]:=by
 rw[Lib.decDigits,dif_neg h]
theorem nH:∀ u:Nat,eD 0 (Lib.decDigits u)=some u∧Lib.decDigits u≠[]∧((Lib.decDigits u).head?=some 48→u=0)
 |u=>by
  by_cases h:u<10
  ·rw[Lib.decDigits_one h];have e:=zm u h;refine ⟨?_,by simp,fun h0 =>?_⟩
   ·have hd:iD (UInt8.ofNat (48+u))=true:=by simp only[iD,e,decide_eq_true_eq];omega
    simp only[eD,hd,if_true,e]
    congr 1;omega
   ·simp only[List.head?_cons,v6] at h0;have:=congrArg UInt8.toNat h0;rw[e] at this;simpa using this
  ·obtain ⟨h1,h2,h3⟩:=nH (u / 10);rw[rl h];have e:=zm (u%10) (by omega);refine ⟨?_,by simp,fun h0 =>?_⟩
   ·rw[uh,h1];have hd:iD (UInt8.ofNat (48+u%10))=true:=by simp only[iD,e,decide_eq_true_eq];omega
    simp only[zy5,eD,hd,if_true,e]
    congr 1;omega
   ·rw[As h2] at h0;have:=h3 h0;omega
termination_by u=>u
decreasing_by omega
theorem zk:∀ (k:Nat) (w:List UInt8) (n:Nat),w.length≤k→w≠[]→¬ (w.head?=some 48∧1<w.length)→eD 0 w=some n→Lib.decDigits n=w
 |0,w,n,hk,hne,_,_=>absurd (zz9 (by omega)) hne
 |k+1,w,n,hk,hne,hz,h=>by
  have hw:=List.dropLast_concat_getLast hne;generalize w.getLast hne=b at hw;generalize w.dropLast=x at hw;subst hw;rw[uh] at h;cases hx:eD 0 x with
  |none=>rw[hx] at h;cases h
  |some m =>
   rw[hx] at h;simp only[zy5,eD] at h;split at h
   case isFalse=>cases h
   rename_i hd;simp only[v6] at h;simp only[iD,decide_eq_true_eq] at hd;have hb:UInt8.ofNat (48+(b.toNat-48))=b:=by
    rw[show 48+(b.toNat-48)=b.toNat by omega];simp
   by_cases hx0:x=[]
   ·subst hx0;simp only[eD,v6] at hx;subst hx;have hn:n=b.toNat-48:=by omega
    rw[Lib.decDigits_one (show n<10 by omega),hn,hb];rfl
   ·have hl:x.length+1≤k+1:=by simpa using hk
    have hz':¬ (x.head?=some 48):=fun e=>hz ⟨by rw[As hx0];exact e,by have:=List.length_pos_iff.2 hx0;simp;omega⟩;have ih:=zk k x m (by omega) hx0 (fun e=>hz' e.1) hx;have hm:m≠0:=fun e=>by
     subst e;rw[Lib.decDigits_one (by omega)] at ih;rw[←ih] at hz';exact hz' rfl
    rw[rl (show ¬ n<10 by omega),show n / 10=m by omega,ih,show n%10=b.toNat-48 by omega,hb]
theorem Ve{most:Nat}(hm:most≤18){w:List UInt8}{n:Nat}(h:sn most w=some n):Lib.atoiAll w=.ok (n:Int)∧w.length≤most∧Lib.itoa (n:Int)=w∧n<10^most:=by
 simp only[sn] at h;split at h
 ·cases h
 rename_i hc;rw[not_or,not_or] at hc;obtain ⟨h1,h2,h3⟩:=hc;have hs:=Ku h (show w.length≤most by omega);have hb:n<9223372036854775808:=by
  have h5:10^most≤10^18:=Nat.pow_le_pow_right (by omega) hm;omega
 have hd:=zk w.length w n (Z5 _) h1 h3 h;refine ⟨?_,by omega,by rw[Lib.itoa_nonneg];exact hd,hs⟩;cases w with
 |nil=>exact absurd rfl h1
 |cons c r =>
  have hdc:iD c=true:=by
   simp only[eD] at h;split at h
   ·assumption
   ·cases h
  simp only[iD,decide_eq_true_eq] at hdc;have hp:=BO (c::r) 0 (by
   have:10^(c::r).length≤10^18:=Nat.pow_le_pow_right (by omega) (by omega);omega)
  rw[h] at hp;simp only[Lib.atoiAll];rw[if_neg (by omega),Lib.parseMag,if_neg (by simp),hp];simp only;rw[if_neg (by omega),if_neg (by omega),if_neg (by omega)]
theorem zl{n:Int}(h:0≤n){c:UInt8}(hc:c.toNat<48):∀ b∈Lib.itoa n,b≠c:=by
 obtain ⟨m,rfl⟩:=Y0 h;rw[Lib.itoa_nonneg];have key:∀ (l:List UInt8) (acc:Nat),eD acc l≠none→∀ b∈l,b≠c:=by
  intro l
  induction l with
  |nil=>intro _ _ b hb;cases hb
  |cons x l ih =>
   intro acc hne b hb;simp only[eD] at hne;split at hne
   case isFalse=>exact absurd rfl hne
   rename_i hd;simp only[iD,decide_eq_true_eq] at hd;rcases zy0.1 hb with rfl | hb
   ·intro e;rw[e] at hd;omega
   ·exact ih _ hne b hb
 exact key _ 0 (by rw[(nH m).1];simp)
theorem KT{α:Type}{l:List α}{i:Nat}(h:i<l.length):l.drop i=l[i]::l.drop (i+1):=List.drop_eq_getElem_cons h
theorem Kv{l:List UInt8}{j:Nat}(h:j<l.length)(hb:iD l[j]=false):eD 0 l=none:=by
 conv=>lhs;rw[←zy4 j l,KT h]
 rw[uh];cases eD 0 (l.take j) with
 |none=>rfl
 |some n=>simp only[zy5,eD,hb,Z7,if_false]
theorem DQ{α:Type}[Enc α](A:ab){l:List α}{esz:Nat}{k:Nat}(hs:Enc.sz α=esz)(h:k≤l.length):hG A esz none (some (.int .i64 (k:Int))) none (enc l)=some (enc (l.take k)):=by
 simp only[hG,gy,hs,if_true,gL,gf,Z2];rw[if_pos (by omega)];simp only[Option.isSome_none,Z7,false_and,if_false,Int.toNat_natCast,Int.toNat_zero,List.drop_zero];rw[List.map_take]
end Go.Abs
namespace Go.Abs
open Go Go.Shelf Go.Proofs
open Enc (enc)
theorem FW{w:World}{D:aD}{x y:ak}{vs:List Value}(hv:ao w D cu [enc x,enc y] vs):vs=[.string x.b,.string y.b]:=by
 have hv':ao w D cu [.aj x.b,.aj y.b] vs:=hv;simp only[ao] at hv';obtain ⟨v,rest,cs,rfl,h1,h2,v2,rest2,cs2,rfl,h3,h4,rfl⟩:=hv';rw[(fL (fp h1 h2)).1,(fL (fp h3 h4)).1]
theorem J0{P:Program}{ρ:Ren}(av:Lays.n104 P ρ)(hc:dO P (ρ.f 104)=true)(s p:ak):aQ P (ρ.f 104) [enc s,enc p] (.tuple [enc (ak.of (Lib.trimSuffix s.l p.l)),enc (Lib.hasSuffix s.l p.l)]):=by
 refine ⟨hc,fun w D vs hl hD hv =>?_⟩;have hsz:s.b.size≤maxLen:=by
  have hv':ao w D cu [.aj s.b,.aj p.b] vs:=hv;simp only[ao] at hv';obtain ⟨v,rest,cs,rfl,h1,h2,_⟩:=hv';exact (fL (fp h1 h2)).2
 rw[FW hv];refine (Any.strings_CutSuffix av s.b p.b w (by unfold maxLen at hsz;omega)).mono ?_;rintro e w' ⟨rfl,rfl⟩;refine ⟨_,D,rfl,⟨[_,_],rfl,?_⟩,Go.RowKit.Below.refl _ w',hD,fun _ _ h _=>h⟩;simp only[ao];refine ⟨_,_,[_],rfl,by simp[aW,I.isAgg,enc];rfl,?_,_,_,[_],rfl,by simp[aW,I.isAgg,enc];rfl,?_,rfl⟩
 ·show ae _ _ _ (.aj _) _
  simp only[ae];refine ⟨rfl,?_⟩
  show (Lib.trimSuffix s.l p.l).toArray.size≤maxLen
  have h1:(Lib.trimSuffix s.l p.l).length≤s.l.length:=by unfold Lib.trimSuffix;split <;>simp
  rw[ak.size] at hsz;simp only[List.size_toArray];omega
 ·show ae _ _ _ (.bool _) _
  simp only[ae];rfl
def gx(T:TypeId)(l:List UInt8):I:=match Lib.atoiAll l with
 | .ok v=>.tuple [enc v,.cN]
 | .range=>.tuple [enc (Lib.atoiSat l),.iface T .any]
 | _ =>.tuple [enc (0:Int),.iface T .any]
theorem JY {P : Program} {ρ : Ren} (av : LaysC.n172 P ρ) (hc : dO P (ρ.f 172) = true) (g1 : P.globalNamed "strconv.ErrSyntax" = some (ρ.g 15)) (g2 : P.globalNamed "strconv.ErrRange" = some (ρ.g 16)) {T : TypeId} (hT : ρ.t 168 = T) (s : ak) (hs : s.l.length ≤ 281474976710656) : aQ P (ρ.f 172) [enc s] (gx T s.l) := by
 refine ⟨hc,fun w D vs hl hD hv =>?_⟩;subst hT;have hv':ao w D cu [.aj s.b] vs:=hv;simp only[ao] at hv';obtain ⟨v,rest,cs,rfl,h1,h2,rfl⟩:=hv';rw[(fL (fp h1 h2)).1];rw[←ak.size] at hs;obtain ⟨_, hv1, t1, p1, rfl⟩ := hl.rI (n := "strconv.ErrSyntax") (k := .nJ) (by simp [mq]) g1
 obtain ⟨_, hv2, t2, p2, rfl⟩ := hl.rI (n := "strconv.ErrRange") (k := .nJ) (by simp [mq]) g2
 have fail:∀ (n:Int) (w':World) (N:Nat),IntKind.i64.min≤n∧n≤IntKind.i64.max→Go.RowKit.Below w.heap.size w w' →
   ∃ v D',(Ending.returned (.tuple #[.int .i64 n,.iface (ρ.t 168) (.pointer (some ⟨N,0,none⟩))])=.returned v)∧aP w' D' cu (.tuple [enc n,.iface (ρ.t 168) .any]) v∧Go.RowKit.Below w.heap.size w w'∧(∀ b o,D' b o→b<w'.heap.size)∧∀ b o,D' b o→b<w.heap.size→D b o:=by
  intro n w' N hn hb;refine ⟨_,D,rfl,⟨[_,_],rfl,?_⟩,hb,fun b o hd=>Nat.lt_of_lt_of_le (hD b o hd) hb.size,fun _ _ h _=>h⟩;simp only[ao];refine ⟨_,_,[_],rfl,by simp[aW,I.isAgg,enc];rfl,?_,_,_,[_],rfl,by simp[aW,I.isAgg];rfl,?_,rfl⟩
  ·show ae _ _ _ (.int .i64 n) _
   simp only[ae,true_and];exact hn
  ·simp only[ae];exact ⟨_,[_],rfl,by simp[aW,I.isAgg];rfl,_,rfl,rfl⟩
 have hmin:IntKind.i64.min=-9223372036854775808:=by decide
 have hmax:IntKind.i64.max=9223372036854775807:=by decide
 cases hr:Lib.atoiAll s.b.data.toList with
 |ok n =>
  refine (Any.strconv_Atoi_ok av s.b (by omega) n hr w).mono ?_;rintro e w' ⟨rfl,hw⟩;have hb:Go.RowKit.Below w.heap.size w w':=by
   rcases hw with rfl | ⟨t,rfl⟩
   ·exact Go.RowKit.Below.refl _ _
   ·exact Lib.bytesWorld_below _ _ _
  have hn:=Lib.atoiAll_bounds hr;have e0:gx (ρ.t 168) s.l=.tuple [enc n,.cN]:=by
   show gx (ρ.t 168) s.b.data.toList=_
   simp only[gx,hr]
  rw[e0];refine ⟨_,D,rfl,⟨[_,_],rfl,?_⟩,hb,fun b o hd=>Nat.lt_of_lt_of_le (hD b o hd) hb.size,fun _ _ h _=>h⟩;simp only[ao];refine ⟨_,_,[_],rfl,by simp[aW,I.isAgg,enc];rfl,?_,_,_,[_],rfl,by simp[aW,I.isAgg];rfl,?_,rfl⟩
  ·show ae _ _ _ (.int .i64 n) _
   simp only[ae,true_and];rw[hmin,hmax];omega
  ·simp only[ae]
 |range =>
  have e0:gx (ρ.t 168) s.l=.tuple [enc (Lib.atoiSat s.l),.iface (ρ.t 168) .any]:=by
   show gx (ρ.t 168) s.b.data.toList=_
   simp only[gx,hr];rfl
  rw[e0];refine (Any.strconv_Atoi_range_var av s.b hs hr t2 p2 w hv2).mono ?_;rintro e w' ⟨N,rfl,_,_,hb⟩;have hn:=Lib.atoiSat_bounds s.b.data.toList;exact fail _ w' N (by rw[hmin,hmax];exact hn) hb
 | _ =>
  have e0:gx (ρ.t 168) s.l=.tuple [enc (0:Int),.iface (ρ.t 168) .any]:=by
   show gx (ρ.t 168) s.b.data.toList=_
   simp only[gx,hr]
  rw[e0];refine (Any.strconv_Atoi_syntax_var av s.b hs hr t1 p1 w hv1).mono ?_;rintro e w' ⟨N,rfl,_,_,hb⟩;exact fail 0 w' N (by rw[hmin,hmax];omega) hb
end Go.Abs
namespace Go.Abs
open Go Go.Shelf Go.Proofs
open Enc (enc)
def u6(n:Int):ak:=ak.of (Lib.itoa n)
open Go.Sort Go.RowKit in
theorem tM(w:World)(k:Nat)(os:Array Obj):Go.RowKit.Below w.heap.size w (grow (w.drewN k) os) :=
 ⟨rfl,rfl,rfl,by simp,fun i hi=>by rw[heap_grow_old _ _ (by simpa using hi)];rfl⟩
theorem J2{P:Program}{ρ:Ren}(av:LaysM.n171 P ρ)(hc:dO P (ρ.f 171)=true){g:Nat}(hg:P.globalNamed rU=some g)(n:Int):aQ P (ρ.f 171) [enc n] (enc (u6 n)):=by
 refine ⟨hc,fun w D vs hl hD hv =>?_⟩;have hv':ao w D cu [.int .i64 n] vs:=hv;simp only[ao] at hv';obtain ⟨v,rest,cs,rfl,h1,h2,rfl⟩:=hv';obtain ⟨rfl,h3,h4⟩:=dp (fp h1 h2);have h3':-9223372036854775808≤n:=h3;have h4':n≤9223372036854775807:=h4;obtain ⟨_,htab,rfl⟩:=hl.rI (n:=rU) (k:=.sD) (by simp[mq]) hg;refine (Any.strconv_Itoa av n h3' h4' w htab).mono ?_;rintro e w' ⟨rfl,k,os,rfl⟩;refine ⟨_,D,rfl,⟨[.string ⟨(Lib.itoa n).toArray⟩],by simp[aW,I.isAgg,enc],?_⟩,tM w k os,fun b o hd=>Nat.lt_of_lt_of_le (hD b o hd) (tM w k os).size,fun _ _ h _=>h⟩;have hlen:=Lib.itoa_length_le n h3' h4'
 show ae _ _ _ (.aj _) _
 simp only[ae];refine ⟨rfl,?_⟩
 show (Lib.itoa n).toArray.size≤maxLen
 simp only[List.size_toArray,maxLen];omega
theorem wE{w:World}{D:aD}{s:ak}{p:List I}{vs:List Value}(hv:ao w D cu (enc s::p) vs):∃ rest,vs=.string s.b::rest∧s.b.size≤maxLen∧ao w D cu p rest:=by
 have hv':ao w D cu (.aj s.b::p) vs:=hv;simp only[ao] at hv';obtain ⟨v,rest,cs,rfl,h1,h2,h3⟩:=hv';obtain ⟨rfl,h4⟩:=fL (fp h1 h2);exact ⟨rest,rfl,h4,h3⟩
theorem Du{w:World}{D:aD}{E:aN}{l:List UInt8}(h:l.length≤maxLen):aP w D E (enc (ak.of l)) (.string ⟨l.toArray⟩):=by
 refine ⟨[.string ⟨l.toArray⟩],by simp[aW,I.isAgg,enc,ak.of],?_⟩
 show ae _ _ _ (.aj _) _
 simp only[ae];exact ⟨rfl,by show l.toArray.size≤maxLen;simpa using h⟩
theorem J1{P:Program}{ρ:Ren}(av:Lays.n137 P ρ)(hc:dO P (ρ.f 137)=true)(s:ak)(c:UInt8):aQ P (ρ.f 137) [enc s,.int .u8 c.toNat] (enc (Lib.indexByte s.l c)):=by
 refine ⟨hc,fun w D vs hl hD hv =>?_⟩;obtain ⟨rest,rfl,hsz,hv2⟩:=wE hv;simp only[ao] at hv2;obtain ⟨v,rest2,cs,rfl,h1,h2,rfl⟩:=hv2;obtain ⟨rfl,_⟩:=dp (fp h1 h2);have key:=Any.strings_IndexByte av s.b (c.toNat:Int) w;have hcc:((c.toNat:Int)).toNat.toUInt8=c:=by simp
 rw[hcc] at key;refine Calls.mono key ?_;rintro e w' ⟨rfl,rfl⟩;refine ⟨_,D,rfl,⟨[_],by simp[aW,I.isAgg,enc];rfl,?_⟩,Go.RowKit.Below.refl _ w',hD,fun _ _ h _=>h⟩
 show ae _ _ _ (.int .i64 (Lib.indexByte s.l c)) _
 simp only[ae];refine ⟨rfl,?_⟩;have g1:=Lib.indexByte_ge s.l c;have g2:∀ l:List UInt8,Lib.indexByte l c≤l.length:=by
  intro l
  induction l with
  |nil=>simp[Lib.indexByte]
  |cons b l ih =>
   unfold Lib.indexByte
   (repeat' split) <;>simp only[zz4] <;>omega
 have g3:=g2 s.l;rw[ak.size] at hsz;have hmin:IntKind.i64.min=-9223372036854775808:=by decide
 have hmax:IntKind.i64.max=9223372036854775807:=by decide
 unfold maxLen at hsz;rw[hmin,hmax];omega
theorem JZ{P:Program}{ρ:Ren}(av:LaysM.n316 P ρ)(hc:dO P (ρ.f 316)=true)(s:ak)(hs:s.l.length≤281474976710656):aQ P (ρ.f 316) [enc s] (enc s):=by
 refine ⟨hc,fun w D vs hl hD hv =>?_⟩;obtain ⟨rest,rfl,hsz,hv2⟩:=wE hv;simp only[ao] at hv2;subst hv2;refine (Any.stringslite_Clone av s.b w (by rw[ak.size];exact hs)).mono ?_;rintro e w' ⟨rfl,hb⟩;refine ⟨_,D,rfl,⟨[_],by simp[aW,I.isAgg,enc];rfl,?_⟩,hb,fun b o hd=>Nat.lt_of_lt_of_le (hD b o hd) hb.size,fun _ _ h _=>h⟩
 show ae _ _ _ (.aj s.b) _
 simp only[ae,true_and];exact hsz
end Go.Abs
namespace Go.Abs
open Go
theorem zS(c:UInt8):∀ l:List UInt8,(∀ b∈l,b≠c)∨∃ x y,(∀ b∈x,b≠c)∧l=x++c::y
 | []=>.inl (by simp)
 |b::l=>by
  by_cases hb:b=c
  ·exact .inr ⟨[],l,by simp,by rw[hb];rfl⟩
  ·rcases zS c l with h | ⟨x,y,h,rfl⟩
   ·refine .inl fun z hz =>?_;rcases zy0.1 hz with rfl | hz
    ·exact hb
    ·exact h z hz
   ·refine .inr ⟨b::x,y,fun z hz =>?_,rfl⟩;rcases zy0.1 hz with rfl | hz
    ·exact hb
    ·exact h z hz
theorem ui:∀ (k n:Nat),n<10^(k+1)→(Lib.decDigits n).length≤k+1
 |0,n,h=>by rw[Lib.decDigits_one (by omega)];simp
 |k+1,n,h=>by
  by_cases q:n<10
  ·rw[Lib.decDigits_one q];simp
  ·rw[rl q,Z1];have:=ui k (n / 10) (by rw[Nat.pow_succ] at h;omega);simp only[zz4,zy1];omega
theorem Vd{k n:Nat}(h:n<10^(k+1)):sn (k+1) (Lib.itoa (n:Int))=some n:=by
 rw[Lib.itoa_nonneg];obtain ⟨h1,h2,h3⟩:=nH n;have hl:=ui k n h;simp only[sn];rw[if_neg,h1];rintro (h | h | ⟨h4,h5⟩)
 ·exact h2 h
 ·omega
 ·rw[h3 h4,Lib.decDigits_one (by omega)] at h5;simp at h5
theorem Um{n:Int}(h:0≤n):Lib.itoa n≠[]:=by
 obtain ⟨m,rfl⟩:=Y0 h;rw[Lib.itoa_nonneg];exact (nH m).2.1
theorem pE{k:Nat}{n:Int}(h:0≤n∧n<((10^(k+1):Nat):Int)):(Lib.itoa n).length≤k+1:=by
 obtain ⟨m,rfl⟩:=Y0 h.1;rw[Lib.itoa_nonneg];exact ui k m (by omega)
end Go.Abs
namespace Go.Abs
open Go Go.RowKit
open Enc (enc)
def rT:Option Nat→Code
 |none=>.ret
 |some id=>.exit id
def uB:Option Nat→Exit
 |none=>.ret
 |some id=>.exit id
def oF(o:Obj)(A:ab)(os:List (Nat×ai)):Prop:=∀ n x,aH (bM o os) n=some x→A.o n=some x∧x.only (aC (bM o os))=true∧x.eh=true
def Dm(o:Obj)(In:List (Nat×ai)→Prop)(Ix:Option Nat→List (Nat×ai)→Prop):Exit→ab→Prop
 | .normal,A=>∃ os,oF o A os∧In os
 | .ret,A=>∃ os,oF o A os∧Ix none os
 | .exit id,A=>∃ os,oF o A os∧Ix (some id) os
 |_,_=>False
section
variable {c:cm} {Q:Exit→ab→Prop}
theorem T6{o:Obj}{A:ab}{os:List (Nat×ai)}(h:oF o A os)(o':Obj):∀ n x,aH (bM o' os) n=some x→(A.aO 1999999 (.db o')).o n=some x∧x.only (aC (bM o' os))=true∧x.eh=true:=fun n x hx=>by
 have e:aC (bM o' os)=aC (bM o os):=by funext m;rw[jw,jw]
 rw[e];by_cases hn:n=1999999
 ·subst hn;rw[nY,if_pos rfl,v6] at hx;subst hx;exact ⟨by simp[ab.aO],rfl,rfl⟩
 ·rw[nY,if_neg hn] at hx;obtain ⟨h1,h2⟩:=h n x (by rw[nY,if_neg hn];exact hx);exact ⟨by simp only[ab.aO,if_neg hn];exact h1,h2⟩
end
mutual
theorem mN{ρ:Nat→Nat}(h:∀ n,ρ n=n):∀ x:I,x.aR ρ=x
 | .agg fs | .tuple fs=>by simp only[I.aR];rw[kW h fs]
 | .slice _ es=>by simp only[I.aR];rw[kW h es]
 | .ref x=>by simp only[I.aR];rw[mN h x]
 | .func _ caps=>by simp only[I.aR];rw[kW h caps]
 | .iface _ v=>by simp only[I.aR];rw[mN h v]
 | .ptr _ _ | .own _ _ | .view _ _ _ _ _ | .mref _ | .cR _=>by simp only[I.aR,h]
 | .cW ks vs=>by simp only[I.aR];rw[kW h ks,kW h vs]
 | .bool _ | .int _ _ | .aj _ | .nilp | .c8 | .cN | .any | .raw _ | .nils _ | .c0 _ | .undef | .cU=>by simp only[I.aR]
theorem kW{ρ:Nat→Nat}(h:∀ n,ρ n=n):∀ xs:List I,I.cT ρ xs=xs
 | []=>rfl
 |x::xs=>by simp only[I.cT];rw[mN h x,kW h xs]
end
theorem ai.mN{ρ:Nat→Nat}(h:∀ n,ρ n=n):∀ x:ai,x.aR ρ=x
 | .box x=>by simp only[ai.aR,Abs.mN h]
 | .bE _ _ es=>by simp only[ai.aR,kW h]
 | .db _=>rfl
 | .dL _ _=>rfl
 | .b7 _ _=>by simp only[ai.aR,kW h]
 | .it _ _ _ _=>by simp only[ai.aR,kW h]
theorem WQ(os:List (Nat×ai)):cY [] os=os:=by
 simp only[cY];have:(fun q:Nat×ai=>(bo [] q.1,q.2.aR (bo [])))=id:=by
  funext q
  rw[ai.mN (ρ:=bo []) (fun n=>rfl)];rfl
 rw[this,List.map_id]
theorem A6(a b:List (Nat×ai))(n:Nat):aH (a++b) n=match aH a n with
  |some x=>some x
  |none=>aH b n:=by
 induction a with
 |nil=>rfl
 |cons q a ih =>
  obtain ⟨k,v⟩:=q;simp only[Y2,aH];split
  ·rfl
  ·exact ih
theorem ff.none{os os':List (Nat×ai)}(h:ff os os'){n:Nat}(hn:n<1000000):aH os' n=none:=by
 cases hx:aH os' n with
 |none=>rfl
 |some x =>
  have h1:aC os' n=true:=by simp[aC,hx]
  rw[h.same] at h1;exact absurd (h.lD n h1) (by omega)
theorem bx.slots{ts ts':List (Nat×I)}{os os':List (Nat×ai)}(h1:cg ts ts')(h2:∀ n,aH os n=aH os' n):bx (aw ts os) (aw ts' os'):=by
 have e:aw ts os=aw ts os':=by
  simp only[aw];congr 1;funext n;exact h2 n
 rw[e];rintro c a w ⟨D,E,hs⟩;refine ⟨D,E,hs.sz,hs.ec,fun t =>?_,hs.df,hs.cI,hs.cL,hs.bz,hs.cz,hs.dy,hs.eF,hs.cw,hs.eI,hs.fb⟩;rcases wG h1 t with h | h
 ·simp only[aw];rw[h];simp[aP]
 ·have:=hs.dB t;simp only[aw] at *;rw[h];exact this
theorem xw{os osk os2 ow:List (Nat×ai)}{ts:List (Nat×I)}(h1:ff os osk)(h2:ff os os2)(how:∀ m,aC ow m=true→m<1000000):aw ts (cY [] os2++(ow++osk))=aw ts (ow++os2):=by
 simp only[aw,WQ]
 congr 1
 funext n
 simp only[A6];cases hw:aH ow n with
 |none =>
  simp only;cases h3:aH os2 n with
  |some x=>rfl
  |none =>
   simp only;cases h4:aH osk n with
   |none=>rfl
   |some x =>
    have h5:aC osk n=true:=by simp[aC,h4]
    rw[h1.same,←h2.same] at h5;simp[aC,h3] at h5
 |some x =>
  simp only;rw[h2.none (how n (by simp[aC,hw]))]
theorem eM.jt{os osk ow:List (Nat×ai)}(h1:ff os osk)(how:∀ m,aC ow m=true→m<1000000):eM [] osk (ow++osk):=by
 refine ⟨fun m x hx =>?_,fun m m' _ _ h=>h⟩;have hm:aC osk m=true:=by simp[aC,hx]
 have hg:=h1.lD m (by rw[←h1.same];exact hm);obtain ⟨k1,k2⟩:=h1.ok m x hx;refine ⟨?_,k1,k2⟩;rw[ai.mN (ρ:=bo []) (fun n=>rfl)];simp only[bo,A6];cases hw:aH ow m with
 |none=>exact hx
 |some y=>have:=how m (by simp[aC,hw]);omega
theorem dG.jt{os osk os2 os0:List (Nat×ai)}{r:I}(h1:ff os osk)(h2:ff os os2)(hr:r.bu=true):dG false [] osk os0 r os2:=by
 refine ⟨fun m x hx=>⟨(h2.ok m x hx).1,(h2.ok m x hx).2,fun h=>by cases h⟩,fun m m' _ _ h=>h,fun m hm=>by rw[h2.same,←h1.same];exact hm,fun m h3 h4 =>?_,lL _ r hr,fun h=>by cases h⟩;rw[h2.same,←h1.same,h4] at h3;cases h3
theorem aX.X2{P:Program}{Y:Value→List I→List (Nat×ai)→b6→Prop}{K:ab→Prop}{v:Value}{vs:List I}{dst:Option Nat}{rest:List ar}{ts:List (Nat×I)}{os osk ow:List (Nat×ai)}{In Ix:List (Nat×ai)→Prop}
  (hY:Y v vs osk (fun r os2=>(r=.bool true∧In os2)∨(r=.bool false∧Ix os2))) (hk:ff os osk) (hi:∀ os',In os'→ff os os') (hx:∀ os',Ix os'→ff os os') (hcl:I.cj vs=true) (how:∀ m,aC ow m=true→m<1000000)
  (h1:∀ os2,In os2→aX P Y false K (al rest ((aw ts (ow++os2)).aM dst (.bool true)))) (h2:∀ os2,Ix os2→aX P Y false K (al rest ((aw ts (ow++os2)).aM dst (.bool false)))) :
  aX P Y false K (.kH v vs dst rest (aw ts (ow++osk))):=by
 refine .th osk vs _ rfl hY (eM.jt hk how) (xr vs hcl) ?_ ?_
 ·rintro r os' (⟨rfl,h⟩ | ⟨rfl,h⟩)
  ·exact dG.jt hk (hi _ h) rfl
  ·exact dG.jt hk (hx _ h) rfl
 ·rintro r os' (⟨rfl,h⟩ | ⟨rfl,h⟩)
  ·rw[xw hk (hi _ h) how];exact h1 os' h
  ·rw[xw hk (hx _ h) how];exact h2 os' h
theorem HG(A:ab)(d:Option Nat)(args:List I)(rest:List ar)(v:Value):o8 A d args rest (.raw v)=.kH v args d rest A:=rfl
end Go.Abs
namespace Go.Proofs.YtoffnnjbplgnaaaGreatDoor
open Go Go.Abs
open Go.Abs.Enc (enc)
structure Item where
 bd:Int
 no:Int
 deriving DecidableEq,Inhabited
instance:Enc Item where
 enc x:=.agg [.int .i64 x.bd,.int .i64 x.no]
 sz:=2
 aK:=.eJ [.one,.one]
 gl:=true
 done _:=rfl
 size _:=by simp[I.size,I.sizes]
 iv _:=by simp[I.aK,I.cK]
 agg _:=rfl
structure ah where
 bd:Int
 no:Int
 kind:Int
 dW:Int
 known:Int
 eS:Int
 eZ:Int
 text:List UInt8
 deriving DecidableEq,Inhabited
def ah.bB(r:ah):Item:=⟨r.bd,r.no⟩
def ah.fx(r:ah):Item:=⟨r.eS,r.eZ⟩
instance:Enc ah where
 enc r:=.agg [enc r.bB,.int .i64 r.kind,.int .i64 r.dW,.int .i64 r.known,enc r.fx,enc (ak.of r.text)]
 sz:=8
 aK:=.eJ [.eJ [.one,.one],.one,.one,.one,.eJ [.one,.one],.one]
 gl:=true
 done e:=by simp only[I.done,I.iE,Enc.done,Bool.and_self]
 size e:=by simp only[I.size,I.sizes,lA];rfl
 iv e:=by simp only[I.aK,I.cK,eE];rfl
 agg _:=rfl
structure di where
 bK:List UInt8
 ep:List UInt8
 deriving DecidableEq,Inhabited
instance:Enc di where
 enc r:=.agg [enc (ak.of r.bK),enc (ak.of r.ep)]
 sz:=2
 aK:=.eJ [.one,.one]
 gl:=true
 done e:=by simp only[I.done,I.iE,Enc.done,Bool.and_self]
 size e:=by simp only[I.size,I.sizes,lA];rfl
 iv e:=by simp only[I.aK,I.cK,eE];rfl
 agg _:=rfl
structure dc where
 du:di
 copy:di
 deriving DecidableEq,Inhabited
instance:Enc dc where
 enc r:=.agg [enc r.du,enc r.copy]
 sz:=4
 aK:=.eJ [.eJ [.one,.one],.eJ [.one,.one]]
 gl:=true
 done e:=by simp only[I.done,I.iE,Enc.done,Bool.and_self]
 size e:=by simp only[I.size,I.sizes,lA];rfl
 iv e:=by simp only[I.aK,I.cK,eE];rfl
 agg _:=rfl
structure iP where
 l:List ah
 deriving DecidableEq,Inhabited
instance:Enc iP where
 enc b:=.agg [enc b.l]
 sz:=1
 aK:=.eJ [.one]
 gl:=true
 done e:=by simp only[I.done,I.iE,Enc.done,Bool.and_self]
 size e:=by simp only[I.size,I.sizes,lA];rfl
 iv e:=by simp only[I.aK,I.cK,eE];rfl
 agg _:=rfl
theorem pR{fs:List I}{f off:Nat}{v:I}(h1:f<fs.length)(h:I.sizes (fs.take f)=off):fI fs f off v=some v:=by simp[fI,h,h1]
theorem KY:Enc.sz Item=2:=rfl
theorem K1:Enc.sz ak=1:=rfl
theorem K0:Enc.sz di=2:=rfl
theorem Bw(x:I)(fs:List I)(v:I):fI (x::fs) 0 0 v=some v:=pR (by simp) (by simp[I.sizes])
theorem Bt(a b:Item)(n1 n2 n3:Int)(s:ak)(v:I) :
  (fI [enc a,.int .i64 n1,.int .i64 n2,.int .i64 n3,enc b,enc s] 1 2 v=some v)∧(fI [enc a,.int .i64 n1,.int .i64 n2,.int .i64 n3,enc b,enc s] 2 3 v=some v)∧(fI [enc a,.int .i64 n1,.int .i64 n2,.int .i64 n3,enc b,enc s] 3 4 v=some v) ∧
  (fI [enc a,.int .i64 n1,.int .i64 n2,.int .i64 n3,enc b,enc s] 4 5 v=some v)∧(fI [enc a,.int .i64 n1,.int .i64 n2,.int .i64 n3,enc b,enc s] 5 7 v=some v):=by
 refine ⟨?_,?_,?_,?_,?_⟩ <;>refine pR (t8 rfl) ?_ <;>simp[I.sizes,I.size,lA,KY]
theorem Br(n1 n2:Int)(v:I):fI [.int .i64 n1,.int .i64 n2] 1 1 v=some v:=pR (t8 rfl) (by simp[I.sizes,I.size])
theorem Bv(a b:ak)(v:I):fI [enc a,enc b] 1 1 v=some v:=pR (t8 rfl) (by simp[I.sizes,lA,K1])
theorem Bu(a b:di)(v:I):fI [enc a,enc b] 1 2 v=some v:=pR (t8 rfl) (by simp[I.sizes,lA,K0])
theorem Em :
  (∀ x:Item,(enc x).cZ=some [.int .i64 x.bd,.int .i64 x.no])∧(∀ r:ah,(enc r).cZ=some [enc r.bB,.int .i64 r.kind,.int .i64 r.dW,.int .i64 r.known,enc r.fx,enc (ak.of r.text)])∧(∀ r:di,(enc r).cZ=some [enc (ak.of r.bK),enc (ak.of r.ep)]) ∧
  (∀ r:dc,(enc r).cZ=some [enc r.du,enc r.copy])∧(∀ b:iP,(enc b).cZ=some [enc b.l])∧(type_of% @Bw)∧(type_of% @Bt)∧(type_of% @Br)∧(type_of% @Bv)∧(type_of% @Bu) ∧
  (∀ x:Item,bS (some 2) (enc x)=true)∧(∀ x:ah,bS (some 8) (enc x)=true)∧(∀ x:di,bS (some 2) (enc x)=true)∧(∀ x:dc,bS (some 4) (enc x)=true)∧(∀ x:iP,bS (some 1) (enc x)=true)∧(∀ x:ak,bS none (enc x)=true)∧(∀ x:List ah,bS none (enc x)=true) ∧
  (∀ r:ah,r.bB.bd=r.bd)∧(∀ r:ah,r.bB.no=r.no)∧(∀ r:ah,r.fx.bd=r.eS)∧(∀ r:ah,r.fx.no=r.eZ) ∧
  (∀ (fs:List I) x,(x::fs)[0]?=some x)∧(∀ (fs:List I) x n,(x::fs)[n+1]?=fs[n]?)∧(∀ (fs:List I) x,(x::fs)[1]?=fs[0]?)∧(∀ (fs:List I) x,(x::fs)[2]?=fs[1]?)∧(∀ (fs:List I) x,(x::fs)[3]?=fs[2]?)∧(∀ (fs:List I) x,(x::fs)[4]?=fs[3]?)∧(∀ (fs:List I) x,(x::fs)[5]?=fs[4]?) :=
 ⟨fun _=>rfl,fun _=>rfl,fun _=>rfl,fun _=>rfl,fun _=>rfl,Bw,Bt,Br,Bv,Bu,fun _=>by rw[gO];rfl,fun _=>by rw[gO];rfl,fun _=>by rw[gO];rfl,fun _=>by rw[gO];rfl,fun _=>by rw[gO];rfl,fun _=>rfl,fun _=>rfl,
  fun _=>rfl,fun _=>rfl,fun _=>rfl,fun _=>rfl,fun _ _=>rfl,fun _ _ _=>rfl,fun _ _=>rfl,fun _ _=>rfl,fun _ _=>rfl,fun _ _=>rfl,fun _ _=>rfl⟩
theorem uy(x y:Item):bR (.aV [.i .i64,.i .i64]) (enc x) (enc y)=some (decide (x=y)):=by
 show bR (.aV [.i .i64,.i .i64]) (.agg [.int .i64 x.bd,.int .i64 x.no]) (.agg [.int .i64 y.bd,.int .i64 y.no])=_
 have:x=y↔x.bd=y.bd∧x.no=y.no:=by cases x;cases y;simp
 simp[bR,gj,ic,this];rfl
theorem zx(x y:ak):bR .s (enc x) (enc y)=some (decide (x=y)):=by
 show bR .s (.aj x.b) (.aj y.b)=_
 simp only[bR];exact congrArg some (wF _ _)
theorem zu(x y:ah):bR (.aV [.aV [.i .i64,.i .i64],.i .i64,.i .i64,.i .i64,.aV [.i .i64,.i .i64],.s]) (enc x) (enc y)=some (decide (x=y)):=by
 show bR (.aV [.aV [.i .i64,.i .i64],.i .i64,.i .i64,.i .i64,.aV [.i .i64,.i .i64],.s]) (.agg [enc x.bB,.int .i64 x.kind,.int .i64 x.dW,.int .i64 x.known,enc x.fx,enc (ak.of x.text)]) (.agg [enc y.bB,.int .i64 y.kind,.int .i64 y.dW,.int .i64 y.known,enc y.fx,enc (ak.of y.text)])=_
 have:x=y↔x.bB=y.bB∧x.kind=y.kind∧x.dW=y.dW∧x.known=y.known∧x.fx=y.fx∧x.text=y.text:=by cases x;cases y;simp[ah.bB,ah.fx,and_assoc]
 rw[bR];simp only[gj,uy,zx,ak.su];simp[bR,ic,this];rfl
theorem uz(x y:di):bR (.aV [.s,.s]) (enc x) (enc y)=some (decide (x=y)):=by
 show bR (.aV [.s,.s]) (.agg [enc (ak.of x.bK),enc (ak.of x.ep)]) (.agg [enc (ak.of y.bK),enc (ak.of y.ep)])=_
 have:x=y↔x.bK=y.bK∧x.ep=y.ep:=by cases x;cases y;simp
 rw[bR];simp only[gj,zx,ak.su];simp[ic,this]
theorem zw(x y:dc):bR (.aV [.aV [.s,.s],.aV [.s,.s]]) (enc x) (enc y)=some (decide (x=y)):=by
 show bR (.aV [.aV [.s,.s],.aV [.s,.s]]) (.agg [enc x.du,enc x.copy]) (.agg [enc y.du,enc y.copy])=_
 have:x=y↔x.du=y.du∧x.copy=y.copy:=by cases x;cases y;simp
 rw[bR];simp only[gj,uz];simp[ic,this]
theorem BR:(∀ r:ah,(enc r).at [0,0]=some (.int .i64 r.bd))∧(∀ r:ah,(enc r).at [0,1]=some (.int .i64 r.no))∧(∀ r:ah,(enc r).at [4,0]=some (.int .i64 r.eS))∧(∀ r:ah,(enc r).at [4,1]=some (.int .i64 r.eZ))∧(∀ zs,e9 zs []=some zs) ∧
  (∀ (a b:Nat) (l:List Nat),[a]++(b::l)=a::b::l)∧(∀ (a b c:Nat) (l:List Nat),[a,b]++(c::l)=a::b::c::l) :=
 ⟨fun _=>rfl,fun _=>rfl,fun _=>rfl,fun _=>rfl,fun _=>rfl,fun _ _ _=>rfl,fun _ _ _ _=>rfl⟩
theorem aE:(type_of% @BR)∧(type_of% @Em)∧(∀ {α:Type} [Enc α] (aB:Bool) (A:ab) (x:α),aZ aB A (enc x)=some (enc x))∧(∀ {α:Type} [Enc α] (x:α),(enc x).cv=true)∧(type_of% @uy)∧(type_of% @zu)∧(type_of% @uz)∧(type_of% @zw)∧(type_of% @yY)∧(type_of% @iO)∧(type_of% @ba) :=
 ⟨BR,Em,@iF,@eY,uy,zu,uz,zw,yY,iO,ba⟩
theorem eR{i n:Nat}(h:i<n):decide ((i:Int)<(n:Int))=true:=by simp;omega
theorem fk{i n:Nat}(h:¬ i<n):decide ((i:Int)<(n:Int))=false:=by simp;omega
theorem ez{i:Nat}(h:i<9223372036854775807):IntKind.i64.wrap ((i:Int)+1)=((i+1:Nat):Int):=by rw[dU _ (by omega) (by omega)];rfl
def ee(lo hi n:Int):Bool:=decide (lo≤n)&&decide (n≤hi)
theorem lU(n lo hi:Int):aQ Tryz.prog 128 [enc n,enc lo,enc hi] (enc (ee lo hi n)):=by
 refine aQ.bN Tryz.func128 GD HQ I6 (t8 rfl) (fun hwf W0 bH E1 =>?_);simp only[xM,B9,bD,Z9,Nat.reduceAdd];have R:=aE
 repeat' ((first |(with_reducible refine .guard (fun hb =>?_) (fun hb =>?_) <;>try simp only[hb])|refine U.aI (by decide +kernel) rfl fun K hK =>?_|(refine .aF [0,1,2,6] hK ?_;clear hK K)|(with_reducible refine .done (hK _ ?_);clear hK K)|refine U.of rfl ?_|(with_reducible refine ay.aG (fun h =>?_) (fun h =>?_) <;>try simp only[h])) <;>try simp only[aJ,R,simprocAttr])
 all_goals clear R
 all_goals (simp at *;simp_all[ee])
 all_goals omega
theorem lW(n lo hi:Int):aQ Tryz.prog 82 [enc n,enc lo,enc hi] (enc (ee lo hi n)):=by
 refine aQ.bN Tryz.func82 Hq IA JN (t8 rfl) (fun hwf W0 bH E1 =>?_);simp only[yB,CP,bD,Z9,Nat.reduceAdd];have R:=aE
 repeat' ((first |(with_reducible refine .guard (fun hb =>?_) (fun hb =>?_) <;>try simp only[hb])|refine U.aI (by decide +kernel) rfl fun K hK =>?_|(refine .aF [0,1,2,6] hK ?_;clear hK K)|(with_reducible refine .done (hK _ ?_);clear hK K)|refine U.of rfl ?_|(with_reducible refine ay.aG (fun h =>?_) (fun h =>?_) <;>try simp only[h])) <;>try simp only[aJ,R,simprocAttr])
 all_goals clear R
 all_goals (simp at *;simp_all[ee])
 all_goals omega
theorem wS(n:Int):aQ Tryz.prog 105 [enc n] (enc (ee 0 100000 n)):=by
 refine aQ.bN Tryz.func105 Gy HN I2 (t8 rfl) (fun hwf W0 bH E1 =>?_);simp only[xJ,B5,bD];have R:=aE
 repeat' ((first |refine U.aI (by decide +kernel) rfl fun K hK =>?_|refine .flat _ (lU n 0 100000) rfl ?_|(refine .aF [0,2] hK ?_;clear hK K)|(with_reducible refine .done (hK _ ?_);clear hK K)|refine U.of rfl ?_|(with_reducible refine ay.aG (fun h =>?_) (fun h =>?_) <;>try simp only[h])) <;>try simp only[aJ,R,simprocAttr])
 all_goals clear R
theorem xc(n:Int):aQ Tryz.prog 79 [enc n] (enc (ee 0 1000002 n)):=by
 refine aQ.bN Tryz.func79 Hn Iw JK (t8 rfl) (fun hwf W0 bH E1 =>?_);simp only[yz,CM,bD];have R:=aE
 repeat' ((first |refine U.aI (by decide +kernel) rfl fun K hK =>?_|refine .flat _ (lU n 0 1000002) rfl ?_|(refine .aF [0,2] hK ?_;clear hK K)|(with_reducible refine .done (hK _ ?_);clear hK K)|refine U.of rfl ?_|(with_reducible refine ay.aG (fun h =>?_) (fun h =>?_) <;>try simp only[h])) <;>try simp only[aJ,R,simprocAttr])
 all_goals clear R
def gT(x:Item):Bool:=ee 0 5 x.bd&&ee 0 9999 x.no
theorem wU(x:Item):aQ Tryz.prog 129 [enc x] (enc (gT x)):=by
 refine aQ.bN Tryz.func129 GF HR I7 (t8 rfl) (fun hwf W0 bH E1 =>?_);simp only[xN,Ca,bD];cases q:ee 0 5 x.bd
 ·simp only[gT,q,Bool.false_and];have R:=y6 @q aE
  repeat' ((first |(with_reducible refine .guard (fun hb =>?_) (fun hb =>?_) <;>try simp only[hb])|refine U.aI (by decide +kernel) rfl fun K hK =>?_|refine .flat _ (lU x.bd 0 5) rfl ?_|refine .flat _ (lU x.no 0 9999) rfl ?_|(refine .aF [0,1,2] hK ?_;clear hK K)|(with_reducible refine .done (hK _ ?_);clear hK K)|refine U.of rfl ?_|(with_reducible refine ay.aG (fun h =>?_) (fun h =>?_) <;>try simp only[h])) <;>try simp only[aJ,R,simprocAttr])
  all_goals clear R
 ·simp only[gT,q,Bool.true_and];have R:=y6 @q aE
  repeat' ((first |(with_reducible refine .guard (fun hb =>?_) (fun hb =>?_) <;>try simp only[hb])|refine U.aI (by decide +kernel) rfl fun K hK =>?_|refine .flat _ (lU x.bd 0 5) rfl ?_|refine .flat _ (lU x.no 0 9999) rfl ?_|(refine .aF [0,1,2] hK ?_;clear hK K)|(with_reducible refine .done (hK _ ?_);clear hK K)|refine U.of rfl ?_|(with_reducible refine ay.aG (fun h =>?_) (fun h =>?_) <;>try simp only[h])) <;>try simp only[aJ,R,simprocAttr])
  all_goals clear R
theorem xd(x:Item):aQ Tryz.prog 85 [enc x] (enc (gT x)):=by
 refine aQ.bN Tryz.func85 Hs IC JP (t8 rfl) (fun hwf W0 bH E1 =>?_);simp only[c85,CR,bD];cases q:ee 0 5 x.bd
 ·simp only[gT,q,Bool.false_and];have R:=y6 @q aE
  repeat' ((first |(with_reducible refine .guard (fun hb =>?_) (fun hb =>?_) <;>try simp only[hb])|refine U.aI (by decide +kernel) rfl fun K hK =>?_|refine .flat _ (lW x.bd 0 5) rfl ?_|refine .flat _ (lW x.no 0 9999) rfl ?_|(refine .aF [0,1,2] hK ?_;clear hK K)|(with_reducible refine .done (hK _ ?_);clear hK K)|refine U.of rfl ?_|(with_reducible refine ay.aG (fun h =>?_) (fun h =>?_) <;>try simp only[h])) <;>try simp only[aJ,R,simprocAttr])
  all_goals clear R
 ·simp only[gT,q,Bool.true_and];have R:=y6 @q aE
  repeat' ((first |(with_reducible refine .guard (fun hb =>?_) (fun hb =>?_) <;>try simp only[hb])|refine U.aI (by decide +kernel) rfl fun K hK =>?_|refine .flat _ (lW x.bd 0 5) rfl ?_|refine .flat _ (lW x.no 0 9999) rfl ?_|(refine .aF [0,1,2] hK ?_;clear hK K)|(with_reducible refine .done (hK _ ?_);clear hK K)|refine U.of rfl ?_|(with_reducible refine ay.aG (fun h =>?_) (fun h =>?_) <;>try simp only[h])) <;>try simp only[aJ,R,simprocAttr])
  all_goals clear R
end Go.Proofs.YtoffnnjbplgnaaaGreatDoor
namespace Go.Proofs.YtoffnnjbplgnaaaGreatDoor
open Go Go.Abs Go.Shelf
open Go.Abs.Enc (enc)
def UB:Go.Shelf.Ren:=⟨fun | 104=>125 | 211=>153 | 207=>169 | n=>n,fun | 9=>9 | 4=>4 | 24=>42 | 3=>3 | n=>n,fun | n=>n⟩
theorem UA:Go.Proofs.Lays.n104 Tryz.prog UB := {
 mixed:=by kernel_rfl
 f104:=Tryz.func125.trans (congrArg some (by kernel_rfl))
 f207:=Tryz.func169.trans (congrArg some (by kernel_rfl))
 f211:=Tryz.func153.trans (congrArg some (by kernel_rfl))
 t3:=Tryz.underlying3
 a3:=Tryz.isAgg3
 z3:=Tryz.sizeOf3
 v3:=Tryz.zeroValue3
 t4:=Tryz.underlying4
 a4:=Tryz.isAgg4
 z4:=Tryz.sizeOf4
 v4:=Tryz.zeroValue4
 t9:=Tryz.underlying9
 a9:=Tryz.isAgg9
 z9:=Tryz.sizeOf9
 v9:=Tryz.zeroValue9
 t24:=Tryz.underlying42
 a24:=Tryz.isAgg42
 z24:=Tryz.sizeOf42
 v24:=Tryz.zeroValue42 }
def AR:Go.Shelf.Ren:=⟨fun | 137=>123 | 217=>152 | 266=>168 | n=>n,fun | 9=>9 | 5=>5 | 3=>3 | n=>n,fun | n=>n⟩
theorem AQ:Go.Proofs.Lays.n137 Tryz.prog AR := {
 mixed:=by kernel_rfl
 f137:=Tryz.func123.trans (congrArg some (by kernel_rfl))
 f217:=Tryz.func152.trans (congrArg some (by kernel_rfl))
 f266:=Tryz.func168.trans (congrArg some (by kernel_rfl))
 t3:=Tryz.underlying3
 a3:=Tryz.isAgg3
 z3:=Tryz.sizeOf3
 v3:=Tryz.zeroValue3
 t5:=Tryz.underlying5
 a5:=Tryz.isAgg5
 z5:=Tryz.sizeOf5
 v5:=Tryz.zeroValue5
 t9:=Tryz.underlying9
 a9:=Tryz.isAgg9
 z9:=Tryz.sizeOf9
 v9:=Tryz.zeroValue9 }
def Uw:Go.Shelf.Ren:=⟨fun | 172=>155 | 244=>171 | 245=>172 | 247=>189 | 279=>190 | 280=>191 | 281=>192 | 282=>193 | 287=>207 | 316=>127 | 171=>132 | 205=>208 | 321=>215 | 322=>216 | 243=>158 | 246=>174 | 283=>195 | 284=>196 | 285=>197 | 286=>198 | 129=>185 | 317=>209 | 318=>210 | 319=>211 | 320=>212 | 337=>217 | 338=>218 | n=>n,fun | 9=>9 | 3=>3 | 75=>199 | 76=>200 | 4=>4 | 5=>5 | 167=>231 | 37=>45 | 0=>0 | 85=>232 | 2=>2 | 168=>234 | 53=>227 | 175=>250 | 46=>208 | 210=>253 | 127=>202 | 145=>266 | 143=>264 | 21=>21 | 171=>239 | 173=>241 | 212=>256 | 51=>225 | 20=>20 | 213=>257 | 232=>267 | 233=>268 | 80=>206 | n=>n,fun | 15=>1 | 16=>2 | 17=>3 | 18=>4 | 19=>5 | n=>n⟩
theorem Uv:Go.Proofs.LaysC.n172 Tryz.prog Uw := {
 mixed:=by kernel_rfl
 f129:=Tryz.func185.trans (congrArg some (by kernel_rfl))
 f171:=Tryz.func132.trans (congrArg some (by kernel_rfl))
 f172:=Tryz.func155.trans (congrArg some (by kernel_rfl))
 f205:=Tryz.func208.trans (congrArg some (by kernel_rfl))
 f243:=Tryz.func158.trans (congrArg some (by kernel_rfl))
 f244:=Tryz.func171.trans (congrArg some (by kernel_rfl))
 f245:=Tryz.func172.trans (congrArg some (by kernel_rfl))
 f246:=Tryz.func174.trans (congrArg some (by kernel_rfl))
 f247:=Tryz.func189.trans (congrArg some (by kernel_rfl))
 f279:=Tryz.func190.trans (congrArg some (by kernel_rfl))
 f280:=Tryz.func191.trans (congrArg some (by kernel_rfl))
 f281:=Tryz.func192.trans (congrArg some (by kernel_rfl))
 f282:=Tryz.func193.trans (congrArg some (by kernel_rfl))
 f283:=Tryz.func195.trans (congrArg some (by kernel_rfl))
 f284:=Tryz.func196.trans (congrArg some (by kernel_rfl))
 f285:=Tryz.func197.trans (congrArg some (by kernel_rfl))
 f286:=Tryz.func198.trans (congrArg some (by kernel_rfl))
 f287:=Tryz.func207.trans (congrArg some (by kernel_rfl))
 f316:=Tryz.func127.trans (congrArg some (by kernel_rfl))
 f317:=Tryz.func209.trans (congrArg some (by kernel_rfl))
 f318:=Tryz.func210.trans (congrArg some (by kernel_rfl))
 f319:=Tryz.func211.trans (congrArg some (by kernel_rfl))
 f320:=Tryz.func212.trans (congrArg some (by kernel_rfl))
 f321:=Tryz.func215.trans (congrArg some (by kernel_rfl))
 f322:=Tryz.func216.trans (congrArg some (by kernel_rfl))
 f337:=Tryz.func217.trans (congrArg some (by kernel_rfl))
 f338:=Tryz.func218.trans (congrArg some (by kernel_rfl))
 t0:=Tryz.underlying0
 a0:=Tryz.isAgg0
 z0:=Tryz.sizeOf0
 v0:=Tryz.zeroValue0
 t2:=Tryz.underlying2
 a2:=Tryz.isAgg2
 z2:=Tryz.sizeOf2
 v2:=Tryz.zeroValue2
 t3:=Tryz.underlying3
 a3:=Tryz.isAgg3
 z3:=Tryz.sizeOf3
 v3:=Tryz.zeroValue3
 t4:=Tryz.underlying4
 a4:=Tryz.isAgg4
 z4:=Tryz.sizeOf4
 v4:=Tryz.zeroValue4
 t5:=Tryz.underlying5
 a5:=Tryz.isAgg5
 z5:=Tryz.sizeOf5
 v5:=Tryz.zeroValue5
 t9:=Tryz.underlying9
 a9:=Tryz.isAgg9
 z9:=Tryz.sizeOf9
 v9:=Tryz.zeroValue9
 t20:=Tryz.underlying20
 a20:=Tryz.isAgg20
 z20:=Tryz.sizeOf20
 v20:=Tryz.zeroValue20
 t21:=Tryz.underlying21
 a21:=Tryz.isAgg21
 z21:=Tryz.sizeOf21
 v21:=Tryz.zeroValue21
 t37:=Tryz.underlying45
 a37:=Tryz.isAgg45
 z37:=Tryz.sizeOf45
 v37:=Tryz.zeroValue45
 t46:=Tryz.underlying208
 a46:=Tryz.isAgg208
 z46:=Tryz.sizeOf208
 v46:=Tryz.zeroValue208
 t51:=Tryz.underlying225
 a51:=Tryz.isAgg225
 z51:=Tryz.sizeOf225
 v51:=Tryz.zeroValue225
 t53:=Tryz.underlying227
 a53:=Tryz.isAgg227
 z53:=Tryz.sizeOf227
 v53:=Tryz.zeroValue227
 t75:=Tryz.underlying199
 a75:=Tryz.isAgg199
 z75:=Tryz.sizeOf199
 v75:=Tryz.zeroValue199
 t76:=Tryz.underlying200
 a76:=Tryz.isAgg200
 z76:=Tryz.sizeOf200
 v76:=Tryz.zeroValue200
 t85:=Tryz.underlying232
 a85:=Tryz.isAgg232
 z85:=Tryz.sizeOf232
 v85:=Tryz.zeroValue232
 t127:=Tryz.underlying202
 a127:=Tryz.isAgg202
 z127:=Tryz.sizeOf202
 v127:=Tryz.zeroValue202
 t143:=Tryz.underlying264
 a143:=Tryz.isAgg264
 z143:=Tryz.sizeOf264
 v143:=Tryz.zeroValue264
 t145:=Tryz.underlying266
 a145:=Tryz.isAgg266
 z145:=Tryz.sizeOf266
 v145:=Tryz.zeroValue266
 t167:=Tryz.underlying231
 a167:=Tryz.isAgg231
 z167:=Tryz.sizeOf231
 v167:=Tryz.zeroValue231
 t168:=Tryz.underlying234
 a168:=Tryz.isAgg234
 z168:=Tryz.sizeOf234
 v168:=Tryz.zeroValue234
 t171:=Tryz.underlying239
 a171:=Tryz.isAgg239
 z171:=Tryz.sizeOf239
 v171:=Tryz.zeroValue239
 t173:=Tryz.underlying241
 a173:=Tryz.isAgg241
 z173:=Tryz.sizeOf241
 v173:=Tryz.zeroValue241
 t175:=Tryz.underlying250
 a175:=Tryz.isAgg250
 z175:=Tryz.sizeOf250
 v175:=Tryz.zeroValue250
 t210:=Tryz.underlying253
 a210:=Tryz.isAgg253
 z210:=Tryz.sizeOf253
 v210:=Tryz.zeroValue253
 t212:=Tryz.underlying256
 a212:=Tryz.isAgg256
 z212:=Tryz.sizeOf256
 v212:=Tryz.zeroValue256
 t213:=Tryz.underlying257
 a213:=Tryz.isAgg257
 z213:=Tryz.sizeOf257
 t232:=Tryz.underlying267
 a232:=Tryz.isAgg267
 z232:=Tryz.sizeOf267
 v232:=Tryz.zeroValue267
 t233:=Tryz.underlying268
 a233:=Tryz.isAgg268
 z233:=Tryz.sizeOf268
 v233:=Tryz.zeroValue268
 g15:=by kernel_rfl
 g16:=by kernel_rfl
 g17:=by kernel_rfl
 g18:=by kernel_rfl
 g19:=by kernel_rfl
 t80:=Tryz.underlying206
 a80:=Tryz.isAgg206
 z80:=Tryz.sizeOf206
 v80:=Tryz.zeroValue206
 i0:=by kernel_rfl
 i2:=by kernel_rfl
 i3:=by kernel_rfl
 i4:=by kernel_rfl
 i5:=by kernel_rfl
 i9:=by kernel_rfl
 i20:=by kernel_rfl
 i21:=by kernel_rfl
 i37:=by kernel_rfl
 i46:=by kernel_rfl
 i51:=by kernel_rfl
 i53:=by kernel_rfl
 i75:=by kernel_rfl
 i76:=by kernel_rfl
 i80:=by kernel_rfl
 i85:=by kernel_rfl
 i127:=by kernel_rfl
 i143:=by kernel_rfl
 i145:=by kernel_rfl
 i167:=by kernel_rfl
 i168:=by kernel_rfl
 i171:=by kernel_rfl
 i173:=by kernel_rfl
 i175:=by kernel_rfl
 i210:=by kernel_rfl
 i212:=by kernel_rfl
 i232:=by kernel_rfl
 i233:=by kernel_rfl
 m15:=by kernel_rfl
 m16:=by kernel_rfl
 m17:=by kernel_rfl
 m18:=by kernel_rfl
 m19:=by kernel_rfl
 c0:=by kernel_rfl
 c2:=by kernel_rfl
 c3:=by kernel_rfl
 c4:=by kernel_rfl
 c5:=by kernel_rfl
 c9:=by kernel_rfl
 c20:=by kernel_rfl
 c21:=by kernel_rfl
 c37:=by kernel_rfl
 c46:=by kernel_rfl
 c51:=by kernel_rfl
 c53:=by kernel_rfl
 c75:=by kernel_rfl
 c76:=by kernel_rfl
 c80:=by kernel_rfl
 c85:=by kernel_rfl
 c127:=by kernel_rfl
 c143:=by kernel_rfl
 c145:=by kernel_rfl
 c167:=by kernel_rfl
 c168:=by kernel_rfl
 c171:=by kernel_rfl
 c173:=by kernel_rfl
 c175:=by kernel_rfl
 c210:=by kernel_rfl
 c212:=by kernel_rfl
 c213:=by kernel_rfl
 c232:=by kernel_rfl
 c233:=by kernel_rfl }
def Ux:Go.Shelf.Ren:=⟨fun | 171=>132 | 243=>158 | 246=>174 | 283=>195 | 284=>196 | 285=>197 | 286=>198 | 129=>185 | 317=>209 | 318=>210 | 319=>211 | 320=>212 | 337=>217 | 338=>218 | n=>n,fun | 3=>3 | 9=>9 | 2=>2 | 4=>4 | 171=>239 | 0=>0 | 53=>227 | 37=>45 | 5=>5 | 173=>241 | 212=>256 | 51=>225 | 20=>20 | 213=>257 | 46=>208 | 232=>267 | 233=>268 | n=>n,fun | 17=>3 | 18=>4 | 19=>5 | n=>n⟩
theorem AP:Go.Proofs.LaysM.n171 Tryz.prog Ux := {
 mixed:=by kernel_rfl
 f129:=Tryz.func185.trans (congrArg some (by kernel_rfl))
 f171:=Tryz.func132.trans (congrArg some (by kernel_rfl))
 f243:=Tryz.func158.trans (congrArg some (by kernel_rfl))
 f246:=Tryz.func174.trans (congrArg some (by kernel_rfl))
 f283:=Tryz.func195.trans (congrArg some (by kernel_rfl))
 f284:=Tryz.func196.trans (congrArg some (by kernel_rfl))
 f285:=Tryz.func197.trans (congrArg some (by kernel_rfl))
 f286:=Tryz.func198.trans (congrArg some (by kernel_rfl))
 f317:=Tryz.func209.trans (congrArg some (by kernel_rfl))
 f318:=Tryz.func210.trans (congrArg some (by kernel_rfl))
 f319:=Tryz.func211.trans (congrArg some (by kernel_rfl))
 f320:=Tryz.func212.trans (congrArg some (by kernel_rfl))
 f337:=Tryz.func217.trans (congrArg some (by kernel_rfl))
 f338:=Tryz.func218.trans (congrArg some (by kernel_rfl))
 t0:=Tryz.underlying0
 a0:=Tryz.isAgg0
 z0:=Tryz.sizeOf0
 v0:=Tryz.zeroValue0
 t2:=Tryz.underlying2
 a2:=Tryz.isAgg2
 z2:=Tryz.sizeOf2
 v2:=Tryz.zeroValue2
 t3:=Tryz.underlying3
 a3:=Tryz.isAgg3
 z3:=Tryz.sizeOf3
 v3:=Tryz.zeroValue3
 t4:=Tryz.underlying4
 a4:=Tryz.isAgg4
 z4:=Tryz.sizeOf4
 v4:=Tryz.zeroValue4
 t5:=Tryz.underlying5
 a5:=Tryz.isAgg5
 z5:=Tryz.sizeOf5
 v5:=Tryz.zeroValue5
 t9:=Tryz.underlying9
 a9:=Tryz.isAgg9
 z9:=Tryz.sizeOf9
 v9:=Tryz.zeroValue9
 t20:=Tryz.underlying20
 a20:=Tryz.isAgg20
 z20:=Tryz.sizeOf20
 v20:=Tryz.zeroValue20
 t37:=Tryz.underlying45
 a37:=Tryz.isAgg45
 z37:=Tryz.sizeOf45
 v37:=Tryz.zeroValue45
 t46:=Tryz.underlying208
 a46:=Tryz.isAgg208
 z46:=Tryz.sizeOf208
 v46:=Tryz.zeroValue208
 t51:=Tryz.underlying225
 a51:=Tryz.isAgg225
 z51:=Tryz.sizeOf225
 v51:=Tryz.zeroValue225
 t53:=Tryz.underlying227
 a53:=Tryz.isAgg227
 z53:=Tryz.sizeOf227
 v53:=Tryz.zeroValue227
 t171:=Tryz.underlying239
 a171:=Tryz.isAgg239
 z171:=Tryz.sizeOf239
 v171:=Tryz.zeroValue239
 t173:=Tryz.underlying241
 a173:=Tryz.isAgg241
 z173:=Tryz.sizeOf241
 v173:=Tryz.zeroValue241
 t212:=Tryz.underlying256
 a212:=Tryz.isAgg256
 z212:=Tryz.sizeOf256
 v212:=Tryz.zeroValue256
 t213:=Tryz.underlying257
 a213:=Tryz.isAgg257
 z213:=Tryz.sizeOf257
 t232:=Tryz.underlying267
 a232:=Tryz.isAgg267
 z232:=Tryz.sizeOf267
 v232:=Tryz.zeroValue267
 t233:=Tryz.underlying268
 a233:=Tryz.isAgg268
 z233:=Tryz.sizeOf268
 v233:=Tryz.zeroValue268
 g17:=by kernel_rfl
 g18:=by kernel_rfl
 g19:=by kernel_rfl
 i0:=by kernel_rfl
 i2:=by kernel_rfl
 i3:=by kernel_rfl
 i4:=by kernel_rfl
 i5:=by kernel_rfl
 i9:=by kernel_rfl
 i20:=by kernel_rfl
 i37:=by kernel_rfl
 i46:=by kernel_rfl
 i51:=by kernel_rfl
 i53:=by kernel_rfl
 i171:=by kernel_rfl
 i173:=by kernel_rfl
 i212:=by kernel_rfl
 i232:=by kernel_rfl
 i233:=by kernel_rfl
 m17:=by kernel_rfl
 m18:=by kernel_rfl
 m19:=by kernel_rfl }
def Uz:Go.Shelf.Ren:=⟨fun | 316=>127 | n=>n,fun | 9=>9 | 3=>3 | 4=>4 | 37=>45 | 0=>0 | 127=>202 | 5=>5 | n=>n,fun | n=>n⟩
theorem Uy:Go.Proofs.LaysM.n316 Tryz.prog Uz := {
 mixed:=by kernel_rfl
 f316:=Tryz.func127.trans (congrArg some (by kernel_rfl))
 t0:=Tryz.underlying0
 a0:=Tryz.isAgg0
 z0:=Tryz.sizeOf0
 v0:=Tryz.zeroValue0
 t3:=Tryz.underlying3
 a3:=Tryz.isAgg3
 z3:=Tryz.sizeOf3
 v3:=Tryz.zeroValue3
 t4:=Tryz.underlying4
 a4:=Tryz.isAgg4
 z4:=Tryz.sizeOf4
 v4:=Tryz.zeroValue4
 t9:=Tryz.underlying9
 a9:=Tryz.isAgg9
 z9:=Tryz.sizeOf9
 v9:=Tryz.zeroValue9
 t37:=Tryz.underlying45
 a37:=Tryz.isAgg45
 z37:=Tryz.sizeOf45
 v37:=Tryz.zeroValue45
 t127:=Tryz.underlying202
 a127:=Tryz.isAgg202
 z127:=Tryz.sizeOf202
 v127:=Tryz.zeroValue202
 t5:=Tryz.underlying5
 a5:=Tryz.isAgg5
 z5:=Tryz.sizeOf5
 v5:=Tryz.zeroValue5
 i0:=by kernel_rfl
 i3:=by kernel_rfl
 i4:=by kernel_rfl
 i5:=by kernel_rfl
 i9:=by kernel_rfl
 i37:=by kernel_rfl
 i127:=by kernel_rfl }
theorem EF(s p:ak):aQ Tryz.prog 125 [enc s,enc p] (.tuple [enc (ak.of (Lib.trimSuffix s.l p.l)),enc (Lib.hasSuffix s.l p.l)]):=J0 UA GB s p
theorem EE(s:ak)(c:UInt8):aQ Tryz.prog 123 [enc s,.int .u8 c.toNat] (enc (Lib.indexByte s.l c)):=J1 AQ GA s c
theorem tp(s:ak)(hs:s.l.length≤281474976710656):aQ Tryz.prog 155 [enc s] (gx 234 s.l):=JY Uv GW (by kernel_rfl) (by kernel_rfl) rfl s hs
theorem EK(n:Int):aQ Tryz.prog 132 [enc n] (enc (u6 n)):=J2 AP GI (g:=3) (by kernel_rfl) n
theorem EH(s:ak)(hs:s.l.length≤281474976710656):aQ Tryz.prog 127 [enc s] (enc s):=JZ Uy GC s hs
theorem Uu:Go.Proofs.Lays.n217 Tryz.prog AR := { AQ with }
theorem Ua(l:List UInt8)(c:UInt8):-1≤Lib.indexByte l c∧Lib.indexByte l c≤l.length:=by
 refine ⟨Lib.indexByte_ge l c,?_⟩
 induction l with
 |nil=>simp[Lib.indexByte]
 |cons b l ih =>
  unfold Lib.indexByte
  (repeat' split) <;>simp only[zz4] <;>omega
theorem ES(s:ak)(c:UInt8):aQ Tryz.prog 152 [enc s,.int .u8 c.toNat] (enc (Lib.indexByte s.l c)):=by
 refine ⟨GU,fun w D vs hl hD hv =>?_⟩;obtain ⟨rest,rfl,hsz,hv2⟩:=wE hv;simp only[ao] at hv2;obtain ⟨v,rest2,cs,rfl,h1,h2,rfl⟩:=hv2;obtain ⟨rfl,_⟩:=dp (fp h1 h2);have key:=Any.stringslite_IndexByte Uu s.b (c.toNat:Int) w;have hcc:((c.toNat:Int)).toNat.toUInt8=c:=by simp
 rw[hcc] at key;refine Calls.mono key ?_;rintro e w' ⟨rfl,rfl⟩;refine ⟨_,D,rfl,⟨[_],by simp[aW,I.isAgg,enc];rfl,?_⟩,Go.RowKit.Below.refl _ w',hD,fun _ _ h _=>h⟩
 show ae _ _ _ (.int .i64 (Lib.indexByte s.l c)) _
 simp only[ae];refine ⟨rfl,?_⟩;have g:=Ua s.l c;rw[ak.size] at hsz;have hmin:IntKind.i64.min=-9223372036854775808:=by decide
 have hmax:IntKind.i64.max=9223372036854775807:=by decide
 unfold maxLen at hsz;rw[hmin,hmax];omega
theorem EW(s:ak)(c:UInt8):aQ Tryz.prog 188 [enc s,enc (ak.of [c])] (enc (Lib.indexByte s.l c)):=by
 refine aQ.bN Tryz.func188 G3 Ib Jq (t8 rfl) (fun hwf W0 bH E1 =>?_);simp only[yd,Ct,bD,Z9];have hsi:=DI (ak.of [c]) (i:=0) (by rw[ak.de];exact Nat.zero_lt_one);have hl1:lG (enc (ak.of [c]))=some (.int .i64 1):=by rw[qj];rfl
 have hsi':ej .dK [enc (ak.of [c]),.int .i64 0]=some (.int .u8 (c.toNat:Int)):=hsi;cases q:decide (ak.of [c]=s)
 ·have R:=y6 @hsi' (y6 @hl1 (y6 @q (y6 @bl aE)))
  repeat' ((first |(with_reducible refine .guard (fun hb =>?_) (fun hb =>?_) <;>try simp only[hb])|refine U.aI (by decide +kernel) rfl fun K hK =>?_|refine .flat _ (ES s c) rfl ?_|(refine .aF [0,1,4,5,6,7,8,9,10,11,12,13,16,24,31,36,59,64,73,93,107,114,132,139] hK ?_;clear hK K)|(with_reducible refine .done (hK _ ?_);clear hK K)|refine U.of rfl ?_|(with_reducible refine ay.aG (fun h =>?_) (fun h =>?_) <;>try simp only[h])) <;>try simp only[aJ,R,simprocAttr])
  all_goals clear R
 ·have e:=of_decide_eq_true q;subst e;have R:=y6 @hl1 (y6 @bl aE)
  repeat' ((first |(with_reducible refine .guard (fun hb =>?_) (fun hb =>?_) <;>try simp only[hb])|refine U.aI (by decide +kernel) rfl fun K hK =>?_|(refine .aF [0,1,4,5,6,7,8,9,10,11,12,13,16,24,31,36,59,64,73,93,107,114,132,139] hK ?_;clear hK K)|(with_reducible refine .done (hK _ ?_);clear hK K)|refine U.of rfl ?_|(with_reducible refine ay.aG (fun h =>?_) (fun h =>?_) <;>try simp only[h])) <;>try simp only[aJ,R,eq_self,decide_true,simprocAttr])
  all_goals clear R
  show I.int .i64 0=I.int .i64 (Lib.indexByte [c] c)
  simp[Lib.indexByte]
def dk(c:UInt8):List UInt8→Option (List UInt8×List UInt8)
 | []=>none
 |b::l=>if b=c then some ([],l) else (dk c l).map fun p=>(b::p.1,p.2)
def jn(c:UInt8)(l:List UInt8):List UInt8×List UInt8×Bool:=match dk c l with
 |some p=>(p.1,p.2,true)
 |none=>(l,[],false)
theorem rh(c:UInt8):∀ l:List UInt8,(dk c l=none∧Lib.indexByte l c=-1)∨∃ i:Nat,i<l.length∧Lib.indexByte l c=i∧dk c l=some (l.take i,l.drop (i+1))
 | []=>.inl ⟨rfl,rfl⟩
 |b::l=>by
  by_cases h:b=c
  ·refine .inr ⟨0,by simp,by simp[Lib.indexByte,h],by simp[dk,h]⟩
  ·rcases rh c l with ⟨h1,h2⟩ | ⟨i,h0,h1,h2⟩
   ·refine .inl ⟨by simp[dk,h,h1],by simp[Lib.indexByte,h,h2]⟩
   ·refine .inr ⟨i+1,by simpa using h0,?_,by simp[dk,h,h2]⟩;simp only[Lib.indexByte,h1];simp[h]
    try omega
theorem EV(s:ak)(c:UInt8):aQ Tryz.prog 170 [enc s,enc (ak.of [c])] (.tuple [enc (ak.of (jn c s.l).1),enc (ak.of (jn c s.l).2.1),enc (jn c s.l).2.2]):=by
 refine aQ.wf yQ fun hwf0 =>?_;have hlen:s.l.length≤maxLen:=by
  have:=hwf0.1;rw[←ak.size];exact this
 simp only[maxLen] at hlen;refine aQ.bN Tryz.func170 yQ H8 Jn (t8 rfl) (fun hwf W0 bH E1 =>?_);simp only[yb,Cq,bD,Z9];clear hwf;have hF:=EW s c;have hl1:lG (enc (ak.of [c]))=some (.int .i64 1):=by rw[qj];rfl
 rcases rh c s.l with ⟨h1,h2⟩ | ⟨i,h0,h1,h2⟩
 ·rw[h2] at hF;simp only[jn,h1];have R:=y6 @hl1 (y6 @bl aE)
  repeat' ((first |refine U.aI (by decide +kernel) rfl fun K hK =>?_|refine .flat _ (hF) rfl ?_|(refine .aF [0,1,4,5,6,7,12] hK ?_;clear hK K)|(with_reducible refine .done (hK _ ?_);clear hK K)|refine U.of rfl ?_|(with_reducible refine ay.aG (fun h =>?_) (fun h =>?_) <;>try simp only[h])) <;>try simp only[aJ,R,decide_false,simprocAttr])
  all_goals clear R
  rw[ak.vz];rfl
 ·rw[h1] at hF;simp only[jn,h2];have g1:=mX s (j:=i) (by omega);have g2:=we s (i:=i+1) (by omega);have hw:=ez (i:=i) (by omega);have hd:decide ((i:Int)≥0)=true:=decide_eq_true (by omega);have R:=y6 @hd (y6 @hl1 (y6 @hw (y6 @g1 (y6 @g2 (y6 @bl aE)))))
  repeat' ((first |refine U.aI (by decide +kernel) rfl fun K hK =>?_|refine .flat _ (hF) rfl ?_|(refine .aF [0,1,4,5,6,7,12] hK ?_;clear hK K)|(with_reducible refine .done (hK _ ?_);clear hK K)|refine U.of rfl ?_|(with_reducible refine ay.aG (fun h =>?_) (fun h =>?_) <;>try simp only[h])) <;>try simp only[aJ,R,decide_true,simprocAttr])
  all_goals clear R
  trace_state
  all_goals rfl
theorem wY(s:ak)(c:UInt8):aQ Tryz.prog 154 [enc s,enc (ak.of [c])] (.tuple [enc (ak.of (jn c s.l).1),enc (ak.of (jn c s.l).2.1),enc (jn c s.l).2.2]):=by
 refine aQ.bN Tryz.func154 GV H3 Ji (t8 rfl) (fun hwf W0 bH E1 =>?_);simp only[xY,Cl,bD,Z9];have R:=y6 @bl aE
 repeat' ((first |refine U.aI (by decide +kernel) rfl fun K hK =>?_|refine .flat _ (EV s c) rfl ?_|(refine .aF [0,1,4,5,6] hK ?_;clear hK K)|(with_reducible refine .done (hK _ ?_);clear hK K)|refine U.of rfl ?_|(with_reducible refine ay.aG (fun h =>?_) (fun h =>?_) <;>try simp only[h])) <;>try simp only[aJ,R,simprocAttr])
 all_goals clear R
 all_goals rfl
theorem E8(s:ak)(hs:s.l.length≤281474976710656):aQ Tryz.prog 74 [enc s] (enc s):=by
 refine aQ.bN Tryz.func74 Hk It JH (t8 rfl) (fun hwf W0 bH E1 =>?_);simp only[yw,CJ,bD];have R:=y6 @bl aE
 repeat' ((first |refine U.aI (by decide +kernel) rfl fun K hK =>?_|refine .flat _ (EH s hs) rfl ?_|(refine .aF [0,2] hK ?_;clear hK K)|(with_reducible refine .done (hK _ ?_);clear hK K)|refine U.of rfl ?_|(with_reducible refine ay.aG (fun h =>?_) (fun h =>?_) <;>try simp only[h])) <;>try simp only[aJ,R,simprocAttr])
 all_goals clear R
 all_goals rfl
end Go.Proofs.YtoffnnjbplgnaaaGreatDoor
namespace Go.Proofs.YtoffnnjbplgnaaaGreatDoor
open Go Go.Abs
open Go.Abs.Enc (enc)
theorem zd{c:UInt8} : ∀ {x:List UInt8} (y:List UInt8),(∀ b∈x,b≠c)→dk c (x++c::y)=some (x,y)
 | [],y,_=>by simp[dk]
 |b::x,y,h=>by
  have ih:=zd (x:=x) y fun z hz=>h z (by simp[hz]);simp only[Y2,dk,if_neg (h b (by simp)),ih,Y1]
def c7(l:List Int):List UInt8:=l.flatMap fun n=>Lib.itoa n++[32]
def gr(f:List UInt8→Option Int):Nat→List UInt8→Option (List Int×List UInt8)
 |0,s=>some ([],s)
 |k+1,s=>match dk 32 s with
  |none=>none
  |some (w,t)=>match f w with
   |none=>none
   |some n=>(gr f k t).map fun p=>(n::p.1,p.2)
theorem wI{f:List UInt8→Option Int}(t:List UInt8):∀ {l:List Int},(∀ n∈l,0≤n∧f (Lib.itoa n)=some n)→gr f l.length (c7 l++t)=some (l,t)
 | [],_=>rfl
 |n::l,h=>by
  have ih:=wI t (l:=l) fun m hm=>h m (by simp[hm]);have hn:=h n (by simp);simp only[zz4,gr,c7,List.flatMap_cons,Z3,Y2,zz2];rw[zd _ (zl hn.1 (by decide))];simp only[hn.2];rw[c7] at ih;rw[ih,Y1]
def fB(w:List UInt8):Option Int:=match Lib.atoiAll w with
 | .ok n=>some n
 |_=>none
def mE(w:List UInt8):Option Int:=if w=[]∨8<w.length then none else (eD 0 w).map fun n=>(n:Int)
theorem BD{n:Int}(h:0≤n∧n<100000000):fB (Lib.itoa n)=some n∧mE (Lib.itoa n)=some n:=by
 obtain ⟨m,rfl⟩:=Y0 h.1;have hm:=Vd (k:=7) (show m<10^(7+1) by omega);obtain ⟨h1,h2,_⟩:=Ve (by omega) hm;refine ⟨by rw[fB,h1],?_⟩;rw[mE,if_neg]
 ·rw[Lib.itoa_nonneg,(nH m).1];rfl
 ·rintro (k | k)
  ·exact Um h.1 k
  ·omega
def dE(r:ah):List Int:=[r.bd,r.no,r.kind,r.dW,r.known,r.eS,r.eZ]
def il(n:List Int)(t:List UInt8):ah:=⟨n.getD 1 0,n.getD 2 0,n.getD 3 0,n.getD 4 0,n.getD 5 0,n.getD 6 0,n.getD 7 0,t⟩
theorem Bh(s:Int)(r:ah):il (s::dE r) r.text=r:=rfl
def cC(r:ah):List UInt8:=c7 (dE r)++r.text
def cM(s:Int)(l:List UInt8):Int:=l.foldl (fun s c=>(257*s+c.toNat+1)%1000003) s
theorem jM{s:Int}(h:0≤s∧s<1000003):∀ l,0≤cM s l∧cM s l<1000003:=by
 intro l
 induction l generalizing s with
 |nil=>exact h
 |cons c l ih =>
  rw[cM,List.foldl_cons];exact ih (by omega)
def cS(s:Int)(r:ah):List UInt8:=c7 [cM s (cC r)]++cC r++[10]
theorem ve(s:Int)(r:ah):cS s r=(c7 (cM s (cC r)::dE r)++r.text)++[10]:=by
 simp only[cS,cC,c7,List.flatMap_cons,List.flatMap_nil,zy6,Z3]
section
variable (ok:ah→Bool)
def kK(s:Int)(t:List UInt8)(r:ah):Option (ah×Int):=if ok r=true∧cS s r=t then some (r,cM s (cC r)) else none
def dn(s:Int)(t:List UInt8):Option (ah×Int):=if t.getLast?=some 10 then
  (gr fB 8 t.dropLast).bind fun p=>(kK ok s t (il p.1 p.2)).bind fun q=>if p.1.headD 0=q.2 then some q else none
 else none
def C6(s:Int)(t:List UInt8):Option (ah×Int) :=
 (gr mE 8 t).bind fun p=>if t.getLast?=some 10∧p.2≠[] then kK ok s t (il p.1 p.2.dropLast) else none
theorem K2{s:Int}{t:List UInt8}{r:ah}{q:ah×Int}(h:kK ok s t r=some q):ok q.1=true∧cS s q.1=t∧q.2=cM s (cC q.1):=by
 rw[kK] at h;by_cases c:ok r=true∧cS s r=t
 ·rw[if_pos c] at h;cases h;exact ⟨c.1,c.2,rfl⟩
 ·rw[if_neg c] at h;cases h
theorem C5{s:Int}{t:List UInt8}{q:ah×Int}(h:dn ok s t=some q):ok q.1=true∧cS s q.1=t∧q.2=cM s (cC q.1):=by
 rw[dn] at h;by_cases c:t.getLast?=some 10
 ·rw[if_pos c] at h;cases hp:gr fB 8 t.dropLast with
  |none=>rw[hp] at h;cases h
  |some p =>
   rw[hp,zy5] at h;cases he:kK ok s t (il p.1 p.2) with
   |none=>rw[he] at h;cases h
   |some q' =>
    rw[he,zy5] at h;by_cases k:p.1.headD 0=q'.2
    ·rw[if_pos k] at h;cases h;exact K2 ok he
    ·rw[if_neg k] at h;cases h
 ·rw[if_neg c] at h;cases h
theorem WE{s:Int}(hs:0≤s∧s<1000003){r:ah}(h:ok r=true)(hn:∀ n∈dE r,0≤n∧n<100000000) :
  dn ok s (cS s r)=some (r,cM s (cC r))∧C6 ok s (cS s r)=some (r,cM s (cC r)):=by
 have hb:=jM hs (cC r);have hm:∀ n∈cM s (cC r)::dE r,0≤n∧n<100000000:=fun n hn'=>by
  rcases zy0.1 hn' with rfl | hn'
  ·omega
  ·exact hn n hn'
 have e:=ve s r;have hl:(cS s r).getLast?=some 10:=by rw[e,List.getLast?_append];rfl
 have hd:(cS s r).dropLast=c7 (cM s (cC r)::dE r)++r.text:=by rw[e,List.dropLast_concat]
 have he:kK ok s (cS s r) r=some (r,cM s (cC r)):=by rw[kK,if_pos ⟨h,rfl⟩]
 constructor
 ·rw[dn,if_pos hl,hd,show 8=(cM s (cC r)::dE r).length from rfl,wI (f:=fB) r.text fun n hn'=>⟨(hm n hn').1,(BD (hm n hn')).1⟩,zy5];simp only[Bh,he,zy5,List.headD_cons,if_true]
 ·have ht:gr mE 8 (cS s r)=some (cM s (cC r)::dE r,r.text++[10]):=by
   rw[e,Z3];exact wI (f:=mE) (r.text++[10]) fun n hn'=>⟨(hm n hn').1,(BD (hm n hn')).2⟩
  rw[C6,ht,zy5,if_pos ⟨hl,by simp⟩];simp only[List.dropLast_concat,Bh,he]
end
def jl:List PanicEntry:=[{ v:=.iface 176 (.agg #[]),recovered:=false }]
theorem mI{Q:Exit→ab→Prop}{x:au}{A:ab}(h:af A x=.iface 176 (.agg []))(hq:Q (.panic jl) A):lu Tryz.prog Q (.prim .j8 [x]) A:=.j8 h hq
theorem jy:(∀ T:TypeId,ej (.lI T) [.agg []]=some (.iface T (.agg [])))∧e9 [] []=some []:=⟨fun _=>rfl,rfl⟩
theorem vH{A:ab} : vI jl (fun os'=>os'=[]) (.panic jl) A:=⟨rfl,[],[],u1,trivial,rfl,rfl⟩
theorem mg:(I.aj ⟨#[32]⟩)=enc (ak.of [32]):=rfl
theorem pf:(I.aj ⟨#[10]⟩)=enc (ak.of [10]):=rfl
theorem BC{w:List UInt8}{n:Int}(h:fB w=some n):gx 234 w=.tuple [enc n,.cN]:=by
 unfold fB at h;split at h
 ·rename_i m hm;cases h;simp only[gx,hm]
 ·cases h
theorem BB{w:List UInt8}(h:fB w=none):∃ n:Int,gx 234 w=.tuple [enc n,.iface 234 .any]:=by
 unfold fB at h;split at h
 ·cases h
 ·rename_i hm;cases hr:Lib.atoiAll w with
  |ok n=>exact absurd hr (hm n)
  |range=>exact ⟨_,by simp only[gx,hr];rfl⟩
  | _ =>exact ⟨0,by simp only[gx,hr]⟩
theorem rj{c:UInt8}{l:List UInt8}{p:List UInt8×List UInt8}(h:dk c l=some p):p.1.length+p.2.length<l.length:=by
 rcases rh c l with ⟨h1,_⟩ | ⟨i,h0,_,h2⟩
 ·rw[h1] at h;cases h
 ·rw[h2] at h;cases h;simp only[Z6,List.length_drop];omega
theorem wT(s:ak)(hlen:s.l.length≤281474976710656)(w t:List UInt8)(n:Int)(h1:dk 32 s.l=some (w,t))(h2:fB w=some n):aQ Tryz.prog 126 [enc s] (.tuple [enc n,enc (ak.of t)]):=by
 refine aQ.bN Tryz.func126 yP yV I5 (t8 rfl) (fun hwf W0 bH E1 =>?_);simp only[tT,B8,bD];clear hwf;have hc:=wY s 32;simp only[jn,h1] at hc;have hl:=rj h1;simp only at hl;have ha:=tp (ak.of w) (by rw[ak.de];omega);rw[ak.de,BC h2] at ha;have R:=y6 @mg (y6 @bl aE)
 repeat' ((first |(with_reducible refine .guard (fun hb =>?_) (fun hb =>?_) <;>try simp only[hb])|refine U.aI (by decide +kernel) rfl fun K hK =>?_|refine .flat _ (hc) rfl ?_|refine .lead _ (ha) ?_|(refine .aF [0,2,3,4,5,6,7,8,25] hK ?_;clear hK K)|(with_reducible refine .done (hK _ ?_);clear hK K)|refine U.of rfl ?_|(with_reducible refine ay.aG (fun h =>?_) (fun h =>?_) <;>try simp only[h])) <;>try simp only[aJ,R,simprocAttr])
 all_goals clear R
 all_goals rfl
theorem EG(s:ak)(hlen:s.l.length≤281474976710656)(h:∀ w t,dk 32 s.l=some (w,t)→fB w=none):oH Tryz.prog 126 jl [enc s] [] (fun os'=>os'=[]):=by
 refine oH.mk Tryz.func126 yP yV (t8 rfl) (t8 rfl) (fun m hm=>by simp[aC,aH] at hm) (fun hwf W0 bH E1 =>?_);simp only[tT,bD];clear hwf;have hc:=wY s 32;cases h1:dk 32 s.l with
 |none =>
  simp only[jn,h1] at hc;have ha:=tp (ak.of s.l) (by rw[ak.de];omega);rw[ak.de] at ha;cases ho:fB s.l with
  |some n =>
   rw[BC ho] at ha;have R:=y6 @mg (y6 @jy (y6 @bl aE))
   repeat' ((first |(with_reducible refine .guard (fun hb =>?_) (fun hb =>?_) <;>try simp only[hb])|(refine U.kV (gs:=rG) (gs1:=[_,_]) rfl fun K hK =>?_)|refine U.aI (by decide +kernel) rfl fun K hK =>?_|refine .flat _ (hc) rfl ?_|refine .lead _ (ha) ?_|(refine .aF [0,2,3,4,5,6,7,8,25] hK ?_;clear hK K)|(with_reducible refine .done (hK _ ?_);clear hK K)|refine U.of rfl ?_|(with_reducible refine ay.aG (fun h =>?_) (fun h =>?_) <;>try simp only[h])) <;>try simp only[aJ,R,simprocAttr])
   all_goals clear R
   refine mI ?_ vH;rfl
  |none =>
   obtain ⟨n,hn⟩:=BB ho;rw[hn] at ha;have R:=y6 @mg (y6 @jy (y6 @bl aE))
   repeat' ((first |(with_reducible refine .guard (fun hb =>?_) (fun hb =>?_) <;>try simp only[hb])|(refine U.kV (gs:=rG) (gs1:=[_,_]) rfl fun K hK =>?_)|refine U.aI (by decide +kernel) rfl fun K hK =>?_|refine .flat _ (hc) rfl ?_|refine .lead _ (ha) ?_|(refine .aF [0,2,3,4,5,6,7,8,25] hK ?_;clear hK K)|(with_reducible refine .done (hK _ ?_);clear hK K)|refine U.of rfl ?_|(with_reducible refine ay.aG (fun h =>?_) (fun h =>?_) <;>try simp only[h])) <;>try simp only[aJ,R,simprocAttr])
   all_goals clear R
   refine mI ?_ vH;rfl
 |some p =>
  obtain ⟨w,t⟩:=p;simp only[jn,h1] at hc;have hl:=rj h1;simp only at hl;have ha:=tp (ak.of w) (by rw[ak.de];omega);obtain ⟨n,hn⟩:=BB (h w t h1);rw[ak.de,hn] at ha;have R:=y6 @mg (y6 @jy (y6 @bl aE))
  repeat' ((first |(with_reducible refine .guard (fun hb =>?_) (fun hb =>?_) <;>try simp only[hb])|(refine U.kV (gs:=rG) (gs1:=[_,_]) rfl fun K hK =>?_)|refine U.aI (by decide +kernel) rfl fun K hK =>?_|refine .flat _ (hc) rfl ?_|refine .lead _ (ha) ?_|(refine .aF [0,2,3,4,5,6,7,8,25] hK ?_;clear hK K)|(with_reducible refine .done (hK _ ?_);clear hK K)|refine U.of rfl ?_|(with_reducible refine ay.aG (fun h =>?_) (fun h =>?_) <;>try simp only[h])) <;>try simp only[aJ,R,simprocAttr])
  all_goals clear R
  refine mI ?_ vH;rfl
theorem T8:qH Tryz.prog 124 3:=⟨yO,fun bs w hb=>by
 obtain ⟨b1,b2,b3,rfl⟩:∃ b1 b2 b3,bs=[b1,b2,b3]:=by
  match bs,hb with
  | [a,b,c],_=>exact ⟨a,b,c,rfl⟩
 refine callsDIn_of_wpSIn Tryz.func124 rfl trivial fun c₀ cs hu =>?_;apply wpSIn_seq;apply wpSIn_region;simp[wpOpsSIn,go_sem,recoverD,hu,Tryz.ntmps124,Exit.thenS];refine wpSIn_of_wpIn rfl (wpIn_block (wpIn_seq (wpIn_region_list ?_)));simp[wpListIn,go_sem];refine wpIn_cond (t:=true) (by simp[Act.eval,Array.replicate]) ?_;simp only[if_true];refine wpIn_region_list ?_;simp[wpListIn,go_sem,Exit.inBlock];cases c₀
 simp_all[bodyPostS,results,Tryz.results124]⟩
theorem vE{P:Program}{o:Oper}{a:Act}{w w':World}{Kw:Act→World→Prop}{Q:Exit→Act→World→Prop}{n:Nat}(h:(execOp a.eval o).run P w=.ok .skip w')(hK:Kw (a.put o.dst undef) w'):o.wpIn Fence.wide n P a w Kw Q:=by
 refine ⟨fun _ _=>trivial,?_⟩
 show o.uponIn _ _ _ _ _ _ ((execOp a.eval o).run P w)
 rw[h,Oper.uponIn_skip];exact hK
theorem V9{P:Program}{o:Oper}{a:Act}{w w':World}{v:Value}{Kw:Act→World→Prop}{Q:Exit→Act→World→Prop}{n:Nat}(h:(execOp a.eval o).run P w=.ok (.value v) w')(hK:Kw (a.put o.dst v) w'):o.wpIn Fence.wide n P a w Kw Q:=by
 refine ⟨fun _ _=>trivial,?_⟩
 show o.uponIn _ _ _ _ _ _ ((execOp a.eval o).run P w)
 rw[h,Oper.uponIn_value];exact hK
theorem wA{P:Program}{o:Oper}{ρ:Operand→Value}{t:TypeId}{x y:Operand}{p v:Value}{w w':World}(ho:o.op=.store t x y)(hx:ρ x=p)(hy:ρ y=v)(h:(Instr.storeAt t p v).run P w=.ok () w'):(execOp ρ o).run P w=.ok .skip w':=by
 simp only[execOp,ho,hx,hy,Sem.run_bind,h];rfl
theorem wD{c:cm}{A:ab}{a:Act}{w:World}{D:aD}{E:aN}{P:Program}(hs:aL c A a w D E){N b:Nat}{x z:I}{v:Value}{ds:List Value}{t:TypeId}{i:TypeInfo}(hn:A.o N=some (.box x))(aq:E N=some (.aB b z.aK))(hsh:x.aK=z.aK)
  (hz:ae w D E z ds) (hv:v.cells.toList=ds) (hi:P.info? t=some i) (hsz:i.size=ds.length) :
  ∃ w',(Instr.storeAt t (jF b) v).run P w=.ok () w'∧aL c (A.aO N (.box z)) a w' D E:=by
 obtain ⟨b',cs,T,k1,k2,k3,k4,k5⟩:=hs.box hn;rw[aq] at k1;simp only[v6,br.aB.injEq] at k1;obtain ⟨rfl,_⟩:=k1;have l1:=ae.length _ _ k4;have l2:=ae.length _ _ hz;have l3:x.size=z.size:=by rw[←I.hE x,←I.hE z,hsh]
 have hcl:cs.size=ds.length:=by rw[←zz5,l1,l2,l3]
 have hrun:=sU P b 0 T ds 0 cs w k3 (by omega) (ae.j6 _ _ hz);simp only[Nat.add_zero] at hrun;have e:(cs.toList.take 0++ds++cs.toList.drop (0+ds.length))=ds:=by
  rw[List.take_zero,zz2,Z9,List.drop_eq_nil_of_le (by rw[zz5];omega),zy6]
 rw[e] at hrun;have hs2:=hs.wj (y:=z) (cs':=ds.toArray) hn (hsh▸aq) hsh.symm (by simpa using hz);refine ⟨w.setRow b ds.toArray,?_,hs2⟩;have hg:¬ v.cells.size≠i.size:=by rw[hsz,←hv];simp
 have e2:P.cellsOf t=i.size:=by simp[Program.cellsOf,hi]
 simp only[jF,Instr.storeAt,Instr.sureAddr,storeVar,Sem.run_bind,Sem.run_pure,Result.andThen_ok,gq hi,Sem.run_ite,e2,if_neg hg,hv,hrun]
theorem HK:qC Tryz.prog 124 jl [enc (default:ah),.int .i64 0,.bool false]:=⟨yO,fun c A a w D E Ns bs hP hs aq hA=>by
 have hta:∀ W,(Instr.typeAssert (.iface 176 (.agg #[])) 20 176 true).run Tryz.prog W=.ok (.tuple #[.agg #[],.bool true]) W:=fun W=>by
  simp[Instr.typeAssert,run_underlying Tryz.underlying176]
 obtain ⟨N1,N2,N3,rfl⟩:∃ a b c,Ns=[a,b,c]:=by
  match Ns,aq.len.2 with
  | [a,b,c],_=>exact ⟨a,b,c,rfl⟩
 obtain ⟨b1,b2,b3,rfl⟩:∃ a b c,bs=[a,b,c]:=by
  match bs,aq.len.1 with
  | [a,b,c],_=>exact ⟨a,b,c,rfl⟩
 obtain ⟨hE1,hE2,hE3,_⟩:=aq;obtain ⟨⟨x1,hx1,hsh1⟩,⟨x2,hx2,hsh2⟩,⟨x3,hx3,hsh3⟩,_⟩:=hA;refine callsDIn_of_wpSIn Tryz.func124 rfl trivial fun c₀ cs hu =>?_;apply wpSIn_seq;apply wpSIn_region;simp[wpOpsSIn,go_sem,recoverD,hu,Tryz.ntmps124,Exit.thenS,jl];refine wpSIn_of_wpIn rfl (wpIn_block (wpIn_seq (wpIn_region_list ?_)));simp[wpListIn,go_sem];refine wpIn_cond (t:=false) (by simp[Act.eval,Array.replicate]) ?_;simp only[Z7,if_false];refine wpIn_seq (wpIn_region_list ?_);simp[wpListIn,go_sem,hta];refine wpIn_cond (t:=true) (by simp[Act.eval,Array.replicate]) ?_;simp only[if_true];refine wpIn_seq (wpIn_region_list ?_);simp[wpListIn,go_sem];refine wpIn_region_list ?_;have hb:Go.RowKit.Below w.heap.size w (w.alloc (Obj.cells #[] 176)):=iU _ _;have hs1:=hs.grow (D':=D) hb (fun _ _ h=>h) (fun _ _ h _=>h) (fun b o hd=>Nat.lt_of_lt_of_le (hs.cL b o hd) hb.size);generalize w.alloc (Obj.cells #[] 176)=W1 at *;have nx:∀ {A:ab} {N M b d:Nat} {z y:I},E N=some (.aB b z.aK)→E M=some (.aB d y.aK)→(∃ x,A.o M=some (.box x)∧x.aK=y.aK)→∃ x,(A.aO N (.box z)).o M=some (.box x)∧x.aK=y.aK:=by
  intro A N M b d z y h1 h2 ⟨x,h3,h4⟩;by_cases e:M=N
  ·subst e;rw[h1] at h2;simp only[v6,br.aB.injEq] at h2;exact ⟨z,by simp[ab.aO],h2.2⟩
  ·exact ⟨x,by simp[ab.aO,e,h3],h4⟩
 obtain ⟨i50,hi50,hz50⟩:∃ i,Tryz.prog.info? 50=some i∧i.size=8:=by
  have h:(Tryz.prog.info? 50).map (·.size)=some 8:=by kernel_rfl
  obtain ⟨i,h1,h2⟩:=t7.1 h;exact ⟨i,h1,h2⟩
 obtain ⟨i3,hi3,hz3⟩:∃ i,Tryz.prog.info? 3=some i∧i.size=1:=by
  have h:(Tryz.prog.info? 3).map (·.size)=some 1:=by kernel_rfl
  obtain ⟨i,h1,h2⟩:=t7.1 h;exact ⟨i,h1,h2⟩
 obtain ⟨i4,hi4,hz4⟩:∃ i,Tryz.prog.info? 4=some i∧i.size=1:=by
  have h:(Tryz.prog.info? 4).map (·.size)=some 1:=by kernel_rfl
  obtain ⟨i,h1,h2⟩:=t7.1 h;exact ⟨i,h1,h2⟩
 obtain ⟨W2,hst1,hs2⟩:=wD (P:=Tryz.prog) (t:=50) (z:=enc (default:ah)) (v:=.agg #[.int .i64 0,.int .i64 0,.int .i64 0,.int .i64 0,.int .i64 0,.int .i64 0,.int .i64 0,.string ⟨#[]⟩]) hs1 hx1 hE1 hsh1
  (ds:=[.int .i64 0,.int .i64 0,.int .i64 0,.int .i64 0,.int .i64 0,.int .i64 0,.int .i64 0,.string ⟨#[]⟩]) (by
   show ae _ _ _ (.agg [.agg [.int .i64 0,.int .i64 0],.int .i64 0,.int .i64 0,.int .i64 0,.agg [.int .i64 0,.int .i64 0],.aj ⟨#[]⟩]) _
   simp only[ae,az];refine ⟨[.int .i64 0,.int .i64 0],_,rfl,⟨[.int .i64 0],_,rfl,⟨rfl,by decide⟩,[.int .i64 0],_,rfl,⟨rfl,by decide⟩,rfl⟩,[.int .i64 0],_,rfl,⟨rfl,by decide⟩,[.int .i64 0],_,rfl,⟨rfl,by decide⟩,[.int .i64 0],_,rfl,⟨rfl,by decide⟩,[.int .i64 0,.int .i64 0],_,rfl,⟨[.int .i64 0],_,rfl,⟨rfl,by decide⟩,[.int .i64 0],_,rfl,⟨rfl,by decide⟩,rfl⟩,[.string ⟨#[]⟩],[],rfl,⟨rfl,by decide⟩,rfl⟩) rfl hi50 hz50
 obtain ⟨y2,hy2,hsh2'⟩:=nx hE1 hE2 ⟨x2,hx2,hsh2⟩;obtain ⟨W3,hst2,hs3⟩:=wD (P:=Tryz.prog) (t:=3) (z:=.int .i64 0) (v:=.int .i64 0) hs2 hy2 hE2 hsh2' (ds:=[.int .i64 0]) (by simp only[ae];exact ⟨trivial,by decide⟩) rfl hi3 hz3;obtain ⟨y3,hy3,hsh3'⟩:=nx hE2 hE3 (nx hE1 hE3 ⟨x3,hx3,hsh3⟩);obtain ⟨W4,hst3,hs4⟩:=wD (P:=Tryz.prog) (t:=4) (z:=.bool false) (v:=.bool false) hs3 hy3 hE3 hsh3' (ds:=[.bool false]) (by simp only[ae]) rfl hi4 hz4;have hbl:∀ W,(Instr.build 50 #[]).run Tryz.prog W=.ok (.agg #[.int .i64 0,.int .i64 0,.int .i64 0,.int .i64 0,.int .i64 0,.int .i64 0,.int .i64 0,.string ⟨#[]⟩]) W:=fun W=>by
  simp[Instr.build,Tryz.zeroValue50,Instr.fill,Value.cells]
 simp only[wpListIn,Region.wanted,if_true];refine V9 (v:=.agg #[.int .i64 0,.int .i64 0,.int .i64 0,.int .i64 0,.int .i64 0,.int .i64 0,.int .i64 0,.string ⟨#[]⟩]) (by simp only[execOp,Array.map_empty,Sem.run_bind,hbl];rfl) ?_;refine vE (wA rfl (by simp[Act.eval,Act.put]) (by simp[Act.eval,Act.put]) hst1) ?_;refine vE (wA rfl (by simp[Act.eval,Act.put]) (by simp[Act.eval]) hst2) ?_;refine vE (wA rfl (by simp[Act.eval,Act.put]) (by simp[Act.eval]) hst3) ?_;simp[Exit.inBlock,bodyPostS,results,Tryz.results124,settle];exact ⟨rfl,hs4⟩⟩
end Go.Proofs.YtoffnnjbplgnaaaGreatDoor
namespace Go.Proofs.YtoffnnjbplgnaaaGreatDoor
open Go Go.Abs Go.Shelf Go.RowKit
open Go.Abs.Enc (enc)
def AS:Go.Shelf.Ren:=⟨fun | 166=>156 | 240=>173 | 276=>194 | n=>n,fun | 70=>203 | 9=>9 | 3=>3 | 75=>199 | 0=>0 | 72=>205 | 37=>45 | 4=>4 | 164=>237 | 80=>206 | 5=>5 | n=>n,fun | n=>n⟩
theorem UC:Go.Proofs.Lays.n166 Tryz.prog AS := {
 mixed:=by kernel_rfl
 f166:=Tryz.func156.trans (congrArg some (by kernel_rfl))
 f240:=Tryz.func173.trans (congrArg some (by kernel_rfl))
 f276:=Tryz.func194.trans (congrArg some (by kernel_rfl))
 t0:=Tryz.underlying0
 a0:=Tryz.isAgg0
 z0:=Tryz.sizeOf0
 v0:=Tryz.zeroValue0
 t3:=Tryz.underlying3
 a3:=Tryz.isAgg3
 z3:=Tryz.sizeOf3
 v3:=Tryz.zeroValue3
 t4:=Tryz.underlying4
 a4:=Tryz.isAgg4
 z4:=Tryz.sizeOf4
 v4:=Tryz.zeroValue4
 t9:=Tryz.underlying9
 a9:=Tryz.isAgg9
 z9:=Tryz.sizeOf9
 v9:=Tryz.zeroValue9
 t20:=Tryz.underlying20
 a20:=Tryz.isAgg20
 z20:=Tryz.sizeOf20
 v20:=Tryz.zeroValue20
 t37:=Tryz.underlying45
 a37:=Tryz.isAgg45
 z37:=Tryz.sizeOf45
 v37:=Tryz.zeroValue45
 t70:=Tryz.underlying203
 a70:=Tryz.isAgg203
 z70:=Tryz.sizeOf203
 v70:=Tryz.zeroValue203
 t72:=Tryz.underlying205
 a72:=Tryz.isAgg205
 z72:=Tryz.sizeOf205
 v72:=Tryz.zeroValue205
 t75:=Tryz.underlying199
 a75:=Tryz.isAgg199
 z75:=Tryz.sizeOf199
 v75:=Tryz.zeroValue199
 t164:=Tryz.underlying237
 a164:=Tryz.isAgg237
 z164:=Tryz.sizeOf237
 v164:=Tryz.zeroValue237 }
def AT:Go.Shelf.Ren:=⟨fun | 169=>157 | n=>n,fun | 70=>203 | 9=>9 | 0=>0 | 72=>205 | 37=>45 | 127=>202 | 3=>3 | 5=>5 | n=>n,fun | n=>n⟩
theorem UD:Go.Proofs.Lays.n169 Tryz.prog AT := {
 mixed:=by kernel_rfl
 f169:=Tryz.func157.trans (congrArg some (by kernel_rfl))
 t0:=Tryz.underlying0
 a0:=Tryz.isAgg0
 z0:=Tryz.sizeOf0
 v0:=Tryz.zeroValue0
 t3:=Tryz.underlying3
 a3:=Tryz.isAgg3
 z3:=Tryz.sizeOf3
 v3:=Tryz.zeroValue3
 t9:=Tryz.underlying9
 a9:=Tryz.isAgg9
 z9:=Tryz.sizeOf9
 v9:=Tryz.zeroValue9
 t37:=Tryz.underlying45
 a37:=Tryz.isAgg45
 z37:=Tryz.sizeOf45
 v37:=Tryz.zeroValue45
 t70:=Tryz.underlying203
 a70:=Tryz.isAgg203
 z70:=Tryz.sizeOf203
 v70:=Tryz.zeroValue203
 t72:=Tryz.underlying205
 a72:=Tryz.isAgg205
 z72:=Tryz.sizeOf205
 v72:=Tryz.zeroValue205
 t127:=Tryz.underlying202
 a127:=Tryz.isAgg202
 z127:=Tryz.sizeOf202
 v127:=Tryz.zeroValue202 }
theorem Lf:Builder.Extra Tryz.prog AS where
 sizeBuilder:=by kernel_rfl
 liesBuilder:=by kernel_rfl
 t5:=Tryz.underlying5
 a5:=Tryz.isAgg5
 z5:=Tryz.sizeOf5
 v5:=Tryz.zeroValue5
 infoByte:=by kernel_rfl
 cellsByte:=by kernel_rfl
 sizeByte:=by kernel_rfl
 neB5:=by decide
theorem Lg:Builder.Extra Tryz.prog AT where
 sizeBuilder:=by kernel_rfl
 liesBuilder:=by kernel_rfl
 t5:=Tryz.underlying5
 a5:=Tryz.isAgg5
 z5:=Tryz.sizeOf5
 v5:=Tryz.zeroValue5
 infoByte:=by kernel_rfl
 cellsByte:=by kernel_rfl
 sizeByte:=by kernel_rfl
 neB5:=by decide
abbrev ku(B b:Nat)(l:List UInt8)(w:World):Prop:=Lib.IsBuilderF 205 5 B b (Lib.byteCells l) w
abbrev tv(b:Nat)(w w':World):Prop:=Lib.OthersKept 5 (some b) w w'
theorem Es(B b:Nat)(l:List UInt8)(s:ByteArray)(w:World)(h:ku B b l w)(hlen:l.length+s.size≤140737488355328)(hB:B≤w.heap.size) :
  Calls Tryz.prog 156 #[.pointer (some ⟨b,0,none⟩),.string s] w fun e w'=>e=.returned (.tuple #[.int .i64 s.size,.nilIface])∧(ku B b (l++s.data.toList) w'∧Below B w w'∧tv b w w'):=by
 refine (Any.Builder_WriteString_k UC Lf B b (Lib.byteCells l) s w h (by rw[Lib.byteCells_length];exact hlen) hB).mono ?_;rintro e w' ⟨rfl,h1,h2,h3⟩;refine ⟨rfl,.inr ?_,h2,h3⟩;rw[Lib.byteCells_append];exact h1
theorem xB(B b:Nat)(l:List UInt8)(w:World)(h:ku B b l w)(hB:B≤w.heap.size) :
  Calls Tryz.prog 157 #[.pointer (some ⟨b,0,none⟩)] w fun e w'=>e=.returned (.string ⟨l.toArray⟩)∧(ku B b l w'∧Below B w w'∧tv b w w'):=Any.Builder_String_any_k UD Lg B b l w h hB
theorem Uk(n:Int)(h:IntKind.i64.min≤n∧n≤IntKind.i64.max)(W:World)(hl:eA Tryz.prog W (fun _=>False)):Calls Tryz.prog 132 #[.int .i64 n] W fun e w'=>e=.returned (.string ⟨(Lib.itoa n).toArray⟩)∧Below W.heap.size W w':=by
 have h3':-9223372036854775808≤n:=h.1;have h4':n≤9223372036854775807:=h.2;obtain ⟨_,htab,rfl⟩:=hl.rI (n:=rU) (k:=.sD) (g:=3) (by simp[mq]) (by kernel_rfl);refine (Any.strconv_Itoa AP n h3' h4' W htab).mono ?_;rintro e w' ⟨rfl,k,os,rfl⟩;exact ⟨rfl,tM W k os⟩
theorem AO{w wr:World}(hl:eA Tryz.prog w (fun _=>False))(h:Below w.heap.size w wr):eA Tryz.prog wr (fun _=>False) :=
 hl.AM (M:=fun b=>w.heap.size≤b) ⟨h.os,h.tape,h.output,h.size,fun k hk=>h.block k (by omega)⟩ (fun b hb=>.inl hb) (fun b hb=>hb.elim)
theorem rS{B b:Nat}{l:List UInt8}{w w':World}(hI:ku B b l w)(h:Below w.heap.size w w'):ku B b l w':=by
 have key:∀ p,Lib.BuilderAtF 205 5 B b p (Lib.byteCells l) w→Lib.BuilderAtF 205 5 B b p (Lib.byteCells l) w':=by
  rintro p ⟨h1,v,h2,⟨h3,h4⟩,h5⟩;refine ⟨h1,v,(h.block b (eG h2)).trans h2,⟨h3,?_⟩,h5⟩;rcases h4 with h4 | ⟨g,cap,cur,fz,k1,k2,k3,k4⟩
  ·exact .inl h4
  ·exact .inr ⟨g,cap,cur,fz,k1,k2,(h.block g (eG k3)).trans k3,k4⟩
 exact hI.imp (key _) (key _)
theorem HJ(a:List UInt8)(t:ByteArray):((⟨a.toArray⟩:ByteArray)++t)=⟨(a++t.data.toList).toArray⟩:=by
 apply ByteArray.ext;simp[ByteArray.data_append]
theorem Xe(l:List Int)(n:Int):c7 (l++[n])=c7 l++(Lib.itoa n++[32]):=by simp[c7]
theorem Gq(m n k d kn om on:Int)(t:ByteArray)(w:World)(hl:eA Tryz.prog w (fun _=>False))(hbd:∀ x∈[m,n,k,d,kn,om,on],IntKind.i64.min≤x∧x≤IntKind.i64.max)(ht:t.size≤1000000000000) :
  Calls Tryz.prog 131 #[.agg #[.int .i64 m,.int .i64 n,.int .i64 k,.int .i64 d,.int .i64 kn,.int .i64 om,.int .i64 on,.string t]] w fun e w'=>e=.returned (.string ⟨(c7 [m,n,k,d,kn,om,on]++t.data.toList).toArray⟩)∧Below w.heap.size w w':=by
 obtain ⟨vs,hvs⟩:∃ vs:List Int,vs=[m,n,k,d,kn,om,on]:=⟨_,rfl⟩
 have hvl:vs.length=7:=by rw[hvs];rfl
 rw[←hvs] at hbd;have hlen:∀ j,(c7 (vs.take j)).length≤22*j:=by
  intro j;have:∀ l:List Int,(∀ x∈l,IntKind.i64.min≤x∧x≤IntKind.i64.max)→(c7 l).length≤22*l.length:=by
   intro l
   induction l with
   |nil=>intro _;simp[c7]
   |cons x l ih =>
    intro h;have h1:=ih fun y hy=>h y (by simp[hy]);have h2:=Lib.itoa_length_le x (h x (by simp)).1 (h x (by simp)).2;simp only[c7] at h1;simp only[c7,List.flatMap_cons,Z1,zz4,zy1];omega
  have h3:=this (vs.take j) fun x hx=>hbd x (List.mem_of_mem_take hx);have h4:(vs.take j).length≤j:=by rw[Z6];omega
  omega
 go_enter Tryz.func131,Tryz.ntmps131
 go_wp2
 go_loopw [26] (fun i wr=>∃ j:Nat,j≤7∧i=.int .i64 j∧ku w.heap.size (w.heap.size+1) (c7 (vs.take j)) wr∧wr.heap[w.heap.size]?=some (.cells #[.int .i64 m,.int .i64 n,.int .i64 k,.int .i64 d,.int .i64 kn,.int .i64 om,.int .i64 on,.string t] 50) ∧
  wr.heap[w.heap.size+1+1]?=some (.cells (vs.map (Value.int .i64)).toArray 3)∧Below w.heap.size w wr) (fun i _=>7-(RowKit.intOf i).toNat)
 case atStart =>
  obtain ⟨c1,hc1⟩:∃ c1,c1=Obj.cells #[.int .i64 m,.int .i64 n,.int .i64 k,.int .i64 d,.int .i64 kn,.int .i64 om,.int .i64 on,.string t] 50:=⟨_,rfl⟩
  have hv0:(#[.int .i64 m,.int .i64 n,.int .i64 k,.int .i64 d,.int .i64 kn,.int .i64 om,.int .i64 on]:Array Value)=(vs.map (Value.int .i64)).toArray:=by rw[hvs];rfl
  rw[←hc1,hv0];obtain ⟨w1,hw1⟩:∃ w1,w1=w.alloc c1:=⟨_,rfl⟩
  obtain ⟨w2,hw2⟩:∃ w2,w2=w1.alloc (Obj.cells #[Value.pointer none,Value.slice none 0 0] 205):=⟨_,rfl⟩
  obtain ⟨w3,hw3⟩:∃ w3,w3=w2.alloc (Obj.cells (vs.map (Value.int .i64)).toArray 3):=⟨_,rfl⟩
  have s1:w1.heap.size=w.heap.size+1:=by rw[hw1];simp
  have s2:w2.heap.size=w.heap.size+1+1:=by rw[hw2];simp[s1]
  have b1:Below w.heap.size w w1:=hw1▸iU w c1;have b2:Below w1.heap.size w1 w2:=hw2▸iU w1 _;have b3:Below w2.heap.size w2 w3:=hw3▸iU w2 _;have e1:w1.heap[w.heap.size]?=some c1:=hw1▸heap_alloc_new w c1;have e2:w2.heap[w1.heap.size]?=some (Obj.cells #[Value.pointer none,Value.slice none 0 0] 205):=hw2▸heap_alloc_new w1 _;have e3:w3.heap[w2.heap.size]?=some (Obj.cells (vs.map (Value.int .i64)).toArray 3):=hw3▸heap_alloc_new w2 _;rw[←hw1,←hw2,←hw3];refine ⟨0,by omega,rfl,.inl ⟨by omega,.slice none 0 0,?_,⟨rfl,.inl ⟨rfl,rfl⟩⟩,by simp[Value.ownBlock]⟩,?_,?_,?_⟩
  ·rw[b3.block _ (by omega),←s1];exact e2
  ·rw[b3.block _ (by omega),b2.block _ (by omega)];exact e1
  ·rw[←s2];exact e3
  ·exact (b1.trans (b2.mono (by omega))).trans (b3.mono (by omega))
 case round =>
  obtain ⟨j,hj,rfl,hI,hr,hv,hbw⟩:=hrel;have hB1:w.heap.size≤wr.heap.size:=hbw.size;by_cases hlt:j<7
  ·have hjv:j<vs.length:=by omega
   have hc:wr.cell? ⟨w.heap.size+1+1,j,none⟩=some (.int .i64 vs[j]):=by
    simp[World.cell?,hv,hjv]
   have hbx:=hbd vs[j] (List.getElem_mem hjv);have ju:=Lib.itoa_length_le vs[j] hbx.1 hbx.2;have hj2:=hlen j;have htk:c7 (vs.take (j+1))=c7 (vs.take j)++(Lib.itoa vs[j]++[32]):=by rw[List.take_succ_eq_append_getElem hjv,Xe]
   generalize vs[j]=x at *;have hsz:((⟨(Lib.itoa x).toArray⟩:ByteArray)++⟨#[32]⟩).size=(Lib.itoa x).length+1:=by rw[ByteArray.size_append];rfl
   have hdat:((⟨(Lib.itoa x).toArray⟩:ByteArray)++⟨#[32]⟩).data.toList=Lib.itoa x++[32]:=by simp
   have hlt':decide ((j:Int)<7)=true:=by simp;omega
   have hw:=ez (i:=j) (by omega)
   go_wp2_with (first | (go_at_call 132;refine (Uk x hbx _ (AO hl hbw)).mono ?_;rintro e W1 ⟨rfl,hb1⟩) | (go_at_call 156;refine (Es w.heap.size (w.heap.size+1) _ _ _ (rS hI hb1) (by rw[hsz];omega) (by have:=hb1.size;omega)).mono ?_;rintro e W2 ⟨rfl,hI2,hb2,hk2⟩))
   have q1:w.heap.size<wr.heap.size:=eG hr;have q2:w.heap.size+1+1<wr.heap.size:=eG hv;refine ⟨⟨j+1,by omega,rfl,?_,?_,?_,?_⟩,by simp only[RowKit.intOf];omega⟩
   ·rw[htk];rw[hdat] at hI2;exact hI2
   ·exact hk2 _ _ ((hb1.block _ q1).trans hr) (by simp) (fun c fz e=>by cases e)
   ·exact hk2 _ _ ((hb1.block _ q2).trans hv) (by simp) (fun c fz e=>by cases e)
   ·exact (hbw.trans (hb1.mono hB1)).trans hb2
  ·have hj7:j=7:=by omega
   subst hj7;have hlt':decide (((7:Nat):Int)<7)=false:=by decide
   rw[List.take_of_length_le (by omega)] at hI;have hcr:wr.cell? ⟨w.heap.size,7,none⟩=some (.string t):=by simp[World.cell?,hr]
   have q1:w.heap.size<wr.heap.size:=eG hr
   go_wp2
   have hI1:ku w.heap.size (w.heap.size+1) (c7 vs) wr.drew:=rS hI ⟨rfl,rfl,rfl,Z5 _,fun _ _=>rfl⟩;have hcd:wr.drew.cell? ⟨w.heap.size,7,none⟩=some (.string t):=hcr;have aZ:∀ W2,tv (w.heap.size+1) wr.drew W2→W2.cell? ⟨w.heap.size,7,none⟩=some (.string t):=fun W2 hk=>by
    have:=hk _ _ hr (by simp) (fun c fz e=>by cases e);simp[World.cell?,this]
   have hl7:=hlen 7;rw[List.take_of_length_le (by omega)] at hl7;have hsum:¬ (9223372036854775807<(⟨(c7 vs).toArray⟩:ByteArray).size+t.size):=by
    have e1:(⟨(c7 vs).toArray⟩:ByteArray).size=(c7 vs).length:=by show (c7 vs).toArray.size=_;simp
    rw[e1];omega
   have hdr:Below w.heap.size wr wr.drew:=⟨rfl,rfl,rfl,Z5 _,fun _ _=>rfl⟩
   have hcall:=xB w.heap.size (w.heap.size+1) _ _ hI1 (by show _≤wr.heap.size;omega);generalize hS:(⟨(c7 vs).toArray⟩:ByteArray)=S at *
   go_region_with (go_at_call 157;refine (hcall).mono ?_;rintro e W2 ⟨rfl,hI2,hb2,hk2⟩;have hc2:=aZ W2 hk2)
   all_goals go_wp2
   all_goals go_ret
   all_goals refine ⟨?_,(hbw.trans hdr).trans hb2⟩
   all_goals rw[←hvs,←hS,HJ]
   all_goals rfl
theorem C7{w:World}{D:aD}{E:aN}{r:ah}{v:Value}(h:aP w D E (enc r) v):v=.agg #[.int .i64 r.bd,.int .i64 r.no,.int .i64 r.kind,.int .i64 r.dW,.int .i64 r.known,.int .i64 r.eS,.int .i64 r.eZ,.string ⟨r.text.toArray⟩] ∧
  (∀ x∈dE r,IntKind.i64.min≤x∧x≤IntKind.i64.max)∧r.text.length≤maxLen:=by
 obtain ⟨cs,h1,h2⟩:=h;have h2':ae w D E (.agg [.agg [.int .i64 r.bd,.int .i64 r.no],.int .i64 r.kind,.int .i64 r.dW,.int .i64 r.known,.agg [.int .i64 r.eS,.int .i64 r.eZ],.aj ⟨r.text.toArray⟩]) cs:=h2;simp only[ae,az] at h2';obtain ⟨_,_,rfl,⟨_,_,rfl,⟨rfl,a1⟩,_,_,rfl,⟨rfl,a2⟩,rfl⟩,_,_,rfl,⟨rfl,a3⟩,_,_,rfl,⟨rfl,a4⟩,_,_,rfl,⟨rfl,a5⟩,_,_,rfl,⟨_,_,rfl,⟨rfl,a6⟩,_,_,rfl,⟨rfl,a7⟩,rfl⟩,_,_,rfl,⟨rfl,a8⟩,rfl⟩:=h2';refine ⟨h1,?_,by simpa[ByteArray.size] using a8⟩;intro x hx;simp only[dE,zy0,List.not_mem_nil,or_false] at hx;rcases hx with rfl | rfl | rfl | rfl | rfl | rfl | rfl <;>assumption
theorem EJ(r:ah)(hs:r.text.length≤1000000000000):aQ Tryz.prog 131 [enc r] (enc (ak.of (cC r))):=by
 refine ⟨GH,fun w D vs hl hD hv =>?_⟩;have hv':=hv;simp only[ao] at hv';obtain ⟨v,rest,cs,rfl,h1,h2,rfl⟩:=hv';obtain ⟨rfl,hb,_⟩:=C7 (fp h1 h2);refine (Gq _ _ _ _ _ _ _ ⟨r.text.toArray⟩ w hl hb (by show r.text.toArray.size≤_;simpa using hs)).mono ?_;rintro e w' ⟨rfl,hbl⟩;have hlen:(cC r).length≤1000000001000:=by
  have:∀ l:List Int,(∀ x∈l,IntKind.i64.min≤x∧x≤IntKind.i64.max)→(c7 l).length≤22*l.length:=by
   intro l
   induction l with
   |nil=>intro _;simp[c7]
   |cons x l ih =>
    intro h;have h1:=ih fun y hy=>h y (by simp[hy]);have h2:=Lib.itoa_length_le x (h x (by simp)).1 (h x (by simp)).2;simp only[c7] at h1;simp only[c7,List.flatMap_cons,Z1,zz4,zy1];omega
  have h3:=this (dE r) hb;have h4:(dE r).length=7:=rfl;rw[cC,Z1];omega
 exact ⟨_,D,rfl,Du (l:=cC r) (by unfold maxLen;omega),hbl,fun b o hd=>Nat.lt_of_lt_of_le (hD b o hd) hbl.size,fun _ _ h _=>h⟩
end Go.Proofs.YtoffnnjbplgnaaaGreatDoor
namespace Go.Proofs.YtoffnnjbplgnaaaGreatDoor
open Go Go.Abs
open Go.Abs.Enc (enc)
def fJ(c:UInt8):Bool := !(decide ((c.toNat:Int)<32)||(decide ((c.toNat:Int)>126)||((c.toNat:Int)==63)))
def fK(t:List UInt8):Bool:=decide (t.length≤160)&&t.all fJ
theorem Bz{t:List UInt8}{i:Nat}(h:i<t.length)(h1:(t.take i).all fJ=true):(fJ t[i]=true→(t.take (i+1)).all fJ=true)∧(fJ t[i]=false→t.all fJ=false):=by
 refine ⟨fun h2 =>?_,fun h2 =>?_⟩
 ·rw[List.take_succ_eq_append_getElem h,List.all_append,h1];simp[h2]
 ·rw[List.all_eq_false];exact ⟨t[i],List.getElem_mem h,by simp[h2]⟩
theorem mW(t:List UInt8):lG (enc (ak.of t))=some (.int .i64 (t.length:Int)):=by rw[qj,ak.de]
theorem sX(t:List UInt8){i:Nat}(h:i<t.length):ej .dK [enc (ak.of t),.int .i64 (i:Int)]=some (.int .u8 (t[i].toNat:Int)):=DI (ak.of t) h
theorem sW(t:List UInt8):kZ (enc (ak.of t))=some (t.map enc):=rfl
theorem EI(t:List UInt8):aQ Tryz.prog 130 [enc (ak.of t)] (enc (fK t)):=by
 refine aQ.bN Tryz.func130 GG HS I8 (t8 rfl) (fun hwf W0 bH E1 =>?_);simp only[xO,Cb,bD];clear hwf;have hl:=mW t;have hsb:=sW t;rcases q:decide ((t.length:Int)>160)
 rotate_left
 ·have h1:(t.length:Int)>160:=of_decide_eq_true q;rw[show fK t=false by simp only[fK];rw[decide_eq_false (by omega)];rfl];have R:=y6 @hl (y6 @q (y6 @bl aE))
  repeat' ((first |(with_reducible refine .guard (fun hb =>?_) (fun hb =>?_) <;>try simp only[hb])|refine U.aI (by decide +kernel) rfl fun K hK =>?_|(refine .aF [0,2,4,7,9,10,11,12,24] hK ?_;clear hK K)|(with_reducible refine .done (hK _ ?_);clear hK K)|refine U.of rfl ?_|(with_reducible refine ay.aG (fun h =>?_) (fun h =>?_) <;>try simp only[h])) <;>try simp only[aJ,R,simprocAttr])
  all_goals clear R
  all_goals rfl
 have h1:¬ (t.length:Int)>160:=of_decide_eq_false q;rw[show fK t=t.all fJ by simp only[fK];rw[decide_eq_true (by omega)];rfl];have R:=y6 @hl (y6 @hsb (y6 @q (y6 @bl (y6 @hZ aE))))
 repeat' ((first |(with_reducible refine .guard (fun hb =>?_) (fun hb =>?_) <;>try simp only[hb])|refine aX.ef rfl fun m =>?_|refine U.aI (by decide +kernel) rfl fun K hK =>?_|(refine .aF [0,2,4,7,9,10,11,12,24] hK ?_;clear hK K)|(with_reducible refine .done (hK _ ?_);clear hK K)|refine U.of rfl ?_|(with_reducible refine ay.aG (fun h =>?_) (fun h =>?_) <;>try simp only[h])) <;>try simp only[aJ,R,simprocAttr])
 all_goals clear R
 refine U.loop (fun i:Nat=>aw [(0,enc (ak.of t)),(9,enc t),(10,.int .i64 t.length),(11,.int .i64 i)] []) (fun i=>i≤t.length∧(t.take i).all fJ=true) (fun i=>t.length-i) 0 ⟨Nat.zero_le _,rfl⟩ ?_ ?_
 ·refine bx.rz [9] 9 (x:=.view 9 [] 1 0 t.length) (y:=enc t) rfl (zK rfl) ?_ ?_ ?_ ?_ ?_ <;>simp[dR,bP,cg,cq,cn,iX,cd,I.only,bG]
 rintro i ⟨hi,hok⟩;by_cases hlt:i<t.length
 ·have hlc:=eR hlt;have he:=fun A=>fm (A:=A) 1 hlt rfl;have hw:=ez (i:=i) (by omega);obtain ⟨h2,h3⟩:=Bz hlt hok;generalize t[i]=c at *;rcases q1:decide ((c.toNat:Int)<32)
  rotate_left
  ·rw[h3 (by simp[fJ,q1])];have R:=y6 @hl (y6 @hlc (y6 @he (y6 @hw (y6 @q1 (y6 @qk (y6 @bl aE))))))
   repeat' ((first |(with_reducible refine .guard (fun hb =>?_) (fun hb =>?_) <;>try simp only[hb])|refine U.aI (by decide +kernel) rfl fun K hK =>?_|(refine .aF [0,2,4,7,9,10,11,12,24] hK ?_;clear hK K)|(with_reducible refine .done (hK _ ?_);clear hK K)|refine U.of rfl ?_|(with_reducible refine ay.aG (fun h =>?_) (fun h =>?_) <;>try simp only[h])) <;>try simp only[aJ,R,simprocAttr])
   all_goals clear R
   all_goals rfl
  rcases q2:decide ((c.toNat:Int)>126)
  rotate_left
  ·rw[h3 (by simp only[fJ,q1,q2];rfl)];have R:=y6 @hl (y6 @hlc (y6 @he (y6 @hw (y6 @q1 (y6 @q2 (y6 @qk (y6 @bl aE)))))))
   repeat' ((first |(with_reducible refine .guard (fun hb =>?_) (fun hb =>?_) <;>try simp only[hb])|refine U.aI (by decide +kernel) rfl fun K hK =>?_|(refine .aF [0,2,4,7,9,10,11,12,24] hK ?_;clear hK K)|(with_reducible refine .done (hK _ ?_);clear hK K)|refine U.of rfl ?_|(with_reducible refine ay.aG (fun h =>?_) (fun h =>?_) <;>try simp only[h])) <;>try simp only[aJ,R,simprocAttr])
   all_goals clear R
   all_goals rfl
  rcases q3:((c.toNat:Int)==63)
  rotate_left
  ·rw[h3 (by simp only[fJ,q1,q2,q3];rfl)];have R:=y6 @hl (y6 @hlc (y6 @he (y6 @hw (y6 @q1 (y6 @q2 (y6 @q3 (y6 @qk (y6 @bl aE))))))))
   repeat' ((first |(with_reducible refine .guard (fun hb =>?_) (fun hb =>?_) <;>try simp only[hb])|refine U.aI (by decide +kernel) rfl fun K hK =>?_|(refine .aF [0,2,4,7,9,10,11,12,24] hK ?_;clear hK K)|(with_reducible refine .done (hK _ ?_);clear hK K)|refine U.of rfl ?_|(with_reducible refine ay.aG (fun h =>?_) (fun h =>?_) <;>try simp only[h])) <;>try simp only[aJ,R,simprocAttr])
   all_goals clear R
   all_goals rfl
  have h4:=h2 (by simp only[fJ,q1,q2,q3];rfl);have R:=y6 @hl (y6 @hlc (y6 @he (y6 @hw (y6 @q1 (y6 @q2 (y6 @q3 (y6 @qk (y6 @bl aE))))))))
  repeat' ((first |(with_reducible refine .guard (fun hb =>?_) (fun hb =>?_) <;>try simp only[hb])|refine U.aI (by decide +kernel) rfl fun K hK =>?_|(refine .aF [0,2,4,7,9,10,11,12,24] hK ?_;clear hK K)|(with_reducible refine .done (hK _ ?_);clear hK K)|refine U.of rfl ?_|(with_reducible refine ay.aG (fun h =>?_) (fun h =>?_) <;>try simp only[h])) <;>try simp only[aJ,R,simprocAttr])
  all_goals clear R
  refine ⟨i+1,⟨by omega,h4⟩,by omega,?_⟩;clear h2 h3 h4 hok;refine bx.cJ ?_ ?_ ?_ ?_ <;>simp[cg,cq,cn,bP,cd,I.only,bG]
 ·have hlc:=fk hlt;have hge:i=t.length:=by omega
  rw[hge,List.take_length] at hok;rw[hok];have R:=y6 @hl (y6 @hlc (y6 @bl aE))
  repeat' ((first |(with_reducible refine .guard (fun hb =>?_) (fun hb =>?_) <;>try simp only[hb])|refine U.aI (by decide +kernel) rfl fun K hK =>?_|(refine .aF [0,2,4,7,9,10,11,12,24] hK ?_;clear hK K)|(with_reducible refine .done (hK _ ?_);clear hK K)|refine U.of rfl ?_|(with_reducible refine ay.aG (fun h =>?_) (fun h =>?_) <;>try simp only[h])) <;>try simp only[aJ,R,simprocAttr])
  all_goals clear R
  all_goals rfl
theorem Fb(t:List UInt8):aQ Tryz.prog 86 [enc (ak.of t)] (enc (fK t)):=by
 refine aQ.bN Tryz.func86 Ht ID JQ (t8 rfl) (fun hwf W0 bH E1 =>?_);simp only[yD,CS,bD];clear hwf;have hl:=mW t;rcases q:decide ((t.length:Int)>160)
 rotate_left
 ·have h1:(t.length:Int)>160:=of_decide_eq_true q;rw[show fK t=false by simp only[fK];rw[decide_eq_false (by omega)];rfl];have R:=y6 @hl (y6 @q (y6 @bl aE))
  repeat' ((first |(with_reducible refine .guard (fun hb =>?_) (fun hb =>?_) <;>try simp only[hb])|refine U.aI (by decide +kernel) rfl fun K hK =>?_|(refine .aF [0,2,3,6,10,28] hK ?_;clear hK K)|(with_reducible refine .done (hK _ ?_);clear hK K)|refine U.of rfl ?_|(with_reducible refine ay.aG (fun h =>?_) (fun h =>?_) <;>try simp only[h])) <;>try simp only[aJ,R,simprocAttr])
  all_goals clear R
  all_goals rfl
 have h1:¬ (t.length:Int)>160:=of_decide_eq_false q;rw[show fK t=t.all fJ by simp only[fK];rw[decide_eq_true (by omega)];rfl];have R:=y6 @hl (y6 @q (y6 @bl aE))
 repeat' ((first |(with_reducible refine .guard (fun hb =>?_) (fun hb =>?_) <;>try simp only[hb])|refine U.aI (by decide +kernel) rfl fun K hK =>?_|(refine .aF [0,2,3,6,10,28] hK ?_;clear hK K)|(with_reducible refine .done (hK _ ?_);clear hK K)|refine U.of rfl ?_|(with_reducible refine ay.aG (fun h =>?_) (fun h =>?_) <;>try simp only[h])) <;>try simp only[aJ,R,simprocAttr])
 all_goals clear R
 refine U.loop (fun i:Nat=>aw [(0,enc (ak.of t)),(3,.int .i64 i)] []) (fun i=>i≤t.length∧(t.take i).all fJ=true) (fun i=>t.length-i) 0 ⟨Nat.zero_le _,rfl⟩ ?_ ?_
 ·refine bx.cJ ?_ ?_ ?_ ?_ <;>simp[cg,cq,cn,bP,cd,I.only,bG]
 rintro i ⟨hi,hok⟩;by_cases hlt:i<t.length
 ·have hlc:=eR hlt;have he:=sX t hlt;have hw:=ez (i:=i) (by omega);obtain ⟨h2,h3⟩:=Bz hlt hok;generalize t[i]=c at *;rcases q1:decide ((c.toNat:Int)<32)
  rotate_left
  ·rw[h3 (by simp[fJ,q1])];have R:=y6 @hl (y6 @hlc (y6 @he (y6 @hw (y6 @q1 (y6 @bl aE)))))
   repeat' ((first |(with_reducible refine .guard (fun hb =>?_) (fun hb =>?_) <;>try simp only[hb])|refine U.aI (by decide +kernel) rfl fun K hK =>?_|(refine .aF [0,2,3,6,10,28] hK ?_;clear hK K)|(with_reducible refine .done (hK _ ?_);clear hK K)|refine U.of rfl ?_|(with_reducible refine ay.aG (fun h =>?_) (fun h =>?_) <;>try simp only[h])) <;>try simp only[aJ,R,simprocAttr])
   all_goals clear R
   all_goals rfl
  rcases q2:decide ((c.toNat:Int)>126)
  rotate_left
  ·rw[h3 (by simp only[fJ,q1,q2];rfl)];have R:=y6 @hl (y6 @hlc (y6 @he (y6 @hw (y6 @q1 (y6 @q2 (y6 @bl aE))))))
   repeat' ((first |(with_reducible refine .guard (fun hb =>?_) (fun hb =>?_) <;>try simp only[hb])|refine U.aI (by decide +kernel) rfl fun K hK =>?_|(refine .aF [0,2,3,6,10,28] hK ?_;clear hK K)|(with_reducible refine .done (hK _ ?_);clear hK K)|refine U.of rfl ?_|(with_reducible refine ay.aG (fun h =>?_) (fun h =>?_) <;>try simp only[h])) <;>try simp only[aJ,R,simprocAttr])
   all_goals clear R
   all_goals rfl
  rcases q3:((c.toNat:Int)==63)
  rotate_left
  ·rw[h3 (by simp only[fJ,q1,q2,q3];rfl)];have R:=y6 @hl (y6 @hlc (y6 @he (y6 @hw (y6 @q1 (y6 @q2 (y6 @q3 (y6 @bl aE)))))))
   repeat' ((first |(with_reducible refine .guard (fun hb =>?_) (fun hb =>?_) <;>try simp only[hb])|refine U.aI (by decide +kernel) rfl fun K hK =>?_|(refine .aF [0,2,3,6,10,28] hK ?_;clear hK K)|(with_reducible refine .done (hK _ ?_);clear hK K)|refine U.of rfl ?_|(with_reducible refine ay.aG (fun h =>?_) (fun h =>?_) <;>try simp only[h])) <;>try simp only[aJ,R,simprocAttr])
   all_goals clear R
   all_goals rfl
  have h4:=h2 (by simp only[fJ,q1,q2,q3];rfl);have R:=y6 @hl (y6 @hlc (y6 @he (y6 @hw (y6 @q1 (y6 @q2 (y6 @q3 (y6 @bl aE)))))))
  repeat' ((first |(with_reducible refine .guard (fun hb =>?_) (fun hb =>?_) <;>try simp only[hb])|refine U.aI (by decide +kernel) rfl fun K hK =>?_|(refine .aF [0,2,3,6,10,28] hK ?_;clear hK K)|(with_reducible refine .done (hK _ ?_);clear hK K)|refine U.of rfl ?_|(with_reducible refine ay.aG (fun h =>?_) (fun h =>?_) <;>try simp only[h])) <;>try simp only[aJ,R,simprocAttr])
  all_goals clear R
  refine ⟨i+1,⟨by omega,h4⟩,by omega,?_⟩;clear h2 h3 h4 hok;refine bx.cJ ?_ ?_ ?_ ?_ <;>simp[cg,cq,cn,bP,cd,I.only,bG]
 ·have hlc:=fk hlt;have hge:i=t.length:=by omega
  rw[hge,List.take_length] at hok;rw[hok];have R:=y6 @hl (y6 @hlc (y6 @bl aE))
  repeat' ((first |(with_reducible refine .guard (fun hb =>?_) (fun hb =>?_) <;>try simp only[hb])|refine U.aI (by decide +kernel) rfl fun K hK =>?_|(refine .aF [0,2,3,6,10,28] hK ?_;clear hK K)|(with_reducible refine .done (hK _ ?_);clear hK K)|refine U.of rfl ?_|(with_reducible refine ay.aG (fun h =>?_) (fun h =>?_) <;>try simp only[h])) <;>try simp only[aJ,R,simprocAttr])
  all_goals clear R
  all_goals rfl
def mD(r:ah):Bool:=(r.dW==0)&&(decide (r.text=[])&&(gT r.fx&&((r.eS==r.bd)&&decide (r.eZ<r.no))))
def fy(r:ah):Bool:=gT r.bB&&(ee 0 40 r.kind&&(ee 0 100000 r.dW&&(ee 0 100000 r.known&&fK r.text)))
def bf(r:ah):Bool:=fy r&&(if r.kind=0 then mD r else decide (r.fx=⟨0,0⟩))
theorem ij:(I.aj ⟨#[]⟩)=enc (ak.of []):=rfl
theorem pd:(I.agg [.int .i64 0,.int .i64 0])=enc (⟨0,0⟩:Item):=rfl
theorem kh(a b:List UInt8):bF .eql (enc (ak.of a)) (enc (ak.of b))=some (.bool (decide (a=b))):=by rw[wb];simp only[ak.su]
theorem gK(a b:List UInt8):bF .neq (enc (ak.of a)) (enc (ak.of b))=some (.bool (!decide (a=b))):=by rw[wc];simp only[ak.su]
theorem oK(r:ah):aQ Tryz.prog 80 [enc r] (enc (bf r)):=by
 refine aQ.bN Tryz.func80 Ho Iy JL (t8 rfl) (fun hwf W0 bH E1 =>?_);simp only[c80,CN,bD];clear hwf;have f1:=wU r.bB;have f2:=lU r.kind 0 40;have f3:=wS r.dW;have f4:=wS r.known;have f5:=EI r.text;have f6:=wU r.fx;cases q1:gT r.bB
 ·rw[q1] at f1;rw[show bf r=false by simp only[bf,fy,q1,Bool.false_and]];have R:=y6 @q1 (y6 @bl aE)
  repeat' ((first |(with_reducible refine .guard (fun hb =>?_) (fun hb =>?_) <;>try simp only[hb])|refine U.aI (by decide +kernel) rfl fun K hK =>?_|refine .flat _ (f1) rfl ?_|refine .flat _ (f2) rfl ?_|refine .flat _ (f3) rfl ?_|refine .flat _ (f4) rfl ?_|refine .flat _ (f5) rfl ?_|(refine .aF [0,1,2,30,33] hK ?_;clear hK K)|(with_reducible refine .done (hK _ ?_);clear hK K)|refine U.of rfl ?_|(with_reducible refine ay.aG (fun h =>?_) (fun h =>?_) <;>try simp only[h])) <;>try simp only[aJ,R,simprocAttr])
  all_goals clear R
  all_goals rfl
 rw[q1] at f1;cases q2:ee 0 40 r.kind
 ·rw[q2] at f2;rw[show bf r=false by simp only[bf,fy,q1,q2,Bool.false_and,Bool.and_false]];have R:=y6 @bl aE
  repeat' ((first |(with_reducible refine .guard (fun hb =>?_) (fun hb =>?_) <;>try simp only[hb])|refine U.aI (by decide +kernel) rfl fun K hK =>?_|refine .flat _ (f1) rfl ?_|refine .flat _ (f2) rfl ?_|refine .flat _ (f3) rfl ?_|refine .flat _ (f4) rfl ?_|refine .flat _ (f5) rfl ?_|(refine .aF [0,1,2,30,33] hK ?_;clear hK K)|(with_reducible refine .done (hK _ ?_);clear hK K)|refine U.of rfl ?_|(with_reducible refine ay.aG (fun h =>?_) (fun h =>?_) <;>try simp only[h])) <;>try simp only[aJ,R,simprocAttr])
  all_goals clear R
  all_goals rfl
 rw[q2] at f2;cases q3:ee 0 100000 r.dW
 ·rw[q3] at f3;rw[show bf r=false by simp only[bf,fy,q1,q2,q3,Bool.false_and,Bool.and_false]];have R:=y6 @bl aE
  repeat' ((first |(with_reducible refine .guard (fun hb =>?_) (fun hb =>?_) <;>try simp only[hb])|refine U.aI (by decide +kernel) rfl fun K hK =>?_|refine .flat _ (f1) rfl ?_|refine .flat _ (f2) rfl ?_|refine .flat _ (f3) rfl ?_|refine .flat _ (f4) rfl ?_|refine .flat _ (f5) rfl ?_|(refine .aF [0,1,2,30,33] hK ?_;clear hK K)|(with_reducible refine .done (hK _ ?_);clear hK K)|refine U.of rfl ?_|(with_reducible refine ay.aG (fun h =>?_) (fun h =>?_) <;>try simp only[h])) <;>try simp only[aJ,R,simprocAttr])
  all_goals clear R
  all_goals rfl
 rw[q3] at f3;cases q4:ee 0 100000 r.known
 ·rw[q4] at f4;rw[show bf r=false by simp only[bf,fy,q1,q2,q3,q4,Bool.false_and,Bool.and_false]];have R:=y6 @bl aE
  repeat' ((first |(with_reducible refine .guard (fun hb =>?_) (fun hb =>?_) <;>try simp only[hb])|refine U.aI (by decide +kernel) rfl fun K hK =>?_|refine .flat _ (f1) rfl ?_|refine .flat _ (f2) rfl ?_|refine .flat _ (f3) rfl ?_|refine .flat _ (f4) rfl ?_|refine .flat _ (f5) rfl ?_|(refine .aF [0,1,2,30,33] hK ?_;clear hK K)|(with_reducible refine .done (hK _ ?_);clear hK K)|refine U.of rfl ?_|(with_reducible refine ay.aG (fun h =>?_) (fun h =>?_) <;>try simp only[h])) <;>try simp only[aJ,R,simprocAttr])
  all_goals clear R
  all_goals rfl
 rw[q4] at f4;cases q5:fK r.text
 ·rw[q5] at f5;rw[show bf r=false by simp only[bf,fy,q1,q2,q3,q4,q5,Bool.false_and,Bool.and_false]];have R:=y6 @bl aE
  repeat' ((first |(with_reducible refine .guard (fun hb =>?_) (fun hb =>?_) <;>try simp only[hb])|refine U.aI (by decide +kernel) rfl fun K hK =>?_|refine .flat _ (f1) rfl ?_|refine .flat _ (f2) rfl ?_|refine .flat _ (f3) rfl ?_|refine .flat _ (f4) rfl ?_|refine .flat _ (f5) rfl ?_|(refine .aF [0,1,2,30,33] hK ?_;clear hK K)|(with_reducible refine .done (hK _ ?_);clear hK K)|refine U.of rfl ?_|(with_reducible refine ay.aG (fun h =>?_) (fun h =>?_) <;>try simp only[h])) <;>try simp only[aJ,R,simprocAttr])
  all_goals clear R
  all_goals rfl
 rw[q5] at f5;have hH:fy r=true:=by simp only[fy,q1,q2,q3,q4,q5,Bool.and_self]
 cases k:(r.kind==0)
 ·rw[show bf r=decide (r.fx=⟨0,0⟩) by simp only[bf,hH,Bool.true_and];rw[if_neg (by simpa using k)]];have R:=y6 @k (y6 @pd (y6 @bl aE))
  repeat' ((first |(with_reducible refine .guard (fun hb =>?_) (fun hb =>?_) <;>try simp only[hb])|refine U.aI (by decide +kernel) rfl fun K hK =>?_|refine .flat _ (f1) rfl ?_|refine .flat _ (f2) rfl ?_|refine .flat _ (f3) rfl ?_|refine .flat _ (f4) rfl ?_|refine .flat _ (f5) rfl ?_|(refine .aF [0,1,2,30,33] hK ?_;clear hK K)|(with_reducible refine .done (hK _ ?_);clear hK K)|refine U.of rfl ?_|(with_reducible refine ay.aG (fun h =>?_) (fun h =>?_) <;>try simp only[h])) <;>try simp only[aJ,R,simprocAttr])
  all_goals clear R
  all_goals rfl
 rw[show bf r=mD r by simp only[bf,hH,Bool.true_and];rw[if_pos (by simpa using k)]];simp only[mD];cases w1:(r.dW==0)
 ·have R:=y6 @k (y6 @w1 (y6 @ij (y6 @kh (y6 @bl aE))))
  repeat' ((first |(with_reducible refine .guard (fun hb =>?_) (fun hb =>?_) <;>try simp only[hb])|refine U.aI (by decide +kernel) rfl fun K hK =>?_|refine .flat _ (f1) rfl ?_|refine .flat _ (f2) rfl ?_|refine .flat _ (f3) rfl ?_|refine .flat _ (f4) rfl ?_|refine .flat _ (f5) rfl ?_|refine .flat _ (f6) rfl ?_|(refine .aF [0,1,2,30,33] hK ?_;clear hK K)|(with_reducible refine .done (hK _ ?_);clear hK K)|refine U.of rfl ?_|(with_reducible refine ay.aG (fun h =>?_) (fun h =>?_) <;>try simp only[h])) <;>try simp only[aJ,R,simprocAttr])
  all_goals clear R
  all_goals rfl
 cases w2:decide (r.text=[])
 ·have R:=y6 @k (y6 @w1 (y6 @w2 (y6 @ij (y6 @kh (y6 @bl aE)))))
  repeat' ((first |(with_reducible refine .guard (fun hb =>?_) (fun hb =>?_) <;>try simp only[hb])|refine U.aI (by decide +kernel) rfl fun K hK =>?_|refine .flat _ (f1) rfl ?_|refine .flat _ (f2) rfl ?_|refine .flat _ (f3) rfl ?_|refine .flat _ (f4) rfl ?_|refine .flat _ (f5) rfl ?_|refine .flat _ (f6) rfl ?_|(refine .aF [0,1,2,30,33] hK ?_;clear hK K)|(with_reducible refine .done (hK _ ?_);clear hK K)|refine U.of rfl ?_|(with_reducible refine ay.aG (fun h =>?_) (fun h =>?_) <;>try simp only[h])) <;>try simp only[aJ,R,simprocAttr])
  all_goals clear R
  all_goals rfl
 cases w3:gT r.fx
 ·rw[w3] at f6;have R:=y6 @k (y6 @w1 (y6 @w2 (y6 @ij (y6 @kh (y6 @bl aE)))))
  repeat' ((first |(with_reducible refine .guard (fun hb =>?_) (fun hb =>?_) <;>try simp only[hb])|refine U.aI (by decide +kernel) rfl fun K hK =>?_|refine .flat _ (f1) rfl ?_|refine .flat _ (f2) rfl ?_|refine .flat _ (f3) rfl ?_|refine .flat _ (f4) rfl ?_|refine .flat _ (f5) rfl ?_|refine .flat _ (f6) rfl ?_|(refine .aF [0,1,2,30,33] hK ?_;clear hK K)|(with_reducible refine .done (hK _ ?_);clear hK K)|refine U.of rfl ?_|(with_reducible refine ay.aG (fun h =>?_) (fun h =>?_) <;>try simp only[h])) <;>try simp only[aJ,R,simprocAttr])
  all_goals clear R
  all_goals rfl
 rw[w3] at f6;cases w4:(r.eS==r.bd)
 ·have R:=y6 @k (y6 @w1 (y6 @w2 (y6 @w4 (y6 @ij (y6 @kh (y6 @bl aE))))))
  repeat' ((first |(with_reducible refine .guard (fun hb =>?_) (fun hb =>?_) <;>try simp only[hb])|refine U.aI (by decide +kernel) rfl fun K hK =>?_|refine .flat _ (f1) rfl ?_|refine .flat _ (f2) rfl ?_|refine .flat _ (f3) rfl ?_|refine .flat _ (f4) rfl ?_|refine .flat _ (f5) rfl ?_|refine .flat _ (f6) rfl ?_|(refine .aF [0,1,2,30,33] hK ?_;clear hK K)|(with_reducible refine .done (hK _ ?_);clear hK K)|refine U.of rfl ?_|(with_reducible refine ay.aG (fun h =>?_) (fun h =>?_) <;>try simp only[h])) <;>try simp only[aJ,R,simprocAttr])
  all_goals clear R
  all_goals rfl
 have R:=y6 @k (y6 @w1 (y6 @w2 (y6 @w4 (y6 @ij (y6 @kh (y6 @bl aE))))))
 repeat' ((first |(with_reducible refine .guard (fun hb =>?_) (fun hb =>?_) <;>try simp only[hb])|refine U.aI (by decide +kernel) rfl fun K hK =>?_|refine .flat _ (f1) rfl ?_|refine .flat _ (f2) rfl ?_|refine .flat _ (f3) rfl ?_|refine .flat _ (f4) rfl ?_|refine .flat _ (f5) rfl ?_|refine .flat _ (f6) rfl ?_|(refine .aF [0,1,2,30,33] hK ?_;clear hK K)|(with_reducible refine .done (hK _ ?_);clear hK K)|refine U.of rfl ?_|(with_reducible refine ay.aG (fun h =>?_) (fun h =>?_) <;>try simp only[h])) <;>try simp only[aJ,R,simprocAttr])
 all_goals clear R
 all_goals rfl
def o9(r:ah):Int:=if bf r=true then 0 else 80
def dm(t:List UInt8):List (List UInt8):=(iW 10 true t).dropLast
theorem r0{t:List UInt8}(h:∀ b∈t,b≠10):dm t=[]:=by rw[dm,zg h];rfl
theorem vf{x:List UInt8}(y:List UInt8)(h:∀ b∈x,b≠10):dm (x++10::y)=(x++[10])::dm y:=by
 rw[dm,zf y h,if_pos rfl,List.dropLast_cons_of_ne_nil (J3 10 true y)];rfl
def e8(ct:Int→List UInt8→Option (ah×Int))(nx:List ah→ah→Bool):List ah→Int→Nat→List (List UInt8)→List ah×Nat
 |out,_,size,[]=>(out,size)
 |out,s,size,x::t=>match ct s x with
  |none=>(out,size)
  |some q=>if nx out q.1=true then e8 ct nx (out++[q.1]) q.2 (size+x.length) t else (out,size)
def bp:Int→List ah→List UInt8
 |_,[]=>[]
 |s,r::l=>cS s r++bp (cM s (cC r)) l
def dF:Int→List ah→Int
 |s,[]=>s
 |s,r::l=>dF (cM s (cC r)) l
theorem Ei:∀ (a b:List ah) (s:Int),bp s (a++b)=bp s a++bp (dF s a) b
 | [],_,_=>rfl
 |r::a,b,s=>by simp only[Y2,bp,dF,Ei a b,Z3]
theorem Ec:∀ (a b:List ah) (s:Int),dF s (a++b)=dF (dF s a) b
 | [],_,_=>rfl
 |r::a,b,s=>by simp only[Y2,dF,Ec a b]
theorem wH:∀ (a:List ah) {s:Int},0≤s∧s<1000003→0≤dF s a∧dF s a<1000003
 | [],_,h=>h
 |_::a,_,h=>wH a (jM h _)
theorem tc(a:List ah)(r:ah)(s:Int):bp s (a++[r])=bp s a++cS (dF s a) r∧dF s (a++[r])=cM (dF s a) (cC r):=by
 rw[Ei,Ec];simp only[bp,dF,zy6,and_self]
structure ky (ok:ah→Bool):Prop where
 small:∀ r,ok r=true→∀ n∈dE r,0≤n∧n<100000000
 U9:∀ r,ok r=true→∀ b∈r.text,b≠10
theorem Xd:∀ {l:List Int},(∀ n∈l,0≤n)→∀ b∈c7 l,b≠10:=by
 intro l h b hb;obtain ⟨n,hn,hb⟩:=List.mem_flatMap.1 hb;rcases Y8.1 hb with hb | hb
 ·exact zl (h n hn) (by decide) b hb
 ·rw[zy2.1 hb];decide
theorem A5{ok:ah→Bool}(hk:ky ok){s:Int}(hs:0≤s∧s<1000003){r:ah}(h:ok r=true) :
  ∃ x,cS s r=x++[10]∧∀ b∈x,b≠10:=by
 refine ⟨_,ve s r,fun b hb =>?_⟩;rcases Y8.1 hb with hb | hb
 ·refine Xd (fun n hn =>?_) b hb;rcases zy0.1 hn with rfl | hn
  ·exact (jM hs _).1
  ·exact (hk.small r h n hn).1
 ·exact hk.U9 r h b hb
def eC(ok:ah→Bool)(nx:List ah→ah→Bool):List ah→List ah→Prop
 |_,[]=>True
 |out,r::l=>ok r=true∧nx out r=true∧eC ok nx (out++[r]) l
theorem wh{ok:ah→Bool}(hk:ky ok)(nx:List ah→ah→Bool)(z:List UInt8):∀ (l out:List ah) (s:Int) (size:Nat),0≤s∧s<1000003→eC ok nx out l →
  e8 (dn ok) nx out s size (dm (bp s l++z))=e8 (dn ok) nx (out++l) (dF s l) (size+(bp s l).length) (dm z)
 | [],out,s,size,_,_=>by simp only[bp,dF,zz2,zy6,zy1,Nat.add_zero]
 |r::l,out,s,size,hs,hw=>by
  obtain ⟨h1,h2,h3⟩:=hw;obtain ⟨x,e,hx⟩:=A5 hk hs h1;have hb:=(WE ok hs h1 (hk.small r h1)).1;have ih:=wh hk nx z l (out++[r]) (cM s (cC r)) (size+(cS s r).length) (jM hs _) h3;rw[bp,Z3,e,Z3,List.singleton_append,vf _ hx,←e,e8,hb];simp only[h2,if_true];rw[ih];simp only[dF,Z3,List.singleton_append,Z1,Nat.add_assoc]
theorem ql{ok:ah→Bool}(hk:ky ok)(nx:List ah→ah→Bool){l:List ah}(h:eC ok nx [] l){z:List UInt8}(hz:∀ b∈z,b≠10) :
  e8 (dn ok) nx [] 1 0 (dm (bp 1 l++z))=(l,(bp 1 l).length):=by
 rw[wh hk nx z l [] 1 0 (by omega) h,r0 hz,e8];simp
theorem ug{ok:ah→Bool}(hk:ky ok)(nx:List ah→ah→Bool):∀ (l out:List ah) (s:Int) (A C:List UInt8),0≤s∧s<1000003→eC ok nx out l→bp s l=A++C→C≠[] →
  ∃ l1 l2 A2,l=l1++l2∧l2≠[]∧A=bp s l1++A2∧(∀ b∈A2,b≠10)∧A.count 10=l1.length
 | [],_,_,A,C,_,_,e,hC=>by
  simp only[bp] at e;have:=congrArg List.length e;cases C with
  |nil=>exact absurd rfl hC
  |cons c t=>simp at this
 |r::l,out,s,A,C,hs,hw,e,hC=>by
  obtain ⟨h1,h2,h3⟩:=hw;obtain ⟨x,ex,hx⟩:=A5 hk hs h1;have hc:(cS s r).count 10=1:=by
   rw[ex,List.count_append,List.count_eq_zero.2 (fun k=>hx 10 k rfl)];rfl
  have step:∀ a',A=cS s r++a'→bp (cM s (cC r)) l=a'++C→∃ l1 l2 A2,r::l=l1++l2∧l2≠[]∧A=bp s l1++A2∧(∀ b∈A2,b≠10)∧A.count 10=l1.length:=by
   intro a' e1 e2;obtain ⟨l1,l2,A2,q1,q2,q3,q4,q5⟩:=ug hk nx l (out++[r]) _ a' C (jM hs _) h3 e2 hC;refine ⟨r::l1,l2,A2,by rw[q1];rfl,q2,by rw[e1,q3,bp,Z3],q4,?_⟩;rw[e1,List.count_append,hc,q5,zz4];omega
  rw[bp] at e;rcases List.append_eq_append_iff.1 e with ⟨a',e1,e2⟩ | ⟨c',e1,e2⟩
  ·exact step a' e1 e2
  ·by_cases hc':c'=[]
   ·subst hc';exact step [] (by rw[e1];simp) (by rw[e2];simp)
   ·have hA:∀ b∈A,b≠10:=by
     rw[ex] at e1;rcases List.append_eq_append_iff.1 e1 with ⟨y,f1,f2⟩ | ⟨y,f1,f2⟩
     ·have:y=[]:=by
       have h':=congrArg List.length f2;have h'':=List.length_pos_iff.2 hc';rw[Z1,List.length_singleton] at h';exact zz9 (by omega)
      rw[this,zy6] at f1;rw[f1];exact hx
     ·intro b hb;exact hx b (by rw[f1];exact List.mem_append_left _ hb)
    exact ⟨[],r::l,A,rfl,by simp,rfl,hA,by rw[List.count_eq_zero.2 (fun k=>hA 10 k rfl)];rfl⟩
theorem eC.left{ok:ah→Bool}{nx:List ah→ah→Bool} : ∀ {a b out:List ah},eC ok nx out (a++b)→eC ok nx out a
 | [],_,_,_=>trivial
 |_::_,_,_,h=>⟨h.1,h.2.1,eC.left h.2.2⟩
theorem Xq{ok:ah→Bool}(hk:ky ok)(nx:List ah→ah→Bool){l:List ah}(h:eC ok nx [] l){A C:List UInt8}(e:bp 1 l=A++C) :
  ∃ l1 l2,l=l1++l2∧(l2=[]↔C=[])∧(∃ A2,A=bp 1 l1++A2)∧e8 (dn ok) nx [] 1 0 (dm A)=(l1,(bp 1 l1).length):=by
 by_cases hC:C=[]
 ·subst hC;rw[zy6] at e;refine ⟨l,[],by simp,by simp,⟨[],by rw[e];simp⟩,?_⟩;have:=ql hk nx h (z:=[]) (by simp);rw[zy6,e] at this;rw[this,e]
 ·obtain ⟨l1,l2,A2,q1,q2,q3,q4,_⟩:=ug hk nx l [] 1 A C (by omega) h e hC;refine ⟨l1,l2,q1,by simp[q2,hC],⟨A2,q3⟩,?_⟩;rw[q3];exact ql hk nx (eC.left (q1▸h)) q4
theorem Ul(m:Nat)(b:UInt8)(h:b∈Lib.itoa (m:Int)):57<b.toNat→False:=by
 intro hb;rw[Lib.itoa_nonneg] at h;have hd:=(nH m).1;generalize Lib.decDigits m=l at h hd;obtain ⟨j,hj,rfl⟩:=List.getElem_of_mem h;rw[Kv hj (by simp only[iD,decide_eq_false_iff_not];omega)] at hd;cases hd
theorem Va{ok:ah→Bool}(hk:ky ok)(hq:∀ r,ok r=true→∀ b∈r.text,b≠63){s:Int}(hs:0≤s∧s<1000003){t:List UInt8}(h:(63:UInt8)∈t):dn ok s t=none:=by
 cases hr:dn ok s t with
 |none=>rfl
 |some q =>
  exfalso
  obtain ⟨h1,h2,_⟩:=C5 ok hr;rw[←h2,ve] at h;rcases Y8.1 h with h | h
  ·rcases Y8.1 h with h | h
   ·obtain ⟨n,hn,hb⟩:=List.mem_flatMap.1 h;have h0:0≤n:=by
     rcases zy0.1 hn with rfl | hn
     ·exact (jM hs _).1
     ·exact (hk.small _ h1 n hn).1
    rcases Y8.1 hb with hb | hb
    ·obtain ⟨m,rfl⟩:=Y0 h0;exact Ul m 63 hb (by decide)
    ·exact absurd (zy2.1 hb) (by decide)
   ·exact hq _ h1 63 h rfl
  ·exact absurd (zy2.1 h) (by decide)
theorem Xt{ok:ah→Bool}(hk:ky ok)(hq:∀ r,ok r=true→∀ b∈r.text,b≠63)(nx:List ah→ah→Bool){l:List ah}(h:eC ok nx [] l){A C:List UInt8}{b:UInt8}
  (e:bp 1 l=A++b::C):∃ l1 l2,l=l1++l2∧A.count 10=l1.length∧(∃ A2,A=bp 1 l1++A2)∧e8 (dn ok) nx [] 1 0 (dm (A++63::C))=(l1,(bp 1 l1).length):=by
 obtain ⟨l1,l2,A2,q1,_,q3,q4,q5⟩:=ug hk nx l [] 1 A (b::C) (by omega) h e (by simp);refine ⟨l1,l2,q1,q5,⟨A2,q3⟩,?_⟩;have hw:eC ok nx [] l1:=eC.left (q1▸h);rw[q3,Z3,wh hk nx _ l1 [] 1 0 (by omega) hw];simp only[zz2,Z9];rcases zS 10 C with hC | ⟨x,y,hx,rfl⟩
 ·rw[r0,e8];intro z hz;rcases Y8.1 hz with hz | hz
  ·exact q4 z hz
  ·rcases zy0.1 hz with rfl | hz
   ·decide
   ·exact hC z hz
 ·rw[show A2++63::(x++10::y)=(A2++63::x)++10::y by simp,vf y (by
   intro z hz;rcases Y8.1 hz with hz | hz
   ·exact q4 z hz
   ·rcases zy0.1 hz with rfl | hz
    ·decide
    ·exact hx z hz),e8,Va hk hq (wH l1 (by omega)) (by simp)]
theorem XM{ok:ah→Bool}(hk:ky ok)(nx:List ah→ah→Bool){l m:List ah}(h:eC ok nx [] l)(h':eC ok nx [] m)(e:bp 1 l=bp 1 m):l=m:=by
 have h1:=ql hk nx h (z:=[]) (by simp);have h2:=ql hk nx h' (z:=[]) (by simp);rw[e,h2] at h1;exact (Prod.mk.inj h1).1.symm
def fX(ok:ah→Bool)(nx:List ah→ah→Bool)(t:List UInt8):List ah×List UInt8:=((e8 (dn ok) nx [] 1 0 (dm t)).1,t.take (e8 (dn ok) nx [] 1 0 (dm t)).2)
def sB(ok:ah→Bool)(nx:List ah→ah→Bool)(a b:List UInt8):List ah×List UInt8 :=
 if (fX ok nx a).1.length<(fX ok nx b).1.length then fX ok nx b else fX ok nx a
def dq(l:List ah)(m:Int):Nat:=l.countP fun r=>decide (r.bd=m)
def ny(a b:ah):Bool:=decide (a.bd<b.bd∨(a.bd=b.bd∧a.no<b.no))
def ji(l:List ah)(r:ah):Bool:=match l.getLast? with
 |none=>decide ((r.bd=-1∧r.no=1)∨(-1<r.bd∧r.no=0))
 |some a=>decide ((r.bd=a.bd∧r.no=a.no+1)∨(a.bd<r.bd∧r.no=0))
def wC(l:List ah)(r:ah):Bool:=(match l.getLast? with
 |none=>true
 |some a=>ny a r)&&decide ((dq l r.bd:Int)=r.no)
def ib(aV:List ah→ah→Bool):List ah→List ah→Bool
 |_,[]=>true
 |out,r::l=>aV out r&&ib aV (out++[r]) l
def oG(l:List ah):Prop:=match l.getLast? with
 |none=>True
 |some a=>(dq l a.bd:Int)=a.no+1∧∀ m,a.bd<m→dq l m=0
theorem pc(l:List ah)(r:ah)(m:Int):dq (l++[r]) m=dq l m+if r.bd=m then 1 else 0:=by
 rw[dq,List.countP_append,←dq,List.countP_cons,List.countP_nil];simp
theorem XH{l:List ah}(h:oG l){r:ah}(hr:0≤r.bd∧0≤r.no):ji l r=wC l r∧(ji l r=true→oG (l++[r])):=by
 rw[oG] at h;have hl:(l++[r]).getLast?=some r:=by rw[List.getLast?_append];rfl
 rw[oG,hl,ji,wC];cases e:l.getLast? with
 |none =>
  have hnil:l=[]:=List.getLast?_eq_none_iff.1 e;subst hnil;have c0:∀ m,dq [] m=0:=fun _=>rfl;have c1:=c0 r.bd;simp only[Bool.true_and];refine ⟨?_,?_⟩
  ·rw[Bool.eq_iff_iff,decide_eq_true_iff,decide_eq_true_iff];constructor
   ·intro h;rcases h with h | h <;>omega
   ·intro h;right;omega
  ·intro h;rw[decide_eq_true_eq] at h;refine ⟨by rw[pc,if_pos rfl];omega,fun m hm =>?_⟩;rw[pc,if_neg (by omega),c0]
 |some a =>
  rw[e] at h;obtain ⟨h1,h2⟩:=h;simp only;refine ⟨?_,?_⟩
  ·rw[ny,Bool.eq_iff_iff,Z0,decide_eq_true_eq,decide_eq_true_eq,decide_eq_true_eq];rcases Int.lt_trichotomy a.bd r.bd with c | c | c
   ·have:=h2 r.bd c;constructor
    ·intro k;exact ⟨.inl c,by omega⟩
    ·intro k;right;omega
   ·rw[←c];constructor
    ·intro k;exact ⟨.inr ⟨rfl,by omega⟩,by omega⟩
    ·intro k;left;omega
   ·constructor
    ·intro k;omega
    ·intro k;omega
  ·intro k;rw[decide_eq_true_eq] at k;rw[pc,if_pos rfl];refine ⟨?_,fun m hm =>?_⟩
   ·rcases k with k | k
    ·rw[k.1];omega
    ·have:=h2 r.bd k.1;omega
   ·rw[pc,if_neg (by omega),h2 m (by omega)]
theorem xC:∀ (l out:List ah),oG out→(∀ r∈l,0≤r.bd∧0≤r.no)→ib ji out l=true→out.Pairwise (fun a b=>ny a b=true)→(out++l).Pairwise (fun a b=>ny a b=true)
 | [],out,_,_,_,h=>by simpa using h
 |r::l,out,h,hr,hb,hp=>by
  simp only[ib,Z0] at hb;obtain ⟨e,k⟩:=XH h (hr r (by simp));have:=xC l (out++[r]) (k hb.1) (fun x hx=>hr x (by simp[hx])) hb.2 (by
   rw[List.pairwise_append];refine ⟨hp,by simp,fun a ha b hb' =>?_⟩;rw[zy2.1 hb'];have hs:=hb.1;rw[e,wC,Z0] at hs;have hne:out≠[]:=fun k=>by rw[k] at ha;cases ha
   have hlast:=List.getLast?_eq_some_getLast hne;rw[hlast] at hs;have h1:=hs.1;have hcat:=List.dropLast_concat_getLast hne;rw[←hcat] at ha hp;rcases Y8.1 ha with ha | ha
   ·have h2:=(List.pairwise_append.1 hp).2.2 a ha _ (zy2.2 rfl);simp only[ny,decide_eq_true_eq] at h1 h2 ⊢;omega
   ·rw[zy2.1 ha];exact h1)
  rwa [Z3,List.singleton_append] at this
def da(out:List ah)(r:ah):Bool:=decide (out.length<60)&&decide ((dq out r.bd:Int)=r.no)
theorem eC.len{ok:ah→Bool} : ∀ {l out:List ah},out.length≤60→eC ok da out l→out.length+l.length≤60
 | [],out,h,_=>by simpa using h
 |r::l,out,h,hw=>by
  have hn:=hw.2.1;simp only[da,Z0,decide_eq_true_eq] at hn;have:=eC.len (out:=out++[r]) (by simp;omega) hw.2.2;simp only[Z1,zz4,zy1] at this ⊢;omega
theorem eC.ok{ok:ah→Bool}{nx:List ah→ah→Bool} : ∀ {l out:List ah},eC ok nx out l→∀ r∈l,ok r=true
 | [],_,_,r,h=>by cases h
 |_::_,_,hw,r,h=>by
  rcases zy0.1 h with rfl | h
  ·exact hw.1
  ·exact eC.ok hw.2.2 r h
theorem mi{lo hi n:Int} : ee lo hi n=true↔lo≤n∧n≤hi:=by simp[ee]
theorem pS{x:Item} : gT x=true↔(0≤x.bd∧x.bd≤5)∧0≤x.no∧x.no≤9999:=by simp[gT,mi]
theorem mC{r:ah}(h:bf r=true):fy r=true:=by
 simp only[bf,Z0] at h;exact h.1
theorem mB{r:ah}(h:fy r=true):(0≤r.bd∧r.bd≤5)∧(0≤r.no∧r.no≤9999)∧(0≤r.kind∧r.kind≤40)∧(0≤r.dW∧r.dW≤100000)∧(0≤r.known∧r.known≤100000)∧fK r.text=true:=by
 simp only[fy,pS,mi,Z0] at h;exact ⟨h.1.1,h.1.2,h.2.1,h.2.2.1,h.2.2.2.1,h.2.2.2.2⟩
theorem VZ{r:ah}(h:bf r=true):(0≤r.eS∧r.eS≤5)∧(0≤r.eZ∧r.eZ≤9999):=by
 simp only[bf,Z0] at h;obtain ⟨_,h⟩:=h;split at h
 ·simp only[mD,pS,Z0] at h;exact h.2.2.1
 ·simp only[decide_eq_true_eq,ah.fx,Item.mk.injEq] at h;omega
theorem pT{r:ah}(h:bf r=true):∀ n∈dE r,0≤n∧n<100000000:=by
 obtain ⟨a1,a2,a3,a4,a5,_⟩:=mB (mC h);obtain ⟨a6,a7⟩:=VZ h;intro n hn;simp only[dE,zy0,List.not_mem_nil,or_false] at hn;rcases hn with rfl | rfl | rfl | rfl | rfl | rfl | rfl <;>omega
theorem V5{t:List UInt8}(h:fK t=true):t.length≤160:=by
 simp only[fK,Z0,decide_eq_true_eq] at h;exact h.1
theorem sw{r:ah}(h:bf r=true):r.text.length≤160:=V5 (mB (mC h)).2.2.2.2.2
theorem By{t:List UInt8}{c:UInt8}(h:fK t=true)(hc:fJ c=false):∀ b∈t,b≠c:=by
 simp only[fK,Z0,Y5] at h;intro b hb e;rw[e] at hb;rw[h.2 c hb] at hc;cases hc
theorem sy:ky bf:=⟨fun _ h=>pT h,fun _ h=>By (mB (mC h)).2.2.2.2.2 (by decide)⟩
theorem V0:∀ r,bf r=true→∀ b∈r.text,b≠63:=fun _ h=>By (mB (mC h)).2.2.2.2.2 (by decide)
theorem X7(r:ah):aQ Tryz.prog 34 [enc r] (enc (o9 r)):=by
 refine aQ.bN Tryz.func34 Hc Il Jz (t8 rfl) (fun hwf W0 bH E1 =>?_);simp only[ym,CC,bD];clear hwf;have f1:=xd r.bB;have f2:=lW r.kind 0 40;have f3:=lW r.dW 0 100000;have f4:=lW r.known 0 100000;have f5:=Fb r.text;have f6:=xd r.fx;have no:bf r=false→o9 r=80:=fun h=>by simp[o9,h]
 have ye:bf r=true→o9 r=0:=fun h=>by simp[o9,h]
 cases q1:gT r.bB
 ·rw[q1] at f1;rw[no (by simp only[bf,fy,q1,Bool.false_and])];have R:=y6 @q1 (y6 @bl aE)
  repeat' ((first |(with_reducible refine .guard (fun hb =>?_) (fun hb =>?_) <;>try simp only[hb])|refine U.aI (by decide +kernel) rfl fun K hK =>?_|refine .flat _ (f1) rfl ?_|refine .flat _ (f2) rfl ?_|refine .flat _ (f3) rfl ?_|refine .flat _ (f4) rfl ?_|refine .flat _ (f5) rfl ?_|(refine .aF [0,1,2,30,33,65,69] hK ?_;clear hK K)|(with_reducible refine .done (hK _ ?_);clear hK K)|refine U.of rfl ?_|(with_reducible refine ay.aG (fun h =>?_) (fun h =>?_) <;>try simp only[h])) <;>try simp only[aJ,R,simprocAttr])
  all_goals clear R
  all_goals rfl
 rw[q1] at f1;cases q2:ee 0 40 r.kind
 ·rw[q2] at f2;rw[no (by simp only[bf,fy,q1,q2,Bool.false_and,Bool.and_false])];have R:=y6 @bl aE
  repeat' ((first |(with_reducible refine .guard (fun hb =>?_) (fun hb =>?_) <;>try simp only[hb])|refine U.aI (by decide +kernel) rfl fun K hK =>?_|refine .flat _ (f1) rfl ?_|refine .flat _ (f2) rfl ?_|refine .flat _ (f3) rfl ?_|refine .flat _ (f4) rfl ?_|refine .flat _ (f5) rfl ?_|(refine .aF [0,1,2,30,33,65,69] hK ?_;clear hK K)|(with_reducible refine .done (hK _ ?_);clear hK K)|refine U.of rfl ?_|(with_reducible refine ay.aG (fun h =>?_) (fun h =>?_) <;>try simp only[h])) <;>try simp only[aJ,R,simprocAttr])
  all_goals clear R
  all_goals rfl
 rw[q2] at f2;cases q3:ee 0 100000 r.dW
 ·rw[q3] at f3;rw[no (by simp only[bf,fy,q1,q2,q3,Bool.false_and,Bool.and_false])];have R:=y6 @bl aE
  repeat' ((first |(with_reducible refine .guard (fun hb =>?_) (fun hb =>?_) <;>try simp only[hb])|refine U.aI (by decide +kernel) rfl fun K hK =>?_|refine .flat _ (f1) rfl ?_|refine .flat _ (f2) rfl ?_|refine .flat _ (f3) rfl ?_|refine .flat _ (f4) rfl ?_|refine .flat _ (f5) rfl ?_|(refine .aF [0,1,2,30,33,65,69] hK ?_;clear hK K)|(with_reducible refine .done (hK _ ?_);clear hK K)|refine U.of rfl ?_|(with_reducible refine ay.aG (fun h =>?_) (fun h =>?_) <;>try simp only[h])) <;>try simp only[aJ,R,simprocAttr])
  all_goals clear R
  all_goals rfl
 rw[q3] at f3;cases q4:ee 0 100000 r.known
 ·rw[q4] at f4;rw[no (by simp only[bf,fy,q1,q2,q3,q4,Bool.false_and,Bool.and_false])];have R:=y6 @bl aE
  repeat' ((first |(with_reducible refine .guard (fun hb =>?_) (fun hb =>?_) <;>try simp only[hb])|refine U.aI (by decide +kernel) rfl fun K hK =>?_|refine .flat _ (f1) rfl ?_|refine .flat _ (f2) rfl ?_|refine .flat _ (f3) rfl ?_|refine .flat _ (f4) rfl ?_|refine .flat _ (f5) rfl ?_|(refine .aF [0,1,2,30,33,65,69] hK ?_;clear hK K)|(with_reducible refine .done (hK _ ?_);clear hK K)|refine U.of rfl ?_|(with_reducible refine ay.aG (fun h =>?_) (fun h =>?_) <;>try simp only[h])) <;>try simp only[aJ,R,simprocAttr])
  all_goals clear R
  all_goals rfl
 rw[q4] at f4;cases q5:fK r.text
 ·rw[q5] at f5;rw[no (by simp only[bf,fy,q1,q2,q3,q4,q5,Bool.false_and,Bool.and_false])];have R:=y6 @bl aE
  repeat' ((first |(with_reducible refine .guard (fun hb =>?_) (fun hb =>?_) <;>try simp only[hb])|refine U.aI (by decide +kernel) rfl fun K hK =>?_|refine .flat _ (f1) rfl ?_|refine .flat _ (f2) rfl ?_|refine .flat _ (f3) rfl ?_|refine .flat _ (f4) rfl ?_|refine .flat _ (f5) rfl ?_|(refine .aF [0,1,2,30,33,65,69] hK ?_;clear hK K)|(with_reducible refine .done (hK _ ?_);clear hK K)|refine U.of rfl ?_|(with_reducible refine ay.aG (fun h =>?_) (fun h =>?_) <;>try simp only[h])) <;>try simp only[aJ,R,simprocAttr])
  all_goals clear R
  all_goals rfl
 rw[q5] at f5;have hH:fy r=true:=by simp only[fy,q1,q2,q3,q4,q5,Bool.and_self]
 cases k:(r.kind==0)
 ·cases z:decide (r.fx=⟨0,0⟩)
  ·rw[no (by simp only[bf,hH,Bool.true_and];rw[if_neg (by simpa using k)];exact z)];have R:=y6 @k (y6 @z (y6 @pd (y6 @bl aE)))
   repeat' ((first |(with_reducible refine .guard (fun hb =>?_) (fun hb =>?_) <;>try simp only[hb])|refine U.aI (by decide +kernel) rfl fun K hK =>?_|refine .flat _ (f1) rfl ?_|refine .flat _ (f2) rfl ?_|refine .flat _ (f3) rfl ?_|refine .flat _ (f4) rfl ?_|refine .flat _ (f5) rfl ?_|(refine .aF [0,1,2,30,33,65,69] hK ?_;clear hK K)|(with_reducible refine .done (hK _ ?_);clear hK K)|refine U.of rfl ?_|(with_reducible refine ay.aG (fun h =>?_) (fun h =>?_) <;>try simp only[h])) <;>try simp only[aJ,R,simprocAttr])
   all_goals clear R
   all_goals rfl
  ·rw[ye (by simp only[bf,hH,Bool.true_and];rw[if_neg (by simpa using k)];exact z)];have R:=y6 @k (y6 @z (y6 @pd (y6 @bl aE)))
   repeat' ((first |(with_reducible refine .guard (fun hb =>?_) (fun hb =>?_) <;>try simp only[hb])|refine U.aI (by decide +kernel) rfl fun K hK =>?_|refine .flat _ (f1) rfl ?_|refine .flat _ (f2) rfl ?_|refine .flat _ (f3) rfl ?_|refine .flat _ (f4) rfl ?_|refine .flat _ (f5) rfl ?_|(refine .aF [0,1,2,30,33,65,69] hK ?_;clear hK K)|(with_reducible refine .done (hK _ ?_);clear hK K)|refine U.of rfl ?_|(with_reducible refine ay.aG (fun h =>?_) (fun h =>?_) <;>try simp only[h])) <;>try simp only[aJ,R,simprocAttr])
   all_goals clear R
   all_goals rfl
 have hK:bf r=mD r:=by simp only[bf,hH,Bool.true_and];rw[if_pos (by simpa using k)]
 simp only[mD] at hK;cases w1:(r.dW==0)
 ·have w1':(r.dW != 0)=true:=by simp[bne,w1]
  rw[no (by rw[hK,w1];rfl)];have R:=y6 @k (y6 @w1' (y6 @ij (y6 @gK (y6 @bl aE))))
  repeat' ((first |(with_reducible refine .guard (fun hb =>?_) (fun hb =>?_) <;>try simp only[hb])|refine U.aI (by decide +kernel) rfl fun K hK =>?_|refine .flat _ (f1) rfl ?_|refine .flat _ (f2) rfl ?_|refine .flat _ (f3) rfl ?_|refine .flat _ (f4) rfl ?_|refine .flat _ (f5) rfl ?_|refine .flat _ (f6) rfl ?_|(refine .aF [0,1,2,30,33,65,69] hK ?_;clear hK K)|(with_reducible refine .done (hK _ ?_);clear hK K)|refine U.of rfl ?_|(with_reducible refine ay.aG (fun h =>?_) (fun h =>?_) <;>try simp only[h])) <;>try simp only[aJ,R,simprocAttr])
  all_goals clear R
  all_goals rfl
 have w1':(r.dW != 0)=false:=by simp[bne,w1]
 cases w2:decide (r.text=[])
 ·rw[no (by rw[hK,w1,w2];rfl)];have R:=y6 @k (y6 @w1' (y6 @w2 (y6 @ij (y6 @gK (y6 @bl aE)))))
  repeat' ((first |(with_reducible refine .guard (fun hb =>?_) (fun hb =>?_) <;>try simp only[hb])|refine U.aI (by decide +kernel) rfl fun K hK =>?_|refine .flat _ (f1) rfl ?_|refine .flat _ (f2) rfl ?_|refine .flat _ (f3) rfl ?_|refine .flat _ (f4) rfl ?_|refine .flat _ (f5) rfl ?_|refine .flat _ (f6) rfl ?_|(refine .aF [0,1,2,30,33,65,69] hK ?_;clear hK K)|(with_reducible refine .done (hK _ ?_);clear hK K)|refine U.of rfl ?_|(with_reducible refine ay.aG (fun h =>?_) (fun h =>?_) <;>try simp only[h])) <;>try simp only[aJ,R,simprocAttr])
  all_goals clear R
  all_goals rfl
 cases w3:gT r.fx
 ·rw[w3] at f6;rw[no (by rw[hK,w1,w2,w3];rfl)];have R:=y6 @k (y6 @w1' (y6 @w2 (y6 @ij (y6 @gK (y6 @bl aE)))))
  repeat' ((first |(with_reducible refine .guard (fun hb =>?_) (fun hb =>?_) <;>try simp only[hb])|refine U.aI (by decide +kernel) rfl fun K hK =>?_|refine .flat _ (f1) rfl ?_|refine .flat _ (f2) rfl ?_|refine .flat _ (f3) rfl ?_|refine .flat _ (f4) rfl ?_|refine .flat _ (f5) rfl ?_|refine .flat _ (f6) rfl ?_|(refine .aF [0,1,2,30,33,65,69] hK ?_;clear hK K)|(with_reducible refine .done (hK _ ?_);clear hK K)|refine U.of rfl ?_|(with_reducible refine ay.aG (fun h =>?_) (fun h =>?_) <;>try simp only[h])) <;>try simp only[aJ,R,simprocAttr])
  all_goals clear R
  all_goals rfl
 rw[w3] at f6;cases w4:(r.eS==r.bd)
 ·have w4':(r.eS != r.bd)=true:=by simp[bne,w4]
  rw[no (by rw[hK,w1,w2,w3,w4];rfl)];have R:=y6 @k (y6 @w1' (y6 @w2 (y6 @w4' (y6 @ij (y6 @gK (y6 @bl aE))))))
  repeat' ((first |(with_reducible refine .guard (fun hb =>?_) (fun hb =>?_) <;>try simp only[hb])|refine U.aI (by decide +kernel) rfl fun K hK =>?_|refine .flat _ (f1) rfl ?_|refine .flat _ (f2) rfl ?_|refine .flat _ (f3) rfl ?_|refine .flat _ (f4) rfl ?_|refine .flat _ (f5) rfl ?_|refine .flat _ (f6) rfl ?_|(refine .aF [0,1,2,30,33,65,69] hK ?_;clear hK K)|(with_reducible refine .done (hK _ ?_);clear hK K)|refine U.of rfl ?_|(with_reducible refine ay.aG (fun h =>?_) (fun h =>?_) <;>try simp only[h])) <;>try simp only[aJ,R,simprocAttr])
  all_goals clear R
  all_goals rfl
 have w4':(r.eS != r.bd)=false:=by simp[bne,w4]
 cases w5:decide (r.eZ<r.no)
 ·have w5':decide (r.eZ≥r.no)=true:=by rw[decide_eq_false_iff_not] at w5;exact decide_eq_true (by omega)
  rw[no (by rw[hK,w1,w2,w3,w4,w5];rfl)];have R:=y6 @k (y6 @w1' (y6 @w2 (y6 @w4' (y6 @w5' (y6 @ij (y6 @gK (y6 @bl aE)))))))
  repeat' ((first |(with_reducible refine .guard (fun hb =>?_) (fun hb =>?_) <;>try simp only[hb])|refine U.aI (by decide +kernel) rfl fun K hK =>?_|refine .flat _ (f1) rfl ?_|refine .flat _ (f2) rfl ?_|refine .flat _ (f3) rfl ?_|refine .flat _ (f4) rfl ?_|refine .flat _ (f5) rfl ?_|refine .flat _ (f6) rfl ?_|(refine .aF [0,1,2,30,33,65,69] hK ?_;clear hK K)|(with_reducible refine .done (hK _ ?_);clear hK K)|refine U.of rfl ?_|(with_reducible refine ay.aG (fun h =>?_) (fun h =>?_) <;>try simp only[h])) <;>try simp only[aJ,R,simprocAttr])
  all_goals clear R
  all_goals rfl
 ·have w5':decide (r.eZ≥r.no)=false:=by rw[decide_eq_true_eq] at w5;exact decide_eq_false (by omega)
  rw[ye (by rw[hK,w1,w2,w3,w4,w5];rfl)];have R:=y6 @k (y6 @w1' (y6 @w2 (y6 @w4' (y6 @w5' (y6 @ij (y6 @gK (y6 @bl aE)))))))
  repeat' ((first |(with_reducible refine .guard (fun hb =>?_) (fun hb =>?_) <;>try simp only[hb])|refine U.aI (by decide +kernel) rfl fun K hK =>?_|refine .flat _ (f1) rfl ?_|refine .flat _ (f2) rfl ?_|refine .flat _ (f3) rfl ?_|refine .flat _ (f4) rfl ?_|refine .flat _ (f5) rfl ?_|refine .flat _ (f6) rfl ?_|(refine .aF [0,1,2,30,33,65,69] hK ?_;clear hK K)|(with_reducible refine .done (hK _ ?_);clear hK K)|refine U.of rfl ?_|(with_reducible refine ay.aG (fun h =>?_) (fun h =>?_) <;>try simp only[h])) <;>try simp only[aJ,R,simprocAttr])
  all_goals clear R
  all_goals rfl
theorem XR{n:Int}(h:0≤n∧n<256):IntKind.u8.wrap n=n:=by
 simp only[IntKind.wrap,IntKind.bits,IntKind.signed];simp;omega
theorem eH(a b:List UInt8)(h:a.length+b.length≤9223372036854775807):bF .add (enc (ak.of a)) (enc (ak.of b))=some (enc (ak.of (a++b))):=by
 rw[Xk _ _ (by rw[ak.de,ak.de];exact h)];rfl
def jT(m:Nat):UInt8:=UInt8.ofNat (48+m%10)
theorem Ui{m:Nat}(h:10≤m):Lib.itoa (m:Int)=Lib.itoa ((m / 10:Nat):Int)++[jT m]:=by
 rw[Lib.itoa_nonneg,Lib.itoa_nonneg,rl (by omega)];rfl
theorem Uj{m:Nat}(h:m<10):Lib.itoa (m:Int)=[jT m]:=by
 rw[Lib.itoa_nonneg,Lib.decDigits_one (by omega),jT,Nat.mod_eq_of_lt h]
def tz(t:Nat×List UInt8):ab:=aw [(0,.int .i64 (t.1:Int)),(3,enc (ak.of (jT t.1::t.2)))] []
theorem wV(m:Nat)(hm:m≤9223372036854775807):aQ Tryz.prog 134 [enc (m:Int)] (enc (ak.of (Lib.itoa (m:Int)))):=by
 refine aQ.bN Tryz.func134 GK HU Ja (t8 rfl) (fun hwf W0 bH E1 =>?_);simp only[xQ,Cd,bD];clear hwf;have hd:∀ k:Nat,k≤9223372036854775807→IntKind.i64.wrap (48+(k:Int).tmod 10)=48+(k:Int).tmod 10∧IntKind.u8.wrap (48+(k:Int).tmod 10)=48+(k:Int).tmod 10∧ak.of [UInt8.ofNat (48+(k:Int).tmod 10).toNat]=ak.of [jT k]:=fun k hk=>by
  have e:((k:Int)).tmod 10=((k%10:Nat):Int):=rfl;rw[e];refine ⟨dU _ (by omega) (by omega),XR (by omega),?_⟩;rw[jT,show ((48:Int)+((k%10:Nat):Int)).toNat=48+k%10 by omega]
 obtain ⟨h1,h2,h3⟩:=hd m hm;have R:=y6 @h1 (y6 @h2 (y6 @h3 (y6 @bl aE)))
 repeat' ((first |refine U.aI (by decide +kernel) rfl fun K hK =>?_|(refine .aF [0,2,3,11] hK ?_;clear hK K)|(with_reducible refine .done (hK _ ?_);clear hK K)|refine U.of rfl ?_|(with_reducible refine ay.aG (fun h =>?_) (fun h =>?_) <;>try simp only[h])) <;>try simp only[aJ,R,simprocAttr])
 all_goals clear R
 refine U.loop tz (fun t=>t.1≤9223372036854775807∧Lib.itoa (m:Int)=Lib.itoa (t.1:Int)++t.2) (fun t=>t.1) (m,[]) ⟨hm,by simp⟩ ?_ ?_
 ·simp only[tz];refine bx.cJ ?_ ?_ ?_ ?_ <;>simp[cg,cq,cn,bP,cd,I.only,bG]
 rintro ⟨k,t⟩ ⟨hk,hin⟩;simp only at hk hin;simp only[tz];by_cases hlt:k<10
 ·have hlc:decide ((k:Int)≥10)=false:=decide_eq_false (by omega);rw[Uj hlt] at hin;rw[hin];have R:=y6 @hlc (y6 @bl aE)
  repeat' ((first |refine U.aI (by decide +kernel) rfl fun K hK =>?_|(refine .aF [0,2,3,11] hK ?_;clear hK K)|(with_reducible refine .done (hK _ ?_);clear hK K)|refine U.of rfl ?_|(with_reducible refine ay.aG (fun h =>?_) (fun h =>?_) <;>try simp only[h])) <;>try simp only[aJ,R,simprocAttr])
  all_goals clear R
  all_goals rfl
 ·have hlc:decide ((k:Int)≥10)=true:=decide_eq_true (by omega);have hq:IntKind.i64.wrap ((k:Int).tdiv 10)=((k / 10:Nat):Int):=by
   have e:((k:Int)).tdiv 10=((k / 10:Nat):Int):=rfl;rw[e];exact dU _ (by omega) (by omega)
  obtain ⟨g1,g2,g3⟩:=hd (k / 10) (by omega);rw[Ui (m:=k) (by omega),Z3,List.singleton_append] at hin;have hlen:(jT k::t).length≤100:=by
   have h4:=congrArg List.length hin;rw[Z1] at h4;have h5:=Lib.itoa_length_le (m:Int) (by omega) (by omega);omega
  have hadd:=eH [jT (k / 10)] (jT k::t) (by simp only[List.length_singleton];omega);have R:=y6 @hlc (y6 @hq (y6 @g1 (y6 @g2 (y6 @g3 (y6 @hadd (y6 @bl aE))))))
  repeat' ((first |refine U.aI (by decide +kernel) rfl fun K hK =>?_|(refine .aF [0,2,3,11] hK ?_;clear hK K)|(with_reducible refine .done (hK _ ?_);clear hK K)|refine U.of rfl ?_|(with_reducible refine ay.aG (fun h =>?_) (fun h =>?_) <;>try simp only[h])) <;>try simp only[aJ,R,simprocAttr])
  all_goals clear R
  refine ⟨(k / 10,jT k::t),⟨by simp only;omega,hin⟩,by simp only;omega,?_⟩;clear hin hd hadd hlen;refine bx.cJ ?_ ?_ ?_ ?_ <;>simp[cg,cq,cn,bP,cd,I.only,bG]
theorem lV{n:Int}(h:0≤n∧n<100000000):aQ Tryz.prog 134 [.int .i64 n] (enc (ak.of (Lib.itoa n)))∧(Lib.itoa n).length≤8:=by
 obtain ⟨m,rfl⟩:=Y0 h.1;exact ⟨wV m (by omega),pE (k:=7) (by omega)⟩
theorem EL(r:ah)(hs:r.text.length≤1000000000000)(hn:∀ n∈dE r,0≤n∧n<100000000):aQ Tryz.prog 133 [enc r] (enc (ak.of (cC r))):=by
 obtain ⟨c1,l1⟩:=lV (hn r.bd (by simp[dE]));obtain ⟨c2,l2⟩:=lV (hn r.no (by simp[dE]));obtain ⟨c3,l3⟩:=lV (hn r.kind (by simp[dE]));obtain ⟨c4,l4⟩:=lV (hn r.dW (by simp[dE]));obtain ⟨c5,l5⟩:=lV (hn r.known (by simp[dE]));obtain ⟨tU,l6⟩:=lV (hn r.eS (by simp[dE]));obtain ⟨qU,l7⟩:=lV (hn r.eZ (by simp[dE]));have hb:cC r=Lib.itoa r.bd++[32]++Lib.itoa r.no++[32]++Lib.itoa r.kind++[32]++Lib.itoa r.dW++[32]++Lib.itoa r.known++[32]++Lib.itoa r.eS++[32]++Lib.itoa r.eZ++[32]++r.text:=by
  simp[cC,c7,dE]
 rw[hb];generalize Lib.itoa r.bd=x1 at *;generalize Lib.itoa r.no=x2 at *;generalize Lib.itoa r.kind=x3 at *;generalize Lib.itoa r.dW=x4 at *;generalize Lib.itoa r.known=x5 at *;generalize Lib.itoa r.eS=x6 at *;generalize Lib.itoa r.eZ=x7 at *;have ls:([32]:List UInt8).length=1:=rfl;have a1:=eH x1 [32] (by omega);have a2:=eH (x1++[32]) x2 (by simp only[Z1,ls];omega);have a3:=eH (x1++[32]++x2) [32] (by simp only[Z1,ls];omega);have a4:=eH (x1++[32]++x2++[32]) x3 (by simp only[Z1,ls];omega);have a5:=eH (x1++[32]++x2++[32]++x3) [32] (by simp only[Z1,ls];omega);have a6:=eH (x1++[32]++x2++[32]++x3++[32]) x4 (by simp only[Z1,ls];omega);have a7:=eH (x1++[32]++x2++[32]++x3++[32]++x4) [32] (by simp only[Z1,ls];omega);have a8:=eH (x1++[32]++x2++[32]++x3++[32]++x4++[32]) x5 (by simp only[Z1,ls];omega);have a9:=eH (x1++[32]++x2++[32]++x3++[32]++x4++[32]++x5) [32] (by simp only[Z1,ls];omega);have b1:=eH (x1++[32]++x2++[32]++x3++[32]++x4++[32]++x5++[32]) x6 (by simp only[Z1,ls];omega);have b2:=eH (x1++[32]++x2++[32]++x3++[32]++x4++[32]++x5++[32]++x6) [32] (by simp only[Z1,ls];omega);have b3:=eH (x1++[32]++x2++[32]++x3++[32]++x4++[32]++x5++[32]++x6++[32]) x7 (by simp only[Z1,ls];omega);have b4:=eH (x1++[32]++x2++[32]++x3++[32]++x4++[32]++x5++[32]++x6++[32]++x7) [32] (by simp only[Z1,ls];omega);have b5:=eH (x1++[32]++x2++[32]++x3++[32]++x4++[32]++x5++[32]++x6++[32]++x7++[32]) r.text (by simp only[Z1,ls];omega);refine aQ.bN Tryz.func133 GJ HT I9 (t8 rfl) (fun hwf W0 bH E1 =>?_);simp only[xP,Cc,bD];clear hwf hb hn;have R:=y6 @mg (y6 @a1 (y6 @a2 (y6 @a3 (y6 @a4 (y6 @a5 (y6 @a6 (y6 @a7 (y6 @a8 (y6 @a9 (y6 @b1 (y6 @b2 (y6 @b3 (y6 @b4 (y6 @b5 aE))))))))))))))
 repeat' ((first |refine U.aI (by decide +kernel) rfl fun K hK =>?_|refine .flat _ (c1) rfl ?_|refine .flat _ (c2) rfl ?_|refine .flat _ (c3) rfl ?_|refine .flat _ (c4) rfl ?_|refine .flat _ (c5) rfl ?_|refine .flat _ (tU) rfl ?_|refine .flat _ (qU) rfl ?_|(refine .aF [0,1,2,3] hK ?_;clear hK K)|(with_reducible refine .done (hK _ ?_);clear hK K)|refine U.of rfl ?_|(with_reducible refine ay.aG (fun h =>?_) (fun h =>?_) <;>try simp only[h])) <;>try simp only[aJ,R,simprocAttr])
 all_goals clear R
 all_goals rfl
theorem Eb(s:Int)(l:List UInt8)(c:UInt8):cM s (l++[c])=(257*cM s l+c.toNat+1)%1000003:=by simp[cM]
theorem D9{s:Int}{c:UInt8}(h:0≤s∧s<1000003):IntKind.i64.wrap (257*s)=257*s∧IntKind.i64.wrap (c.toNat:Int)=c.toNat∧IntKind.i64.wrap (257*s+c.toNat)=257*s+c.toNat∧IntKind.i64.wrap (257*s+c.toNat+1)=257*s+c.toNat+1 ∧
  (257*s+(c.toNat:Int)+1).tmod 1000003=(257*s+c.toNat+1)%1000003:=by
 have hc:=c.toNat_lt;exact ⟨dU _ (by omega) (by omega),dU _ (by omega) (by omega),dU _ (by omega) (by omega),dU _ (by omega) (by omega),Int.tmod_eq_emod_of_nonneg (by omega)⟩
theorem tO{r:ah}{k:Nat}(ht:r.text.length≤k)(hn:∀ n∈dE r,0≤n∧n<100000000):(cC r).length≤63+k:=by
 have h:∀ l:List Int,(∀ x∈l,0≤x∧x<100000000)→(c7 l).length≤9*l.length:=by
  intro l
  induction l with
  |nil=>intro _;simp[c7]
  |cons x l ih =>
   intro h;have h1:=ih fun y hy=>h y (by simp[hy]);have h2:=pE (k:=7) (n:=x) (by have:=h x (by simp);omega);simp only[c7] at h1;simp only[c7,List.flatMap_cons,Z1,zz4,zy1];omega
 have:=h _ hn;have h4:(dE r).length=7:=rfl;rw[cC,Z1];omega
theorem oL(s:Int)(hs:0≤s∧s<1000003)(r:ah)(hr:bf r=true):aQ Tryz.prog 81 [enc s,enc r] (.tuple [enc (ak.of (cS s r)),enc (cM s (cC r))]):=by
 have ht:=sw hr;have hn:=pT hr;have hbl:=tO ht hn;have hF:=EJ r (by omega);have hsum:=fun l=>jM hs l;simp only[cS];generalize hb:cC r=b at *;have hsb:=sW b;refine aQ.bN Tryz.func81 Hp Iz JM (t8 rfl) (fun hwf W0 bH E1 =>?_);simp only[yA,CO,bD,Z9];clear hwf;have R:=y6 @hsb (y6 @bl (y6 @hZ aE))
 repeat' ((first |refine aX.ef rfl fun m =>?_|refine U.aI (by decide +kernel) rfl fun K hK =>?_|refine .flat _ (hF) rfl ?_|(refine .aF [0,1,3,4,5,6,8,12,13,14,15] hK ?_;clear hK K)|(with_reducible refine .done (hK _ ?_);clear hK K)|refine U.of rfl ?_|(with_reducible refine ay.aG (fun h =>?_) (fun h =>?_) <;>try simp only[h])) <;>try simp only[aJ,R,simprocAttr])
 all_goals clear R
 refine U.loop (fun i:Nat=>aw [(0,.int .i64 (cM s (b.take i))),(3,.ptr 3 []),(6,enc (ak.of b)),(12,enc b),(13,.int .i64 b.length),(14,.int .i64 i)] [(3,.box (enc r))]) (fun i=>i≤b.length) (fun i=>b.length-i) 0 (Nat.zero_le _) ?_ ?_
 ·refine bx.rz [12] 12 (x:=.view 12 [] 1 0 b.length) (y:=enc b) rfl (zK rfl) ?_ ?_ ?_ ?_ ?_ <;>simp[dR,bP,cg,cq,cn,aC,iX,cd,aH,ai.only,I.only,bG]
  all_goals rfl
 intro i hi;have hst:=hsum (b.take i);by_cases hlt:i<b.length
 ·have hlc:=eR hlt;have he:=fun A=>fm (A:=A) 1 hlt rfl;have hw:=ez (i:=i) (by omega);have hsn:=Eb s (b.take i) b[i];rw[←List.take_succ_eq_append_getElem hlt] at hsn;generalize b[i]=c at *;generalize cM s (b.take i)=z at *;obtain ⟨g1,g2,g3,g4,g5⟩:=D9 (c:=c) hst;have R:=y6 @hlc (y6 @he (y6 @hw (y6 @g1 (y6 @g2 (y6 @g3 (y6 @g4 (y6 @g5 (y6 @qk (y6 @bl aE)))))))))
  repeat' ((first |refine U.aI (by decide +kernel) rfl fun K hK =>?_|(refine .aF [0,1,3,4,5,6,8,12,13,14,15] hK ?_;clear hK K)|(with_reducible refine .done (hK _ ?_);clear hK K)|refine U.of rfl ?_|(with_reducible refine ay.aG (fun h =>?_) (fun h =>?_) <;>try simp only[h])) <;>try simp only[aJ,R,simprocAttr])
  all_goals clear R
  refine ⟨i+1,by omega,by omega,?_⟩;rw[hsn];refine bx.cJ ?_ ?_ ?_ ?_ <;>simp[cg,cq,cn,bP,aC,cd,ev,I.only,ai.only,bG]
  all_goals rfl
 ·have hlc:=fk hlt;have hge:i=b.length:=by omega
  subst hge;rw[List.take_length] at hst ⊢;generalize cM s b=z at *;obtain ⟨q,rfl⟩:=Y0 hst.1;have hz:=EK (q:Int);have hzl:=pE (k:=7) (n:=(q:Int)) (by omega);rw[u6] at hz;have a1:=eH (Lib.itoa (q:Int)) [32] (by simp;omega);have a2:=eH (Lib.itoa (q:Int)++[32]) b (by simp;omega);have a3:=eH (Lib.itoa (q:Int)++[32]++b) [10] (by simp;omega);have e:c7 [(q:Int)]=Lib.itoa (q:Int)++[32]:=by simp[c7]
  rw[e];have R:=y6 @hlc (y6 @mg (y6 @pf (y6 @a1 (y6 @a2 (y6 @a3 aE)))))
  repeat' ((first |refine U.aI (by decide +kernel) rfl fun K hK =>?_|refine .flat _ (hz) rfl ?_|(refine .aF [0,1,3,4,5,6,8,12,13,14,15] hK ?_;clear hK K)|(with_reducible refine .done (hK _ ?_);clear hK K)|refine U.of rfl ?_|(with_reducible refine ay.aG (fun h =>?_) (fun h =>?_) <;>try simp only[h])) <;>try simp only[aJ,R,simprocAttr])
  all_goals clear R
  all_goals rfl
theorem Fa(s:Int)(hs:0≤s∧s<1000003)(r:ah)(hr:bf r=true):aQ Tryz.prog 83 [enc s,enc r] (.tuple [enc (ak.of (cS s r)),enc (cM s (cC r))]):=by
 have ht:=sw hr;have hn:=pT hr;have hbl:=tO ht hn;have hF:=EL r (by omega) hn;have hsum:=fun l=>jM hs l;simp only[cS];generalize hb:cC r=b at *;have hl:=mW b;refine aQ.bN Tryz.func83 Hr IB JO (t8 rfl) (fun hwf W0 bH E1 =>?_);simp only[yC,CQ,bD,Z9];clear hwf;have R:=y6 @bl aE
 repeat' ((first |refine U.aI (by decide +kernel) rfl fun K hK =>?_|refine .flat _ (hF) rfl ?_|(refine .aF [0,1,3,4,5,6,7,13] hK ?_;clear hK K)|(with_reducible refine .done (hK _ ?_);clear hK K)|refine U.of rfl ?_|(with_reducible refine ay.aG (fun h =>?_) (fun h =>?_) <;>try simp only[h])) <;>try simp only[aJ,R,simprocAttr])
 all_goals clear R
 refine U.loop (fun i:Nat=>aw [(0,.int .i64 (cM s (b.take i))),(3,.ptr 3 []),(6,enc (ak.of b)),(7,.int .i64 i)] [(3,.box (enc r))]) (fun i=>i≤b.length) (fun i=>b.length-i) 0 (Nat.zero_le _) ?_ ?_
 ·refine bx.cJ ?_ ?_ ?_ ?_ <;>simp[cg,cq,cn,bP,aC,cd,ev,I.only,ai.only,bG]
  all_goals rfl
 intro i hi;have hst:=hsum (b.take i);by_cases hlt:i<b.length
 ·have hlc:=eR hlt;have he:=sX b hlt;have hw:=ez (i:=i) (by omega);have hsn:=Eb s (b.take i) b[i];rw[←List.take_succ_eq_append_getElem hlt] at hsn;generalize b[i]=c at *;generalize cM s (b.take i)=z at *;obtain ⟨g1,g2,g3,g4,g5⟩:=D9 (c:=c) hst;have R:=y6 @hl (y6 @hlc (y6 @he (y6 @hw (y6 @g1 (y6 @g2 (y6 @g3 (y6 @g4 (y6 @g5 (y6 @bl aE)))))))))
  repeat' ((first |refine U.aI (by decide +kernel) rfl fun K hK =>?_|(refine .aF [0,1,3,4,5,6,7,13] hK ?_;clear hK K)|(with_reducible refine .done (hK _ ?_);clear hK K)|refine U.of rfl ?_|(with_reducible refine ay.aG (fun h =>?_) (fun h =>?_) <;>try simp only[h])) <;>try simp only[aJ,R,simprocAttr])
  all_goals clear R
  refine ⟨i+1,by omega,by omega,?_⟩;rw[hsn];refine bx.cJ ?_ ?_ ?_ ?_ <;>simp[cg,cq,cn,bP,aC,cd,ev,I.only,ai.only,bG]
  all_goals rfl
 ·have hlc:=fk hlt;have hge:i=b.length:=by omega
  subst hge;rw[List.take_length] at hst ⊢;generalize cM s b=z at *;obtain ⟨q,rfl⟩:=Y0 hst.1;have hz:=wV q (by omega);have hzl:=pE (k:=7) (n:=(q:Int)) (by omega);have a1:=eH (Lib.itoa (q:Int)) [32] (by simp;omega);have a2:=eH (Lib.itoa (q:Int)++[32]) b (by simp;omega);have a3:=eH (Lib.itoa (q:Int)++[32]++b) [10] (by simp;omega);have e:c7 [(q:Int)]=Lib.itoa (q:Int)++[32]:=by simp[c7]
  rw[e];have R:=y6 @hl (y6 @hlc (y6 @mg (y6 @pf (y6 @a1 (y6 @a2 (y6 @a3 aE))))))
  repeat' ((first |refine U.aI (by decide +kernel) rfl fun K hK =>?_|refine .flat _ (hz) rfl ?_|(refine .aF [0,1,3,4,5,6,7,13] hK ?_;clear hK K)|(with_reducible refine .done (hK _ ?_);clear hK K)|refine U.of rfl ?_|(with_reducible refine ay.aG (fun h =>?_) (fun h =>?_) <;>try simp only[h])) <;>try simp only[aJ,R,simprocAttr])
  all_goals clear R
  all_goals rfl
def j2(s:Int)(r:ah):List UInt8×Int×Int:=if ee 0 1000002 s=false then ([],0,1) else if bf r=false then ([],0,80) else (cS s r,cM s (cC r),0)
theorem UK{s:Int}{r:ah}(h:ee 0 1000002 s=false):j2 s r=([],0,1):=by rw[j2,if_pos h]
theorem A1{s:Int}{r:ah}(h:ee 0 1000002 s=true)(h2:bf r=false):j2 s r=([],0,80):=by rw[j2,h,if_neg (by decide),if_pos h2]
theorem A4{s:Int}{r:ah}(h:ee 0 1000002 s=true)(h2:bf r=true):j2 s r=(cS s r,cM s (cC r),0):=by rw[j2,h,h2,if_neg (by decide),if_neg (by decide)]
theorem w8(s:Int)(r:ah):aQ Tryz.prog 29 [enc s,enc r] (.tuple [enc (ak.of (j2 s r).1),enc (j2 s r).2.1,enc (j2 s r).2.2]):=by
 refine aQ.bN Tryz.func29 Ha Ij Jx (t8 rfl) (fun hwf W0 bH E1 =>?_);simp only[yk,CA,bD,Z9];clear hwf;have f1:=xc s;have f2:=oK r;cases q1:ee 0 1000002 s
 ·rw[q1] at f1;rw[UK q1];have R:=aE
  repeat' ((first |refine U.aI (by decide +kernel) rfl fun K hK =>?_|refine .flat _ (f1) rfl ?_|(refine .aF [0,1,3,4,5,6,7,8,9,13] hK ?_;clear hK K)|(with_reducible refine .done (hK _ ?_);clear hK K)|refine U.of rfl ?_|(with_reducible refine ay.aG (fun h =>?_) (fun h =>?_) <;>try simp only[h])) <;>try simp only[aJ,R,simprocAttr])
  all_goals clear R
  all_goals rfl
 cases q2:bf r
 ·rw[q1] at f1;rw[q2] at f2;rw[A1 q1 q2];have R:=aE
  repeat' ((first |refine U.aI (by decide +kernel) rfl fun K hK =>?_|refine .flat _ (f1) rfl ?_|refine .flat _ (f2) rfl ?_|(refine .aF [0,1,3,4,5,6,7,8,9,13] hK ?_;clear hK K)|(with_reducible refine .done (hK _ ?_);clear hK K)|refine U.of rfl ?_|(with_reducible refine ay.aG (fun h =>?_) (fun h =>?_) <;>try simp only[h])) <;>try simp only[aJ,R,simprocAttr])
  all_goals clear R
  all_goals rfl
 have f3:=oL s (by have:=mi.1 q1;omega) r q2;rw[q1] at f1;rw[q2] at f2;rw[A4 q1 q2];have R:=aE
 repeat' ((first |refine U.aI (by decide +kernel) rfl fun K hK =>?_|refine .flat _ (f1) rfl ?_|refine .flat _ (f2) rfl ?_|refine .lead _ (f3) ?_|(refine .aF [0,1,3,4,5,6,7,8,9,13] hK ?_;clear hK K)|(with_reducible refine .done (hK _ ?_);clear hK K)|refine U.of rfl ?_|(with_reducible refine ay.aG (fun h =>?_) (fun h =>?_) <;>try simp only[h])) <;>try simp only[aJ,R,simprocAttr])
 all_goals clear R
 all_goals rfl
def vT:bj:=(.seq (.bX none QG) (.seq (.seq (.bX none QM) (.cond (.t 20) (.bX none Ah) .skip)) (.seq (.bX none QN) (.seq (.bX none QO) (.seq (.bX none Ai) (.seq (.seq (.bX none QP) (.block 0 (.loop (.seq (.bX none QR) (.seq (.cond (.t 29) .skip (.exit 0)) (.seq (.block 1 (.seq (.bX none QS) (.bX none Af))) (.bX none QH))))))) (.seq (.bX none QI) (.seq (.seq (.bX none QJ) (.cond (.t 59) (.bX none Ag) .skip)) (.seq (.bX none QK) (.seq (.seq (.bX none QL) (.cond (.t 75) (.bX none uP) .skip)) (.seq (.bX Kj uQ) .ret)))))))))))
theorem Kx:Tryz.f70.body.bind (uj Tryz.prog Tryz.f70.ntmps)=some (.bX none Ae,124,[4,5,6],13,vT):=by kernel_rfl
def gJ(s:Int)(t:List UInt8):ah×Int×Bool:=match dn bf s t with
 |some (r,n)=>(r,n,true)
 |none=>(default,0,false)
def gI(r:ah)(n:Int)(b:Bool):List (Nat×ai):=[(1900004,.box (enc r)),(1900005,.box (.int .i64 n)),(1900006,.box (.bool b))]
def km(x:ah×Int×Bool):I:=.tuple [enc x.1,.int .i64 x.2.1,.bool x.2.2]
def pY(s:Int)(t:List UInt8):b6:=fun r os'=>r=km (gJ s t)∧os'=gI (gJ s t).1 (gJ s t).2.1 (gJ s t).2.2
def mT:List (Nat×Nat):=[(1900004,4),(1900005,5),(1900006,6)]
def vF:List (Nat×ai):=[(6,.box (.bool false)),(5,.box (.int .i64 0)),(4,.box (enc (default:ah)))]
def mA:List Nat:=[1900004,1900005,1900006]
def nq:List I:=[enc (default:ah),.int .i64 0,.bool false]
theorem sS(m:Nat):bo mT m=if m=1900004 then 4 else if m=1900005 then 5 else if m=1900006 then 6 else m:=rfl
theorem r3{r:ah}{n:Int}{b:Bool}{m:Nat}{y:ai}(h:aH (gI r n b) m=some y):(m=1900004∧y=.box (enc r))∨(m=1900005∧y=.box (.int .i64 n))∨(m=1900006∧y=.box (.bool b)):=by
 simp only[gI,aH] at h;split at h
 ·rename_i e;cases h;exact .inl ⟨e,rfl⟩
 split at h
 ·rename_i e;cases h;exact .inr (.inl ⟨e,rfl⟩)
 split at h
 ·rename_i e;cases h;exact .inr (.inr ⟨e,rfl⟩)
 ·cases h
theorem kQ{r:ah}{n:Int}{b:Bool}{m:Nat} : aC (gI r n b) m=true↔m=1900004∨m=1900005∨m=1900006:=by
 constructor
 ·intro h;cases hy:aH (gI r n b) m with
  |none=>rw[aC,hy] at h;cases h
  |some y=>rcases r3 hy with ⟨h,_⟩ | ⟨h,_⟩ | ⟨h,_⟩ <;>simp[h]
 ·rintro (rfl | rfl | rfl) <;>rfl
theorem mF{r:ah}{n:Int}{b:Bool}{m:Nat}{y:ai}(h:aH (gI r n b) m=some y)(p:Nat→Bool):y.only p=true∧y.eh=true∧y.aR (bo mT)=y:=by
 rcases r3 h with ⟨_,rfl⟩ | ⟨_,rfl⟩ | ⟨_,rfl⟩
 ·exact ⟨bG _ _,rfl,by simp only[ai.aR,iG]⟩
 ·exact ⟨rfl,rfl,rfl⟩
 ·exact ⟨rfl,rfl,rfl⟩
theorem T0:eM mT (gI default 0 false) vF:=by
 refine ⟨fun m y hy=>⟨?_,(mF hy _).1,(mF hy (fun _=>true)).2.1⟩,fun m m' hm hm' e =>?_⟩
 ·rw[(mF hy (fun _=>true)).2.2];rcases r3 hy with ⟨rfl,rfl⟩ | ⟨rfl,rfl⟩ | ⟨rfl,rfl⟩ <;>rfl
 ·have k1:=kQ.1 hm;have k2:=kQ.1 hm';rw[sS,sS] at e
  (repeat' split at e) <;>omega
theorem F3(s:Int)(t:List UInt8):∀ r os',pY s t r os'→dG false mT (gI default 0 false) vF r os':=by
 rintro r os' ⟨rfl,rfl⟩;refine ⟨fun m y hy=>⟨(mF hy _).1,(mF hy (fun _=>true)).2.1,fun h=>by cases h⟩,fun m m' hm hm' e =>?_,fun m hm=>kQ.2 (kQ.1 hm),fun m hm hno =>?_,⟨?_,fun h=>by cases h⟩⟩
 ·have k1:=kQ.1 hm;have k2:=kQ.1 hm';rw[sS,sS] at e
  (repeat' split at e) <;>omega
 ·rw[kQ.2 (kQ.1 hm)] at hno;cases hno
 ·simp only[km,I.only,I.cH,bG,Bool.and_self]
theorem F2(s:Int)(t:List UInt8):∀ r os',pY s t r os'→∃ osF,r.flat=true∧r.aR (bo mT)=r∧(∀ m z,aH osF m=some z→aH (cY mT os'++vF) m=some z∧z.only (aC osF)=true∧z.eh=true)∧(r=km (gJ s t)∧osF=[]):=by
 rintro r os' ⟨rfl,rfl⟩;refine ⟨[],?_,?_,fun m z hz=>by simp[aH] at hz,rfl,rfl⟩
 ·rfl
 ·simp only[km,I.aR,I.cT,iG]
theorem Dl{r:ah}{n:Int}{b:Bool}{post:b6}{A:ab}(hp:post (km (r,n,b)) (gI r n b))(t4:A.t 4=.ptr 1900004 [])(t5:A.t 5=.ptr 1900005 [])(t6:A.t 6=.ptr 1900006 [])(o4:A.o 1900004=some (.box (enc r)))(o5:A.o 1900005=some (.box (.int .i64 n)))(o6:A.o 1900006=some (.box (.bool b))) :
  iB sH post A:=by
 refine ⟨gI r n b,[enc r,.int .i64 n,.bool b],fun m z hz=>⟨?_,(mF hz _).1,(mF hz (fun _=>true)).2.1⟩,⟨⟨enc r,?_,.inl ⟨rfl,eY _,bG _ _⟩⟩,⟨.int .i64 n,?_,.inl ⟨rfl,rfl,rfl⟩⟩,⟨.bool b,?_,.inl ⟨rfl,rfl,rfl⟩⟩,trivial⟩,hp⟩
 ·rcases r3 hz with ⟨rfl,rfl⟩ | ⟨rfl,rfl⟩ | ⟨rfl,rfl⟩ <;>assumption
 ·simp only[mK,t4,bO,o4];rfl
 ·simp only[mK,t5,bO,o5];rfl
 ·simp only[mK,t6,bO,o6];rfl
theorem oe{s:Int}{t:List UInt8}(hn:dn bf s t=none){A:ab}{x:ah}{n:Int}{b:Bool}(t4:A.t 4=.ptr 1900004 [])(t5:A.t 5=.ptr 1900005 [])(t6:A.t 6=.ptr 1900006 [])(o4:A.o 1900004=some (.box (enc x)))(o5:A.o 1900005=some (.box (.int .i64 n)))(o6:A.o 1900006=some (.box (.bool b))) :
  p8 sH (pY s t) jl mA nq (.panic jl) A:=by
 refine ⟨rfl,⟨⟨_,o4,(eE _).trans (eE _).symm⟩,⟨_,o5,rfl⟩,⟨_,o6,rfl⟩,trivial⟩,?_⟩;refine Dl (r:=default) (n:=0) (b:=false) ?_ t4 t5 t6 ?_ ?_ ?_
 ·show _∧_
  rw[gJ,hn];exact ⟨rfl,rfl⟩
 ·simp[mA,nq,mY,ab.aO]
 ·simp[mA,nq,mY,ab.aO]
 ·simp[mA,nq,mY,ab.aO]
theorem BN{Q:Exit→ab→Prop}{ts:List (Nat×I)}{os0:List (Nat×ai)}{u:List UInt8}{v:I}(hv:v=enc (ak.of u))(hlen:u.length≤281474976710656)(h:∀ w t,dk 32 u=some (w,t)→fB w=none)(hq:Q (.panic jl) (aw ts os0)):oN Tryz.prog Q 126 [v] (aw ts os0):=by
 subst hv;exact .mk false [] [] [enc (ak.of u)] jl _ (EG (ak.of u) (by rw[ak.de];exact hlen) (by rw[ak.de];exact h)) ⟨fun m x h=>by simp[aH] at h,fun m m' h=>by simp[aC,aH] at h⟩ ⟨.inl ⟨(iG _ _).symm,bG _ _,eY _⟩,trivial⟩
  (fun os' h=>by subst h;exact ⟨fun m x h=>by simp[aH] at h,fun m m' h=>by simp[aC,aH] at h,fun m h=>h,fun m h=>by simp[aC,aH] at h,⟨rfl,fun h=>by cases h⟩⟩) (fun os' h=>by subst h;exact hq)
def dJ(l:List Int):dQ 7 Int:=⟨(l++List.replicate 7 0).take 7,by simp⟩
theorem We{l:List Int}(h:l.length<7)(v:Int):(⟨(dJ l).l.set l.length v,by simp[(dJ l).h]⟩:dQ 7 Int)=dJ (l++[v]):=by
 simp only[dJ,dQ.mk.injEq];refine List.ext_getElem (by simp) fun i h1 h2 =>?_;simp only[Z6,Z1,List.length_replicate,List.length_set,zz4,zy1] at h1 h2;simp only[List.getElem_set,List.getElem_take,List.getElem_append];by_cases e:l.length=i
 ·subst e;simp
 ·by_cases k:i<l.length
  ·rw[if_neg e,dif_pos k,dif_pos (by simp;omega),dif_pos k]
  ·rw[if_neg e,dif_neg k,dif_neg (by simp;omega)];simp only[List.getElem_replicate]
theorem zq:I.agg [.int .i64 0,.int .i64 0,.int .i64 0,.int .i64 0,.int .i64 0,.int .i64 0,.int .i64 0]=enc (dJ []):=rfl
theorem Wd{l:List Int}(h:l.length=7)(k:Nat):(dJ l).g k=l.getD k 0:=by
 simp only[dQ.g,dJ];rw[List.take_left' h]
theorem Xv{l:List Int}(h:l.length<7)(v:Int):(enc (dJ l):I).dz [l.length] (.int .i64 v)=enc (dJ (l++[v])):=by
 have h1:(enc (dJ l):I).cZ=some ((dJ l).l.map enc):=rfl;rw[wi,h1];simp only[ov,Ak (dJ l) h,qm,fD];rw[←We h]
 change I.agg _=I.agg (((dJ l).l.set l.length v).map enc)
 rw[List.map_set];rfl
theorem XC{A:ab}{n:Nat}{l:List Int}(h:l.length<7){v u:Int}{rest:List ar} : dT A none n [l.length] (enc (dJ l)) (.int .i64 v) rest (some (.int .i64 u))=al rest (A.aO n (.box (enc (dJ (l++[v]))))):=by
 rw[eK (s:=none) (v:=.int .i64 v) (old:=.int .i64 u) rfl rfl rfl,Xv h]
theorem AJ(t:List UInt8):Lib.hasSuffix t [10]=decide (t.getLast?=some 10):=by
 have:Lib.hasSuffix t [10]=true↔t.getLast?=some 10:=by
  rw[Lib.hasSuffix,List.isSuffixOf_iff_suffix];constructor
  ·rintro ⟨x,rfl⟩;simp
  ·intro h;obtain ⟨x,rfl⟩:=List.getLast?_eq_some_iff.1 h;exact ⟨x,rfl⟩
 cases h:Lib.hasSuffix t [10]
 ·rw[h] at this;exact (decide_eq_false fun k=>by simpa using this.2 k).symm
 ·rw[h] at this;exact (decide_eq_true (this.1 rfl)).symm
theorem XP{t:List UInt8}(h:t.getLast?=some 10):Lib.trimSuffix t [10]=t.dropLast:=by
 rw[Lib.trimSuffix,AJ,decide_eq_true h,if_pos rfl,List.dropLast_eq_take];rfl
theorem eU:(∀ A n b rest (q r:ah),dT A (some 8) n [] b (enc q) rest (some (enc r))=al rest (A.aO n (.box (enc q))))∧(∀ A n b rest (q:ah) v,v=enc q→dT A (some 8) n [] b v rest (some (enc (default:ah)))=al rest (A.aO n (.box (enc q)))) :=
 ⟨fun A n b rest q r=>by rw[eK (eY _) (by rw[gO];rfl) ((eE _).trans (eE _).symm),fD],fun A n b rest q v h=>by rw[h,eK (eY _) (by rw[gO];rfl) ((eE _).trans (eE _).symm),fD]⟩
theorem fj:I.agg [.agg [.int .i64 0,.int .i64 0],.int .i64 0,.int .i64 0,.int .i64 0,.agg [.int .i64 0,.int .i64 0],.aj ⟨#[]⟩]=enc (default:ah):=rfl
theorem nz:(∀ x y,e9 [.int .i64 0,.int .i64 0] [(0,.int .i64 x),(1,.int .i64 y)]=some [.int .i64 x,.int .i64 y]) ∧
  (∀ (x1 x2 n1 n2 n3 y1 y2:Int) (u:List UInt8),e9 [.agg [.int .i64 0,.int .i64 0],.int .i64 0,.int .i64 0,.int .i64 0,.agg [.int .i64 0,.int .i64 0],.aj ⟨#[]⟩] [(0,.agg [.int .i64 x1,.int .i64 x2]),(1,.int .i64 n1),(2,.int .i64 n2),(3,.int .i64 n3),(4,.agg [.int .i64 y1,.int .i64 y2]),(5,enc (ak.of u))]=some [.agg [.int .i64 x1,.int .i64 x2],.int .i64 n1,.int .i64 n2,.int .i64 n3,.agg [.int .i64 y1,.int .i64 y2],enc (ak.of u)]) :=
 ⟨fun _ _=>rfl,fun _ _ _ _ _ _ _ _=>rfl⟩
theorem qq:(∀ A n b rest (q r:Int),dT A none n [] b (.int .i64 q) rest (some (.int .i64 r))=al rest (A.aO n (.box (.int .i64 q))))∧(∀ A n b rest (q r:Bool),dT A none n [] b (.bool q) rest (some (.bool r))=al rest (A.aO n (.box (.bool q)))) :=
 ⟨fun A n b rest q r=>by rw[eK (s:=none) (v:=.int .i64 q) (old:=.int .i64 r) rfl rfl rfl,fD],fun A n b rest q r=>by rw[eK (s:=none) (v:=.bool q) (old:=.bool r) rfl rfl rfl,fD]⟩
theorem KV{n0:Int}{l:List Int}{u:List UInt8}(h:l.length=7):I.agg [.agg [.int .i64 ((dJ l).g 0),.int .i64 ((dJ l).g 1)],.int .i64 ((dJ l).g 2),.int .i64 ((dJ l).g 3),.int .i64 ((dJ l).g 4),.agg [.int .i64 ((dJ l).g 5),.int .i64 ((dJ l).g 6)],enc (ak.of u)]=enc (il (n0::l) u):=by
 simp only[Wd h];rfl
theorem WD{s n0:Int}{t u:List UInt8}{l:List Int}(h:t.getLast?=some 10)(hp:gr fB 8 t.dropLast=some (n0::l,u)) :
  dn bf s t=if bf (il (n0::l) u)=true∧cS s (il (n0::l) u)=t∧n0=cM s (cC (il (n0::l) u)) then some (il (n0::l) u,cM s (cC (il (n0::l) u))) else none:=by
 rw[dn,if_pos h,hp,zy5];generalize il (n0::l) u=r;simp only[List.headD_cons,kK];by_cases a:bf r=true
 ·by_cases b:cS s r=t
  ·by_cases c:n0=cM s (cC r)
   ·simp[a,b,c]
   ·simp[a,b,c]
  ·simp[b]
 ·simp[a]
structure xh where
 n0:Int
 l:List Int
 u:List UInt8
def tD(s:Int)(t:List UInt8)(x:xh):ab:=aw [(0,enc s),(1,enc (ak.of t)),(4,.ptr 1900004 []),(5,.ptr 1900005 []),(6,.ptr 1900006 []),(7,enc (ak.of x.u)),(9,enc x.n0),(10,.ptr 10 []),(28,.int .i64 x.l.length)] ((10,.box (enc (dJ x.l)))::gI default 0 false)
def EA(t:List UInt8)(x:xh):Prop:=x.l.length≤7∧x.u.length≤t.length∧gr fB 8 t.dropLast=(gr fB (7-x.l.length) x.u).map fun p=>(x.n0::x.l++p.1,p.2)
theorem Eg{f:List UInt8→Option Int}{k:Nat}{u w v:List UInt8}{n:Int}(h1:dk 32 u=some (w,v))(h2:f w=some n):gr f (k+1) u=(gr f k v).map fun p=>(n::p.1,p.2):=by
 rw[gr,h1];simp only[h2]
theorem Ef{f:List UInt8→Option Int}{k:Nat}{u:List UInt8}(h:∀ w t,dk 32 u=some (w,t)→f w=none):gr f (k+1) u=none:=by
 rw[gr];cases h1:dk 32 u with
 |none=>rfl
 |some p=>simp only[h p.1 p.2 h1]
theorem zh(u:List UInt8):(∃ w v n,dk 32 u=some (w,v)∧fB w=some n∧v.length≤u.length)∨∀ w t,dk 32 u=some (w,t)→fB w=none:=by
 cases h1:dk 32 u with
 |none=>exact .inr fun w t h=>by cases h
 |some p =>
  obtain ⟨w,v⟩:=p;cases h2:fB w with
  |none=>exact .inr fun w' t' h=>by cases h;exact h2
  |some n=>exact .inl ⟨w,v,n,rfl,h2,by have:=rj h1;simp only at this;omega⟩
theorem WX{s:Int}(hs:0≤s∧s<1000003){t:List UInt8}(ht:t.length≤281474976710656)(W:World)(D:aD)(E:aN)(n:Nat)(d:Deferred) :
  U ⟨Tryz.prog,W,D,n,bQ E,E,fu,none,some [d]⟩ vT (p8 sH (pY s t) jl mA nq) (aw [(0,enc s),(1,enc (ak.of t)),(4,.ptr 1900004 []),(5,.ptr 1900005 []),(6,.ptr 1900006 [])] (gI default 0 false)):=by
 have hC:=EF (ak.of t) (ak.of [10]);rw[ak.de,ak.de,AJ] at hC;simp only[vT,gI];by_cases hl:t.getLast?=some 10
 ·have hd:decide (t.getLast?=some 10)=true:=decide_eq_true hl;rw[hd,XP hl] at hC;have hT:dn bf s t=(gr fB 8 t.dropLast).bind fun p=>(kK bf s t (il p.1 p.2)).bind fun q=>if p.1.headD 0=q.2 then some q else none:=by rw[dn,if_pos hl]
  have hlt:t.dropLast.length≤t.length:=by simp
  generalize hu0:t.dropLast=u0 at *;rcases zh u0 with ⟨cP,v0,m0,hw,ho,hv⟩ | hno
  rotate_left
  ·have hn:dn bf s t=none:=by rw[hT,Ef (k:=7) hno];rfl
   have R:=y6 @hd (y6 @pf (y6 @jy (y6 @zq (y6 @bl aE))))
   repeat' ((first |(with_reducible refine .guard (fun hb =>?_) (fun hb =>?_) <;>try simp only[hb])|(refine U.kV (gs:=Ai) (gs1:=[_]) rfl fun K hK =>?_)|refine U.aI (by decide +kernel) rfl fun K hK =>?_|refine .flat _ (hC) rfl ?_|(refine .aF [0,1,4,5,6,7,8,9,10,11,12,20,28,29,59,75] hK ?_;clear hK K)|(with_reducible refine .done (hK _ ?_);clear hK K)|refine U.of rfl ?_|(with_reducible refine ay.aG (fun h =>?_) (fun h =>?_) <;>try simp only[h])) <;>try simp only[aJ,R,simprocAttr])
   all_goals clear R
   exact .call (BN rfl (by omega) hno (oe hn rfl rfl rfl rfl rfl rfl))
  have h126:=wT (ak.of u0) (by rw[ak.de];omega) cP v0 m0 (by rw[ak.de];exact hw) ho;have R:=y6 @hd (y6 @pf (y6 @jy (y6 @zq (y6 @bl aE))))
  repeat' ((first |(with_reducible refine .guard (fun hb =>?_) (fun hb =>?_) <;>try simp only[hb])|refine U.aI (by decide +kernel) rfl fun K hK =>?_|refine .flat _ (hC) rfl ?_|refine .lead _ (h126) ?_|(refine .aF [0,1,4,5,6,7,8,9,10,11,12,20,28,29,59,75] hK ?_;clear hK K)|(with_reducible refine .done (hK _ ?_);clear hK K)|refine U.of rfl ?_|(with_reducible refine ay.aG (fun h =>?_) (fun h =>?_) <;>try simp only[h])) <;>try simp only[aJ,R,simprocAttr])
  all_goals clear R
  refine U.loop (tD s t) (EA t) (fun x=>7-x.l.length) ⟨m0,[],v0⟩ ⟨by simp,by simp only;omega,?_⟩ ?_ ?_
  ·rw[hu0,Eg hw ho];rfl
  ·simp only[tD,gI];refine bx.cJ ?_ ?_ ?_ ?_ <;>simp[cg,cq,cn,bP,aC,cd,ev,I.only,ai.only,bG,rn]
   all_goals rfl
  rintro ⟨n0,l,u⟩ ⟨hl7,hul,htk⟩;simp only at hl7 hul htk;rw[hu0] at htk;simp only[tD,gI];by_cases hlt7:l.length<7
  ·have hlc:decide ((l.length:Int)<7)=true:=decide_eq_true (by omega);have hib:=fun {y:Option I} =>rO 1 (dJ l) (y:=y) (show (0:Int)≤(l.length:Int)∧(l.length:Int)<(7:Nat) by omega) rfl;have hat:=fun p=>jP (p:=p) (dJ l) hlt7;have hst:=fun A n v u rest=>XC (A:=A) (n:=n) hlt7 (v:=v) (u:=u) (rest:=rest);have hws:=ez (i:=l.length) (by omega);have e7:7-l.length=(7-(l++[(0:Int)]).length)+1:=by simp;omega
   rcases zh u with ⟨w,v,m,hw1,ho1,hv1⟩ | hno
   ·have h126':=wT (ak.of u) (by rw[ak.de];omega) w v m (by rw[ak.de];exact hw1) ho1;have R:=y6 @hlc (y6 @hib (y6 @hat (y6 @hst (y6 @hws (y6 @Int.toNat_natCast (y6 @bl aE))))))
    repeat' ((first |(with_reducible refine .guard (fun hb =>?_) (fun hb =>?_) <;>try simp only[hb])|refine U.aI (by decide +kernel) rfl fun K hK =>?_|refine .lead _ (h126') ?_|(refine .aF [0,1,4,5,6,7,8,9,10,11,12,20,28,29,59,75] hK ?_;clear hK K)|(with_reducible refine .done (hK _ ?_);clear hK K)|refine U.of rfl ?_|(with_reducible refine ay.aG (fun h =>?_) (fun h =>?_) <;>try simp only[h])) <;>try simp only[aJ,R,simprocAttr])
    all_goals clear R
    refine ⟨⟨n0,l++[m],v⟩,⟨by simp;omega,by simp only;omega,?_⟩,by simp;omega,?_⟩
    ·rw[hu0,htk,e7,Eg hw1 ho1];simp only[Z1,zz4,zy1,Option.map_map]
     congr 1
     funext p
     simp
    ·have el:((l++[m]).length:Int)=((l.length+1:Nat):Int):=by simp
     simp only[el];refine bx.cJ ?_ ?_ ?_ ?_ <;>simp[cg,cq,cn,bP,aC,cd,ev,I.only,ai.only,bG]
     all_goals rfl
   ·have hn:dn bf s t=none:=by rw[hT,htk,e7,Ef hno];rfl
    have R:=y6 @hlc (y6 @hib (y6 @hat (y6 @hst (y6 @hws (y6 @jy (y6 @bl aE))))))
    repeat' ((first |(with_reducible refine .guard (fun hb =>?_) (fun hb =>?_) <;>try simp only[hb])|(refine U.kV (gs:=Af) (gs1:=[_,_]) rfl fun K hK =>?_)|refine U.aI (by decide +kernel) rfl fun K hK =>?_|refine .flat _ (hC) rfl ?_|(refine .aF [0,1,4,5,6,7,8,9,10,11,12,20,28,29,59,75] hK ?_;clear hK K)|(with_reducible refine .done (hK _ ?_);clear hK K)|refine U.of rfl ?_|(with_reducible refine ay.aG (fun h =>?_) (fun h =>?_) <;>try simp only[h])) <;>try simp only[aJ,R,simprocAttr])
    all_goals clear R
    exact .call (BN rfl (by omega) hno (oe hn rfl rfl rfl rfl rfl rfl))
  ·have hlc:decide ((l.length:Int)<7)=false:=decide_eq_false (by omega);have h7:l.length=7:=by omega
   have hib:=fun {k:Int} {y:Option I} (h:(0:Int)≤k∧k<(7:Nat))=>rO 1 (dJ l) (y:=y) h rfl;have hi0:=fun {y:Option I} =>hib (k:=0) (y:=y) (by decide);have hi1:=fun {y:Option I} =>hib (k:=1) (y:=y) (by decide);have hi2:=fun {y:Option I} =>hib (k:=2) (y:=y) (by decide);have hi3:=fun {y:Option I} =>hib (k:=3) (y:=y) (by decide);have hi4:=fun {y:Option I} =>hib (k:=4) (y:=y) (by decide);have hi5:=fun {y:Option I} =>hib (k:=5) (y:=y) (by decide);have hi6:=fun {y:Option I} =>hib (k:=6) (y:=y) (by decide);have ha0:=fun p=>jP (p:=p) (dJ l) (show 0<7 by decide);have ha1:=fun p=>jP (p:=p) (dJ l) (show 1<7 by decide);have ha2:=fun p=>jP (p:=p) (dJ l) (show 2<7 by decide);have ha3:=fun p=>jP (p:=p) (dJ l) (show 3<7 by decide);have ha4:=fun p=>jP (p:=p) (dJ l) (show 4<7 by decide);have ha5:=fun p=>jP (p:=p) (dJ l) (show 5<7 by decide);have ha6:=fun p=>jP (p:=p) (dJ l) (show 6<7 by decide);rw[h7,Nat.sub_self,gr,Y1,zy6] at htk;clear hT;have hT:=WD (s:=s) hl (hu0▸htk);have hmk:=KV (n0:=n0) (u:=u) h7;have f80:=oK (il (n0::l) u);generalize il (n0::l) u=r at *;have hstr:=fun A n b rest=>eU.2 A n b rest r _ hmk;cases ho2:bf r
   ·have hn:dn bf s t=none:=by rw[hT,if_neg (by simp[ho2])]
    rw[ho2] at f80;have R:=y6 @hlc (y6 @hi0 (y6 @hi1 (y6 @hi2 (y6 @hi3 (y6 @hi4 (y6 @hi5 (y6 @hi6 (y6 @ha0 (y6 @ha1 (y6 @ha2 (y6 @ha3 (y6 @ha4 (y6 @ha5 (y6 @ha6 (y6 @nz (y6 @hstr (y6 @eU (y6 @jy (y6 @bl aE)))))))))))))))))))
    repeat' ((first |(with_reducible refine .guard (fun hb =>?_) (fun hb =>?_) <;>try simp only[hb])|(refine U.kV (gs:=Ag) (gs1:=[_,_]) rfl fun K hK =>?_)|refine U.aI (by decide +kernel) rfl fun K hK =>?_|refine .flat _ (f80) rfl ?_|(refine .aF [0,1,4,5,6,7,8,9,10,11,12,20,28,29,59,75] hK ?_;clear hK K)|(with_reducible refine .done (hK _ ?_);clear hK K)|refine U.of rfl ?_|(with_reducible refine ay.aG (fun h =>?_) (fun h =>?_) <;>try simp only[h])) <;>try simp only[aJ,R,simprocAttr])
    all_goals clear R
    refine mI ?_ (oe hn rfl rfl rfl rfl rfl rfl);rfl
   rw[ho2] at f80;have f81:=oL s hs r ho2;by_cases hq:cS s r=t
   ·by_cases hz:n0=cM s (cC r)
    ·have hn:gJ s t=(r,cM s (cC r),true):=by rw[gJ,hT,if_pos ⟨ho2,hq,hz⟩]
     have d1:(n0 != cM s (cC r))=false:=by simp[hz]
     have d2:(decide (cS s r=t))=true:=decide_eq_true hq;have R:=y6 @hlc (y6 @hi0 (y6 @hi1 (y6 @hi2 (y6 @hi3 (y6 @hi4 (y6 @hi5 (y6 @hi6 (y6 @ha0 (y6 @ha1 (y6 @ha2 (y6 @ha3 (y6 @ha4 (y6 @ha5 (y6 @ha6 (y6 @d1 (y6 @d2 (y6 @gK (y6 @nz (y6 @hstr (y6 @eU (y6 @qq (y6 @jy (y6 @bl aE)))))))))))))))))))))))
     repeat' ((first |(with_reducible refine .guard (fun hb =>?_) (fun hb =>?_) <;>try simp only[hb])|refine U.aI (by decide +kernel) rfl fun K hK =>?_|refine .flat _ (f80) rfl ?_|refine .lead _ (f81) ?_|(refine U.lP (gs:=uQ) [] [(4,[1900004]),(5,[1900005]),(6,[1900006])] [0,1,2,3,4] (by decide +kernel) (dH.of (by simp[jv,cd,I.only])) fun K hK =>?_;simp only[j9,uQ,List.getD_cons_zero,List.getD_cons_succ,R,simprocAttr])|(refine .aF [0,1,4,5,6,7,8,9,10,11,12,20,28,29,59,75] hK ?_;clear hK K)|(with_reducible refine .done (hK _ ?_);clear hK K)|refine U.of rfl ?_|(with_reducible refine ay.aG (fun h =>?_) (fun h =>?_) <;>try simp only[h])) <;>try simp only[aJ,R,simprocAttr])
     all_goals clear R
     exact ⟨⟨⟨_,rfl,(eE _).trans (eE _).symm⟩,⟨_,rfl,rfl⟩,⟨_,rfl,rfl⟩,trivial⟩,Dl (r:=r) (n:=cM s (cC r)) (b:=true) (show _∧_ by rw[hn];exact ⟨rfl,rfl⟩) rfl rfl rfl rfl rfl rfl⟩
    ·have hn:dn bf s t=none:=by rw[hT,if_neg (fun k=>hz k.2.2)]
     have d1:(n0 != cM s (cC r))=true:=by simp[hz]
     have d2:(decide (cS s r=t))=true:=decide_eq_true hq;have R:=y6 @hlc (y6 @hi0 (y6 @hi1 (y6 @hi2 (y6 @hi3 (y6 @hi4 (y6 @hi5 (y6 @hi6 (y6 @ha0 (y6 @ha1 (y6 @ha2 (y6 @ha3 (y6 @ha4 (y6 @ha5 (y6 @ha6 (y6 @d1 (y6 @d2 (y6 @gK (y6 @nz (y6 @hstr (y6 @eU (y6 @qq (y6 @jy (y6 @bl aE)))))))))))))))))))))))
     repeat' ((first |(with_reducible refine .guard (fun hb =>?_) (fun hb =>?_) <;>try simp only[hb])|(refine U.kV (gs:=uP) (gs1:=[_,_]) rfl fun K hK =>?_)|refine U.aI (by decide +kernel) rfl fun K hK =>?_|refine .flat _ (f80) rfl ?_|refine .lead _ (f81) ?_|(refine .aF [0,1,4,5,6,7,8,9,10,11,12,20,28,29,59,75] hK ?_;clear hK K)|(with_reducible refine .done (hK _ ?_);clear hK K)|refine U.of rfl ?_|(with_reducible refine ay.aG (fun h =>?_) (fun h =>?_) <;>try simp only[h])) <;>try simp only[aJ,R,simprocAttr])
     all_goals clear R
     refine mI ?_ (oe hn rfl rfl rfl rfl rfl rfl);rfl
   ·have hn:dn bf s t=none:=by rw[hT,if_neg (fun k=>hq k.2.1)]
    have d2:(decide (cS s r=t))=false:=decide_eq_false hq;have R:=y6 @hlc (y6 @hi0 (y6 @hi1 (y6 @hi2 (y6 @hi3 (y6 @hi4 (y6 @hi5 (y6 @hi6 (y6 @ha0 (y6 @ha1 (y6 @ha2 (y6 @ha3 (y6 @ha4 (y6 @ha5 (y6 @ha6 (y6 @d2 (y6 @gK (y6 @nz (y6 @hstr (y6 @eU (y6 @qq (y6 @jy (y6 @bl aE))))))))))))))))))))))
    repeat' ((first |(with_reducible refine .guard (fun hb =>?_) (fun hb =>?_) <;>try simp only[hb])|(refine U.kV (gs:=uP) (gs1:=[_,_]) rfl fun K hK =>?_)|refine U.aI (by decide +kernel) rfl fun K hK =>?_|refine .flat _ (f80) rfl ?_|refine .lead _ (f81) ?_|(refine .aF [0,1,4,5,6,7,8,9,10,11,12,20,28,29,59,75] hK ?_;clear hK K)|(with_reducible refine .done (hK _ ?_);clear hK K)|refine U.of rfl ?_|(with_reducible refine ay.aG (fun h =>?_) (fun h =>?_) <;>try simp only[h])) <;>try simp only[aJ,R,simprocAttr])
    all_goals clear R
    refine mI ?_ (oe hn rfl rfl rfl rfl rfl rfl);rfl
 ·have hd:decide (t.getLast?=some 10)=false:=decide_eq_false hl;have hn:dn bf s t=none:=by rw[dn,if_neg hl]
  rw[hd] at hC;have R:=y6 @hd (y6 @pf (y6 @jy (y6 @bl aE)))
  repeat' ((first |(with_reducible refine .guard (fun hb =>?_) (fun hb =>?_) <;>try simp only[hb])|(refine U.kV (gs:=Ah) (gs1:=[_,_]) rfl fun K hK =>?_)|refine U.aI (by decide +kernel) rfl fun K hK =>?_|refine .flat _ (hC) rfl ?_|(refine .aF [0,1,4,5,6,7,8,9,10,11,12,20,28,29,59,75] hK ?_;clear hK K)|(with_reducible refine .done (hK _ ?_);clear hK K)|refine U.of rfl ?_|(with_reducible refine ay.aG (fun h =>?_) (fun h =>?_) <;>try simp only[h])) <;>try simp only[aJ,R,simprocAttr])
  all_goals clear R
  refine mI ?_ (oe hn rfl rfl rfl rfl rfl rfl);rfl
theorem Fk{s:Int}(hs:0≤s∧s<1000003){t:List UInt8}(ht:t.length≤281474976710656):eL Tryz.prog 70 [enc s,enc (ak.of t)] [] (fun r os'=>r=km (gJ s t)∧os'=[]):=by
 refine eL.VV Tryz.func70 Hh Kx JE (t8 rfl) (t8 rfl) (fun m hm=>by simp[aC,aH] at hm) (zs:=nq) T8 HK (by decide) fun hwf W0 bH E1 =>?_;simp only[bD,Z9];clear hwf;refine .gV (by decide +kernel) fun K hK =>?_
 try simp only[Ae,ba,simprocAttr]
 refine .done (hK _ ?_);simp only[cQ];refine ⟨_,_,mT,gI default 0 false,[0,1,4,5,6],[enc s,enc (ak.of t),.ptr 1900004 [],.ptr 1900005 [],.ptr 1900006 []],mA,pY s t,rfl,?_⟩;exact {
  bB:=rfl
  Aq:=T0
  arg:=⟨.inl ⟨rfl,rfl,rfl⟩,.inl ⟨(iG _ _).symm,bG _ _,eY _⟩,.inl ⟨rfl,rfl,rfl⟩,.inl ⟨rfl,rfl,rfl⟩,.inl ⟨rfl,rfl,rfl⟩,trivial⟩
  xy:=F3 s t
  DT:=rfl
  len:=rfl
  box:=fun q hq=>by
   simp only[mA,nq,List.zip_cons_cons,List.zip_nil_right,zy0,List.not_mem_nil,or_false] at hq;rcases hq with rfl | rfl | rfl <;>exact ⟨_,rfl,rfl⟩
  lD:=fun m hm=>by
   have:=kQ.1 hm;exact ⟨Nat.le_trans (t8 rfl:_≤1000000) (by omega),by omega⟩
  rest:=fun W D E d=>WX hs ht W D E _ d
  kD:=F2 s t }
theorem w9{s:Int}(hs:0≤s∧s<1000003){t:List UInt8}(ht:t.length≤281474976710656):aQ Tryz.prog 70 [enc s,enc (ak.of t)] (km (gJ s t)):=aQ.Bo (Fk hs ht)
def kb(s:Int)(t:List UInt8):ah×Int×Int:=if ee 0 1000002 s=false then (default,0,1) else match dn bf s t with
 |some (r,n)=>(r,n,0)
 |none=>(default,0,87)
theorem EZ(s:Int)(t:List UInt8)(ht:t.length≤281474976710656):aQ Tryz.prog 31 [enc s,enc (ak.of t)] (.tuple [enc (kb s t).1,enc (kb s t).2.1,enc (kb s t).2.2]):=by
 refine aQ.bN Tryz.func31 Hb Ik Jy (t8 rfl) (fun hwf W0 bH E1 =>?_);simp only[yl,CB,bD,Z9];clear hwf;have f1:=xc s;cases q1:ee 0 1000002 s
 ·rw[q1] at f1;have e:kb s t=(default,0,1):=by rw[kb,if_pos q1]
  rw[e];have R:=y6 @fj (y6 @eU aE)
  repeat' ((first |refine U.aI (by decide +kernel) rfl fun K hK =>?_|refine .flat _ (f1) rfl ?_|(refine .aF [0,1,4,5,6,7,8,9,12,22] hK ?_;clear hK K)|(with_reducible refine .done (hK _ ?_);clear hK K)|refine U.of rfl ?_|(with_reducible refine ay.aG (fun h =>?_) (fun h =>?_) <;>try simp only[h])) <;>try simp only[aJ,R,simprocAttr])
  all_goals clear R
  all_goals rfl
 rw[q1] at f1;have f2:=w9 (s:=s) (by have:=mi.1 q1;omega) ht;rw[km] at f2;cases h:dn bf s t with
 |none =>
  have e:kb s t=(default,0,87):=by rw[kb,if_neg (by simp[q1]),h]
  have e2:gJ s t=(default,0,false):=by rw[gJ,h]
  rw[e];rw[e2] at f2;have R:=y6 @fj (y6 @eU aE)
  repeat' ((first |refine U.aI (by decide +kernel) rfl fun K hK =>?_|refine .flat _ (f1) rfl ?_|refine .lead _ (f2) ?_|(refine .aF [0,1,4,5,6,7,8,9,12,22] hK ?_;clear hK K)|(with_reducible refine .done (hK _ ?_);clear hK K)|refine U.of rfl ?_|(with_reducible refine ay.aG (fun h =>?_) (fun h =>?_) <;>try simp only[h])) <;>try simp only[aJ,R,simprocAttr])
  all_goals clear R
  all_goals rfl
 |some p =>
  obtain ⟨r,n⟩:=p;have e:kb s t=(r,n,0):=by rw[kb,if_neg (by simp[q1]),h]
  have e2:gJ s t=(r,n,true):=by rw[gJ,h]
  rw[e];rw[e2] at f2;have R:=y6 @fj (y6 @eU aE)
  repeat' ((first |refine U.aI (by decide +kernel) rfl fun K hK =>?_|refine .flat _ (f1) rfl ?_|refine .lead _ (f2) ?_|(refine .aF [0,1,4,5,6,7,8,9,12,22] hK ?_;clear hK K)|(with_reducible refine .done (hK _ ?_);clear hK K)|refine U.of rfl ?_|(with_reducible refine ay.aG (fun h =>?_) (fun h =>?_) <;>try simp only[h])) <;>try simp only[aJ,R,simprocAttr])
  all_goals clear R
  all_goals rfl
theorem hU{α:Type}{l:List α}{i:Nat}(h:i<l.length):l.take (i+1)=l.take i++[l[i]]:=List.take_succ_eq_append_getElem h
theorem qu(a:List ah):0≤dF 1 a∧dF 1 a<1000003:=wH a (by omega)
theorem pI{s:Int}(hs:0≤s∧s<1000003){r:ah}(h:bf r=true):(cS s r).length≤240:=by
 have h1:=tO (k:=160) (sw h) (pT h);have h2:=jM hs (cC r);have h3:=pE (k:=7) (n:=cM s (cC r)) (by omega);simp only[cS,c7,List.flatMap_cons,List.flatMap_nil,Z1,zz4,zy1];omega
theorem oz:∀ (l:List ah) {s:Int},0≤s∧s<1000003→(∀ r∈l,bf r=true)→(bp s l).length≤240*l.length
 | [],_,_,_=>by simp[bp]
 |r::l,s,hs,h=>by
  have h1:=pI hs (h r (by simp));have h2:=oz l (jM hs (cC r)) fun q hq=>h q (by simp[hq]);simp only[bp,Z1,zz4];omega
theorem EN(l:List ah)(hl:l.length≤4000000000000)(h:∀ r∈l,bf r=true):aQ Tryz.prog 137 [enc l] (enc (dF 1 l)):=by
 refine aQ.bN Tryz.func137 GN HW Jc (t8 rfl) (fun hwf W0 bH E1 =>?_);simp only[xS,Cf,bD];clear hwf;have R:=aE
 repeat' ((first |refine U.aI (by decide +kernel) rfl fun K hK =>?_|(refine .aF [0,2,3,5,6,7,8,9] hK ?_;clear hK K)|(with_reducible refine .done (hK _ ?_);clear hK K)|refine U.of rfl ?_|(with_reducible refine ay.aG (fun h =>?_) (fun h =>?_) <;>try simp only[h])) <;>try simp only[aJ,R,simprocAttr])
 all_goals clear R
 refine U.loop (fun i:Nat=>aw [(0,enc l),(3,.int .i64 (dF 1 (l.take i))),(6,enc l),(7,.int .i64 l.length),(8,.int .i64 i)] []) (fun i=>i≤l.length) (fun i=>l.length-i) 0 (Nat.zero_le _) ?_ ?_
 ·refine bx.cJ ?_ ?_ ?_ ?_ <;>simp[cg,cq,cn,bP,cd,I.only,bG]
  all_goals rfl
 intro i hi;by_cases hlt:i<l.length
 ·have hlc:=eR hlt;have he:=fun A=>fm (A:=A) 8 hlt rfl;have hw:=ez (i:=i) (by omega);have hsn:=(tc (l.take i) l[i] 1).2;rw[←hU hlt] at hsn;have hok:=h l[i] (List.getElem_mem hlt);have hst:=qu (l.take i);generalize l[i]=r at *;generalize dF 1 (l.take i)=z at *;have f:=oL z hst r hok;have R:=y6 @hlc (y6 @he (y6 @hw (y6 @fj (y6 @eU aE))))
  repeat' ((first |refine U.aI (by decide +kernel) rfl fun K hK =>?_|refine .lead _ (f) ?_|(refine .aF [0,2,3,5,6,7,8,9] hK ?_;clear hK K)|(with_reducible refine .done (hK _ ?_);clear hK K)|refine U.of rfl ?_|(with_reducible refine ay.aG (fun h =>?_) (fun h =>?_) <;>try simp only[h])) <;>try simp only[aJ,R,simprocAttr])
  all_goals clear R
  refine ⟨i+1,by omega,by omega,?_⟩;rw[hsn];refine bx.cJ ?_ ?_ ?_ ?_ <;>simp[cg,cq,cn,bP,cd,I.only,bG]
  all_goals rfl
 ·have hlc:=fk hlt;have hge:i=l.length:=by omega
  subst hge;rw[List.take_length];have R:=y6 @hlc aE
  repeat' ((first |refine U.aI (by decide +kernel) rfl fun K hK =>?_|(refine .aF [0,2,3,5,6,7,8,9] hK ?_;clear hK K)|(with_reducible refine .done (hK _ ?_);clear hK K)|refine U.of rfl ?_|(with_reducible refine ay.aG (fun h =>?_) (fun h =>?_) <;>try simp only[h])) <;>try simp only[aJ,R,simprocAttr])
  all_goals clear R
  all_goals rfl
theorem X8(l:List ah)(hl:l.length≤4000000000000)(h:∀ r∈l,bf r=true):aQ Tryz.prog 90 [enc l] (enc (ak.of (bp 1 l))):=by
 refine aQ.bN Tryz.func90 Hw IG JT (t8 rfl) (fun hwf W0 bH E1 =>?_);simp only[yG,CV,bD];clear hwf;have R:=aE
 repeat' ((first |refine U.aI (by decide +kernel) rfl fun K hK =>?_|(refine .aF [0,2,3,4,5,6,7,11] hK ?_;clear hK K)|(with_reducible refine .done (hK _ ?_);clear hK K)|refine U.of rfl ?_|(with_reducible refine ay.aG (fun h =>?_) (fun h =>?_) <;>try simp only[h])) <;>try simp only[aJ,R,simprocAttr])
 all_goals clear R
 refine U.loop (fun i:Nat=>aw [(0,enc l),(3,enc (ak.of (bp 1 (l.take i)))),(4,.int .i64 (dF 1 (l.take i))),(5,.int .i64 i)] []) (fun i=>i≤l.length) (fun i=>l.length-i) 0 (Nat.zero_le _) ?_ ?_
 ·refine bx.cJ ?_ ?_ ?_ ?_ <;>simp[cg,cq,cn,bP,cd,I.only,bG]
  all_goals exact ⟨rfl,rfl⟩
 intro i hi;by_cases hlt:i<l.length
 ·have hlc:=eR hlt;have he:=fun A=>fm (A:=A) 8 hlt rfl;have hw:=ez (i:=i) (by omega);have hsn:=tc (l.take i) l[i] 1;rw[←hU hlt] at hsn;have hok:=h l[i] (List.getElem_mem hlt);have hst:=qu (l.take i);have hln:=oz (l.take i) (s:=1) (by omega) fun q hq=>h q (List.mem_of_mem_take hq);have hli:(l.take i).length=i:=by rw[Z6];omega
  generalize l[i]=r at *;have hll:=pI hst hok;generalize dF 1 (l.take i)=z at *;generalize bp 1 (l.take i)=u at *;have f:=Fa z hst r hok;have ha:=eH u (cS z r) (by omega);have R:=y6 @hlc (y6 @he (y6 @hw (y6 @ha aE)))
  repeat' ((first |refine U.aI (by decide +kernel) rfl fun K hK =>?_|refine .lead _ (f) ?_|(refine .aF [0,2,3,4,5,6,7,11] hK ?_;clear hK K)|(with_reducible refine .done (hK _ ?_);clear hK K)|refine U.of rfl ?_|(with_reducible refine ay.aG (fun h =>?_) (fun h =>?_) <;>try simp only[h])) <;>try simp only[aJ,R,simprocAttr])
  all_goals clear R
  refine ⟨i+1,by omega,by omega,?_⟩;rw[hsn.1,hsn.2];clear hsn;refine bx.cJ ?_ ?_ ?_ ?_ <;>simp[cg,cq,cn,bP,cd,I.only,bG]
  all_goals rfl
 ·have hlc:=fk hlt;have hge:i=l.length:=by omega
  subst hge;rw[List.take_length];have R:=y6 @hlc aE
  repeat' ((first |refine U.aI (by decide +kernel) rfl fun K hK =>?_|(refine .aF [0,2,3,4,5,6,7,11] hK ?_;clear hK K)|(with_reducible refine .done (hK _ ?_);clear hK K)|refine U.of rfl ?_|(with_reducible refine ay.aG (fun h =>?_) (fun h =>?_) <;>try simp only[h])) <;>try simp only[aJ,R,simprocAttr])
  all_goals clear R
  all_goals rfl
def dj(l:List ah):dQ 6 Int:=⟨(List.range 6).map fun m=>(dq l (m:Nat):Int),by simp⟩
theorem qZ(l:List ah){k:Nat}(h:k<6):(dj l).g k=dq l k:=by
 have:∀ j:Fin 6,(dj l).g j=dq l (j:Nat):=fun j=>by
  match j with
  |0=>rfl
  |1=>rfl
  |2=>rfl
  |3=>rfl
  |4=>rfl
  |5=>rfl
 exact this ⟨k,h⟩
theorem zp:I.agg [.int .i64 0,.int .i64 0,.int .i64 0,.int .i64 0,.int .i64 0,.int .i64 0]=enc (dj []):=rfl
theorem IZ(l:List ah)(r:ah){k:Nat}(h:k<6)(hm:r.bd=(k:Int)):(⟨(dj l).l.set k ((dj l).g k+1),by simp[(dj l).h]⟩:dQ 6 Int)=dj (l++[r]):=by
 rw[qZ l h];simp only[dj,dQ.mk.injEq];refine List.ext_getElem (by simp) fun i h1 h2 =>?_;simp only[List.getElem_set,List.getElem_map,List.getElem_range,pc,hm];by_cases e:k=i
 ·subst e;simp
 ·rw[if_neg e,if_neg (by omega)];simp
theorem Xu(l:List ah)(r:ah){k:Nat}(h:k<6)(hm:r.bd=(k:Int)):(enc (dj l):I).dz [k] (.int .i64 ((dj l).g k+1))=enc (dj (l++[r])):=by
 have h1:(enc (dj l):I).cZ=some ((dj l).l.map enc):=rfl;rw[wi,h1];simp only[ov,Ak (dj l) h,qm,fD];rw[←IZ l r h hm]
 change I.agg _=I.agg (((dj l).l.set k ((dj l).g k+1)).map enc)
 rw[List.map_set];rfl
theorem D6(l:List ah)(r:ah){k:Nat}(h:k<6)(hm:r.bd=(k:Int))(A:ab)(n:Nat)(u:Int)(rest:List ar):dT A none n [k] (enc (dj l)) (.int .i64 ((dj l).g k+1)) rest (some (.int .i64 u))=al rest (A.aO n (.box (enc (dj (l++[r]))))):=by
 rw[eK (s:=none) (v:=.int .i64 ((dj l).g k+1)) (old:=.int .i64 u) rfl rfl rfl,Xu l r h hm]
theorem nf:(∀ A n b rest (q r:dQ 6 Int),dT A (some 6) n [] b (enc q) rest (some (enc r))=al rest (A.aO n (.box (enc q))))∧(∀ q:dQ 6 Int,bS (some 6) (enc q)=true) :=
 ⟨fun A n b rest q r=>by rw[eK (eY _) (by rw[gO];rfl) ((eE _).trans (eE _).symm),fD],fun q=>by rw[gO];rfl⟩
theorem ud(l:List ah)(m:Int):dq l m≤l.length:=List.countP_le_length
def lE(l:List ah):Prop:=∀ r∈l,0≤r.bd∧r.bd≤5
theorem wR(l:List ah)(hl:l.length≤4000000000000)(h:lE l):aQ Tryz.prog 100 [enc l] (enc (dj l)):=by
 refine aQ.bN Tryz.func100 Gw HL I0 (t8 rfl) (fun hwf W0 bH E1 =>?_);simp only[xH,B3,bD];clear hwf;have R:=y6 @zp aE
 repeat' ((first |refine U.aI (by decide +kernel) rfl fun K hK =>?_|(refine .aF [0,2,3,5,6,7,8,9] hK ?_;clear hK K)|(with_reducible refine .done (hK _ ?_);clear hK K)|refine U.of rfl ?_|(with_reducible refine ay.aG (fun h =>?_) (fun h =>?_) <;>try simp only[h])) <;>try simp only[aJ,R,simprocAttr])
 all_goals clear R
 refine U.loop (fun i:Nat=>aw [(0,enc l),(2,.ptr 2 []),(3,.ptr 3 []),(6,enc l),(7,.int .i64 l.length),(8,.int .i64 i)] [(2,.box (enc (dj []))),(3,.box (enc (dj (l.take i))))]) (fun i=>i≤l.length) (fun i=>l.length-i) 0 (Nat.zero_le _) ?_ ?_
 ·refine bx.cJ ?_ ?_ ?_ ?_ <;>simp[cg,cq,cn,bP,aC,cd,ev,I.only,ai.only,bG]
  all_goals rfl
 intro i hi;by_cases hlt:i<l.length
 ·have hlc:=eR hlt;have he:=fun A=>fm (A:=A) 8 hlt rfl;have hw:=ez (i:=i) (by omega);have hsn:=hU hlt;have hin:=h l[i] (List.getElem_mem hlt);have hle:=ud (l.take i);have hli:(l.take i).length=i:=by rw[Z6];omega
  generalize l[i]=r at *;obtain ⟨k,hk⟩:=Y0 hin.1;have hk6:k<6:=by omega
  have hib:=fun {y:Option I} =>rO 1 (dj (l.take i)) (y:=y) (show (0:Int)≤(k:Int)∧(k:Int)<(6:Nat) by omega) rfl;have hat:=fun p=>jP (p:=p) (dj (l.take i)) hk6;have hst:=D6 (l.take i) r hk6 hk;have hw1:IntKind.i64.wrap ((dj (l.take i)).g k+1)=(dj (l.take i)).g k+1:=by
   have:=hle k;rw[qZ _ hk6];exact dU _ (by omega) (by omega)
  rw[←hsn] at hst;have R:=y6 @hlc (y6 @he (y6 @hw (y6 @hk (y6 @hib (y6 @hat (y6 @hst (y6 @hw1 (y6 @Int.toNat_natCast (y6 @fj (y6 @eU aE))))))))))
  repeat' ((first |refine U.aI (by decide +kernel) rfl fun K hK =>?_|(refine .aF [0,2,3,5,6,7,8,9] hK ?_;clear hK K)|(with_reducible refine .done (hK _ ?_);clear hK K)|refine U.of rfl ?_|(with_reducible refine ay.aG (fun h =>?_) (fun h =>?_) <;>try simp only[h])) <;>try simp only[aJ,R,simprocAttr])
  all_goals clear R
  refine ⟨i+1,by omega,by omega,?_⟩;clear hsn;refine bx.cJ ?_ ?_ ?_ ?_ <;>simp[cg,cq,cn,bP,aC,cd,ev,I.only,ai.only,bG]
  all_goals rfl
 ·have hlc:=fk hlt;have hge:i=l.length:=by omega
  subst hge;rw[List.take_length];have R:=y6 @hlc (y6 @nf aE)
  repeat' ((first |refine U.aI (by decide +kernel) rfl fun K hK =>?_|(refine .aF [0,2,3,5,6,7,8,9] hK ?_;clear hK K)|(with_reducible refine .done (hK _ ?_);clear hK K)|refine U.of rfl ?_|(with_reducible refine ay.aG (fun h =>?_) (fun h =>?_) <;>try simp only[h])) <;>try simp only[aJ,R,simprocAttr])
  all_goals clear R
  all_goals rfl
theorem ED(l:List ah)(hl:l.length≤4000000000000)(h:lE l):aQ Tryz.prog 102 [enc l] (enc (dj l)):=by
 refine aQ.bN Tryz.func102 Gx HM I1 (t8 rfl) (fun hwf W0 bH E1 =>?_);simp only[xI,B4,bD];clear hwf;have R:=y6 @zp aE
 repeat' ((first |refine U.aI (by decide +kernel) rfl fun K hK =>?_|(refine .aF [0,2,3,4,8] hK ?_;clear hK K)|(with_reducible refine .done (hK _ ?_);clear hK K)|refine U.of rfl ?_|(with_reducible refine ay.aG (fun h =>?_) (fun h =>?_) <;>try simp only[h])) <;>try simp only[aJ,R,simprocAttr])
 all_goals clear R
 refine U.loop (fun i:Nat=>aw [(0,enc l),(2,.ptr 2 []),(3,.ptr 3 []),(4,.int .i64 i)] [(2,.box (enc (dj []))),(3,.box (enc (dj (l.take i))))]) (fun i=>i≤l.length) (fun i=>l.length-i) 0 (Nat.zero_le _) ?_ ?_
 ·refine bx.cJ ?_ ?_ ?_ ?_ <;>simp[cg,cq,cn,bP,aC,cd,ev,I.only,ai.only,bG]
  all_goals rfl
 intro i hi;by_cases hlt:i<l.length
 ·have hlc:=eR hlt;have he:=fun A=>fm (A:=A) 8 hlt rfl;have hw:=ez (i:=i) (by omega);have hsn:=hU hlt;have hin:=h l[i] (List.getElem_mem hlt);have hle:=ud (l.take i);have hli:(l.take i).length=i:=by rw[Z6];omega
  generalize l[i]=r at *;obtain ⟨k,hk⟩:=Y0 hin.1;have hk6:k<6:=by omega
  have hib:=fun {y:Option I} =>rO 1 (dj (l.take i)) (y:=y) (show (0:Int)≤(k:Int)∧(k:Int)<(6:Nat) by omega) rfl;have hat:=fun p=>jP (p:=p) (dj (l.take i)) hk6;have hst:=D6 (l.take i) r hk6 hk;have hw1:IntKind.i64.wrap ((dj (l.take i)).g k+1)=(dj (l.take i)).g k+1:=by
   have:=hle k;rw[qZ _ hk6];exact dU _ (by omega) (by omega)
  rw[←hsn] at hst;have R:=y6 @hlc (y6 @he (y6 @hw (y6 @hk (y6 @hib (y6 @hat (y6 @hst (y6 @hw1 (y6 @Int.toNat_natCast aE))))))))
  repeat' ((first |refine U.aI (by decide +kernel) rfl fun K hK =>?_|(refine .aF [0,2,3,4,8] hK ?_;clear hK K)|(with_reducible refine .done (hK _ ?_);clear hK K)|refine U.of rfl ?_|(with_reducible refine ay.aG (fun h =>?_) (fun h =>?_) <;>try simp only[h])) <;>try simp only[aJ,R,simprocAttr])
  all_goals clear R
  refine ⟨i+1,by omega,by omega,?_⟩;clear hsn;refine bx.cJ ?_ ?_ ?_ ?_ <;>simp[cg,cq,cn,bP,aC,cd,ev,I.only,ai.only,bG]
  all_goals rfl
 ·have hlc:=fk hlt;have hge:i=l.length:=by omega
  subst hge;rw[List.take_length];have R:=y6 @hlc (y6 @nf aE)
  repeat' ((first |refine U.aI (by decide +kernel) rfl fun K hK =>?_|(refine .aF [0,2,3,4,8] hK ?_;clear hK K)|(with_reducible refine .done (hK _ ?_);clear hK K)|refine U.of rfl ?_|(with_reducible refine ay.aG (fun h =>?_) (fun h =>?_) <;>try simp only[h])) <;>try simp only[aJ,R,simprocAttr])
  all_goals clear R
  all_goals rfl
theorem u7(l:List ah){m:Int}(h:0≤m∧m≤5):mn 6 1 none m (some ((dj l).l.map enc))=some (.int .i64 (dq l m)):=by
 obtain ⟨k,rfl⟩:=Y0 h.1;have hk:k<6:=by omega
 rw[Un (x:=dj l) 1 (k:=(k:Int)) ⟨h.1,by simpa using hk⟩ rfl];have e:enc ((dj l).l[((k:Int)).toNat]'((dj l).lt (by simpa using hk)))=I.int .i64 (dq l k):=by
  have:=qZ l hk;rw[←dQ.uW _ hk] at this;rw[←this];rfl
 rw[e];rfl
theorem xa(l:List ah)(r:ah)(hl:l.length≤4000000000000)(h:lE l)(hr:0≤r.bd∧r.bd≤5):aQ Tryz.prog 71 [enc l,enc r] (enc (da l r)):=by
 refine aQ.bN Tryz.func71 Hi Ir JF (t8 rfl) (fun hwf W0 bH E1 =>?_);simp only[yr,CH,bD,Z9];clear hwf;have hF:=wR l hl h;have hix:=u7 l hr;rw[show da l r=(decide ((l.length:Int)<60)&&((dq l r.bd:Int)==r.no)) by
  simp only[da];congr 1;rw[decide_eq_decide];omega]
 cases q1:decide ((l.length:Int)<60)
 ·have R:=y6 @q1 (y6 @hix (y6 @nf aE))
  repeat' ((first |(with_reducible refine .guard (fun hb =>?_) (fun hb =>?_) <;>try simp only[hb])|refine U.aI (by decide +kernel) rfl fun K hK =>?_|refine .lead _ (hF) ?_|(refine .aF [0,1,3,4] hK ?_;clear hK K)|(with_reducible refine .done (hK _ ?_);clear hK K)|refine U.of rfl ?_|(with_reducible refine ay.aG (fun h =>?_) (fun h =>?_) <;>try simp only[h])) <;>try simp only[aJ,R,simprocAttr])
  all_goals clear R
  all_goals rfl
 ·have R:=y6 @q1 (y6 @hix (y6 @nf aE))
  repeat' ((first |(with_reducible refine .guard (fun hb =>?_) (fun hb =>?_) <;>try simp only[hb])|refine U.aI (by decide +kernel) rfl fun K hK =>?_|refine .lead _ (hF) ?_|(refine .aF [0,1,3,4] hK ?_;clear hK K)|(with_reducible refine .done (hK _ ?_);clear hK K)|refine U.of rfl ?_|(with_reducible refine ay.aG (fun h =>?_) (fun h =>?_) <;>try simp only[h])) <;>try simp only[aJ,R,simprocAttr])
  all_goals clear R
  all_goals rfl
def dV:List ah→List ah→Bool
 |_,[]=>true
 |out,r::l=>bf r&&da out r&&dV (out++[r]) l
theorem lT:∀ (l out:List ah),dV out l=true↔eC bf da out l
 | [],_=>by simp[dV,eC]
 |r::l,out=>by simp only[dV,eC,Z0,lT l,and_assoc]
theorem X0{l:List ah}{i:Nat}(h:i<l.length):dV (l.take i) (l.drop i)=(bf l[i]&&da (l.take i) l[i]&&dV (l.take (i+1)) (l.drop (i+1))):=by
 rw[List.drop_eq_getElem_cons h,dV,←hU h]
theorem od{r:ah}(h:bf r=true):0≤r.bd∧r.bd≤5:=(mB (mC h)).1
theorem vC{l:List ah}{i:Nat}(hi:i<l.length)(h:∀ r∈l.take i,bf r=true)(h2:bf l[i]=true):∀ r∈l.take (i+1),bf r=true:=fun r hr=>by
 rw[hU hi] at hr;rcases Y8.1 hr with h1 | h1
 ·exact h r h1
 ·rw[zy2.1 h1];exact h2
theorem Fi(l:List ah)(hl:l.length≤4000000000000):aQ Tryz.prog 98 [enc l] (enc (dV [] l)):=by
 refine aQ.bN Tryz.func98 HA IK JX (t8 rfl) (fun hwf W0 bH E1 =>?_);simp only[yK,CZ,bD];clear hwf;have R:=aE
 repeat' ((first |(with_reducible refine .guard (fun hb =>?_) (fun hb =>?_) <;>try simp only[hb])|refine U.aI (by decide +kernel) rfl fun K hK =>?_|(refine .aF [0,2,3,4,5,6,7,8,22] hK ?_;clear hK K)|(with_reducible refine .done (hK _ ?_);clear hK K)|refine U.of rfl ?_|(with_reducible refine ay.aG (fun h =>?_) (fun h =>?_) <;>try simp only[h])) <;>try simp only[aJ,R,simprocAttr])
 all_goals clear R
 refine U.loop (fun i:Nat=>aw [(0,enc l),(5,enc l),(6,.int .i64 l.length),(7,.int .i64 i)] []) (fun i=>i≤l.length∧(∀ r∈l.take i,bf r=true)∧dV [] l=dV (l.take i) (l.drop i)) (fun i=>l.length-i) 0 ⟨Nat.zero_le _,by simp,by simp⟩ ?_ ?_
 ·refine bx.cJ ?_ ?_ ?_ ?_ <;>simp[cg,cq,cn,bP,cd,I.only,bG]
  all_goals rfl
 rintro i ⟨hi,hk,heq⟩;by_cases hlt:i<l.length
 ·have hlc:=eR hlt;have he:=fun A=>fm (A:=A) 8 hlt rfl;have hw:=ez (i:=i) (by omega);have hnx:=vC hlt hk;rw[X0 hlt] at heq;rw[heq];have hsl:=fun A=>DQ (l:=l) (k:=i) A (esz:=8) rfl (by omega);have hli:(l.take i).length=i:=by rw[Z6];omega
  generalize l[i]=r at *;have f80:=oK r;cases q1:bf r
  ·rw[q1] at f80;have R:=y6 @hlc (y6 @he (y6 @hw (y6 @fj (y6 @eU aE))))
   repeat' ((first |(with_reducible refine .guard (fun hb =>?_) (fun hb =>?_) <;>try simp only[hb])|refine U.aI (by decide +kernel) rfl fun K hK =>?_|refine .flat _ (f80) rfl ?_|(refine .aF [0,2,3,4,5,6,7,8,22] hK ?_;clear hK K)|(with_reducible refine .done (hK _ ?_);clear hK K)|refine U.of rfl ?_|(with_reducible refine ay.aG (fun h =>?_) (fun h =>?_) <;>try simp only[h])) <;>try simp only[aJ,R,simprocAttr])
   all_goals clear R
   all_goals rfl
  rw[q1] at f80;have f71:=xa (l.take i) r (by omega) (fun q hq=>od (hk q hq)) (od q1);cases q2:da (l.take i) r
  ·rw[q2] at f71;have R:=y6 @hlc (y6 @he (y6 @hw (y6 @hsl (y6 @fj (y6 @eU aE)))))
   repeat' ((first |(with_reducible refine .guard (fun hb =>?_) (fun hb =>?_) <;>try simp only[hb])|refine U.aI (by decide +kernel) rfl fun K hK =>?_|refine .flat _ (f80) rfl ?_|refine .flat _ (f71) rfl ?_|(refine .aF [0,2,3,4,5,6,7,8,22] hK ?_;clear hK K)|(with_reducible refine .done (hK _ ?_);clear hK K)|refine U.of rfl ?_|(with_reducible refine ay.aG (fun h =>?_) (fun h =>?_) <;>try simp only[h])) <;>try simp only[aJ,R,zz3,simprocAttr])
   all_goals clear R
   all_goals rfl
  rw[q2] at f71;have R:=y6 @hlc (y6 @he (y6 @hw (y6 @hsl (y6 @fj (y6 @eU aE)))))
  repeat' ((first |(with_reducible refine .guard (fun hb =>?_) (fun hb =>?_) <;>try simp only[hb])|refine U.aI (by decide +kernel) rfl fun K hK =>?_|refine .flat _ (f80) rfl ?_|refine .flat _ (f71) rfl ?_|(refine .aF [0,2,3,4,5,6,7,8,22] hK ?_;clear hK K)|(with_reducible refine .done (hK _ ?_);clear hK K)|refine U.of rfl ?_|(with_reducible refine ay.aG (fun h =>?_) (fun h =>?_) <;>try simp only[h])) <;>try simp only[aJ,R,zz3,simprocAttr])
  all_goals clear R
  refine ⟨i+1,⟨by omega,hnx q1,?_⟩,by omega,?_⟩
  ·rfl
  refine bx.cJ ?_ ?_ ?_ ?_ <;>simp[cg,cq,cn,bP,cd,I.only,bG]
  all_goals rfl
 ·have hlc:=fk hlt;rw[heq,List.drop_eq_nil_of_le (by omega),dV];have R:=y6 @hlc aE
  repeat' ((first |(with_reducible refine .guard (fun hb =>?_) (fun hb =>?_) <;>try simp only[hb])|refine U.aI (by decide +kernel) rfl fun K hK =>?_|(refine .aF [0,2,3,4,5,6,7,8,22] hK ?_;clear hK K)|(with_reducible refine .done (hK _ ?_);clear hK K)|refine U.of rfl ?_|(with_reducible refine ay.aG (fun h =>?_) (fun h =>?_) <;>try simp only[h])) <;>try simp only[aJ,R,simprocAttr])
  all_goals clear R
  all_goals rfl
end Go.Proofs.YtoffnnjbplgnaaaGreatDoor
namespace Go.Proofs.YtoffnnjbplgnaaaGreatDoor
open Go Go.Abs Go.Shelf Go.RowKit
open Go.Abs.Enc (enc)
def ly(r:ah):List Value:=[.int .i64 r.bd,.int .i64 r.no,.int .i64 r.kind,.int .i64 r.dW,.int .i64 r.known,.int .i64 r.eS,.int .i64 r.eZ,.string ⟨r.text.toArray⟩]
theorem Wz{w:World}{D:aD}{E:aN}{r:ah}{cs:List Value}(h:ae w D E (enc r) cs):cs=ly r:=by
 obtain ⟨h1,_⟩:=C7 (fp (v:=.agg cs.toArray) (by simp[aW,show (enc r:I).isAgg=true from rfl]) h);simp only[Value.agg.injEq] at h1;have:=congrArg Array.toList h1;simpa[ly] using this
theorem AG{n:Int}(h:0≤n∧n<100000000):IntKind.i64.min≤n∧n≤IntKind.i64.max:=by
 have a:IntKind.i64.min=-9223372036854775808:=rfl;have b:IntKind.i64.max=9223372036854775807:=rfl;omega
theorem WG{w:World}{D:aD}{E:aN}{r:ah}(h:bf r=true):ae w D E (enc r) (ly r):=by
 have hn:=pT h;have ht:=sw h
 show ae w D E (.agg [.agg [.int .i64 r.bd,.int .i64 r.no],.int .i64 r.kind,.int .i64 r.dW,.int .i64 r.known,.agg [.int .i64 r.eS,.int .i64 r.eZ],.aj ⟨r.text.toArray⟩]) _
 have g:∀ n∈dE r,ae w D E (.int .i64 n) [.int .i64 n]:=fun n hn'=>⟨rfl,AG (hn n hn')⟩
 simp only[ae,az];refine ⟨[.int .i64 r.bd,.int .i64 r.no],_,rfl,⟨[.int .i64 r.bd],_,rfl,by simpa only[ae] using g r.bd (by simp[dE]),[.int .i64 r.no],[],rfl,by simpa only[ae] using g r.no (by simp[dE]),rfl⟩,
  [.int .i64 r.kind],_,rfl,by simpa only[ae] using g r.kind (by simp[dE]),[.int .i64 r.dW],_,rfl,by simpa only[ae] using g r.dW (by simp[dE]),[.int .i64 r.known],_,rfl,by simpa only[ae] using g r.known (by simp[dE]),
  [.int .i64 r.eS,.int .i64 r.eZ],_,rfl,⟨[.int .i64 r.eS],_,rfl,by simpa only[ae] using g r.eS (by simp[dE]),[.int .i64 r.eZ],[],rfl,by simpa only[ae] using g r.eZ (by simp[dE]),rfl⟩,
  [.string ⟨r.text.toArray⟩],[],rfl,⟨rfl,?_⟩,rfl⟩
 show r.text.toArray.size≤maxLen
 simp only[List.size_toArray,maxLen];omega
theorem HF{z:Int}(hz:0≤z∧z<1000003){r:ah}(h:bf r=true)(W:World)(hl:eA Tryz.prog W (fun _=>False)):Calls Tryz.prog 81 #[.int .i64 z,.agg (ly r).toArray] W fun e w'=>e=.returned (.tuple #[.string ⟨(cS z r).toArray⟩,.int .i64 (cM z (cC r))])∧Below W.heap.size W w':=by
 have hc:=oL z hz r h;refine (hc.2 W (fun _ _=>False) [.int .i64 z,.agg (ly r).toArray] hl (fun _ _ h=>h.elim) ?_).mono ?_
 ·simp only[ao];refine ⟨_,_,[.int .i64 z],rfl,rfl,?_,_,_,ly r,rfl,by simp[aW,show (enc r:I).isAgg=true from rfl],WG h,rfl⟩
  show ae _ _ _ (.int .i64 z) _
  simp only[ae];exact ⟨trivial,AG (by omega)⟩
 ·rintro e w' ⟨v,D',rfl,hv,hb,_⟩;refine ⟨?_,hb⟩;have hv':∃ vs:List Value,v=.tuple vs.toArray∧ao w' D' cu [enc (ak.of (cS z r)),enc (cM z (cC r))] vs:=hv;obtain ⟨vs,rfl,h2⟩:=hv';simp only[ao] at h2;obtain ⟨v1,_,c1,rfl,p1,r1,v2,_,c2,rfl,p2,ir,rfl⟩:=h2;have r1':ae w' D' cu (.aj ⟨(cS z r).toArray⟩) c1:=r1;have r2':ae w' D' cu (.int .i64 (cM z (cC r))) c2:=ir;simp only[ae] at r1' r2';obtain ⟨rfl,_⟩:=r1';obtain ⟨rfl,_⟩:=r2';simp[aW,show (enc (ak.of (cS z r)):I).isAgg=false from rfl,show (enc (cM z (cC r)):I).isAgg=false from rfl] at p1 p2;subst p1 p2;rfl
def oO(w:World)(a:Option Addr)(l:List ah):Prop:=∀ (j:Nat) (h:j<l.length),∃ b off,a=some ⟨b,off,none⟩∧w.rangeAt b (off+j*8) (ly l[j])∧b<w.heap.size
theorem oO.later{w w':World}{a:Option Addr}{l:List ah}(h:oO w a l)(hb:Below w.heap.size w w'):oO w' a l:=by
 intro j hj;obtain ⟨b,off,h1,h2,h3⟩:=h j hj;refine ⟨b,off,h1,fun k v hk =>?_,Nat.lt_of_lt_of_le h3 hb.size⟩;have:=h2 k v hk;simp only[World.cell?] at this ⊢;rw[hb.block b h3];exact this
theorem Xf{w:World}{D:aD}(hD:∀ b o,D b o→b<w.heap.size){l:List ah}{v:Value}(h:aP w D cu (enc l) v):∃ a cap,v=.slice a l.length cap∧oO w a l:=by
 have h':aP w D cu (.slice 8 (l.map enc)) v:=h;obtain ⟨a,cap,h1,h2,h3,h4,h5⟩:=ke h';refine ⟨a,cap,by rw[h1,Z2],fun j hj =>?_⟩;rcases h4 with h4 | ⟨b,off,cs,rfl,h6,h7⟩
 ·rw[List.map_eq_nil_iff] at h4;rw[h4] at hj;exact absurd hj (by simp)
 ·obtain ⟨c2,k1,k2⟩:=uv (k:=j) (x:=enc l[j]) h6 h7 h5 (by simp[hj]);have e:=Wz k2;subst e;refine ⟨b,off,rfl,fun k v hk=>(k1 k v hk).1,hD b (off+j*8+0) (k1 0 _ rfl).2⟩
theorem XL(l:List ah)(hl:l.length≤1000000)(h:∀ r∈l,bf r=true)(a:Option Addr)(cap:Nat)(w:World)(hL:eA Tryz.prog w (fun _=>False))(hR:oO w a l) :
  Calls Tryz.prog 135 #[.slice a l.length cap] w fun e w'=>e=.returned (.string ⟨(bp 1 l).toArray⟩)∧Below w.heap.size w w':=by
 go_enter Tryz.func135,Tryz.ntmps135
 go_wp2
 go_loopw [4,10] (fun s i wr=>∃ j:Nat,j≤l.length∧i=.int .i64 j∧s=.int .i64 (dF 1 (l.take j))∧ku w.heap.size w.heap.size (bp 1 (l.take j)) wr∧Below w.heap.size w wr) (fun _ i _=>l.length-(RowKit.intOf i).toNat)
 case atStart =>
  refine ⟨0,by omega,rfl,rfl,.inl ⟨by omega,.slice none 0 0,heap_alloc_new w _,⟨rfl,.inl ⟨rfl,rfl⟩⟩,by simp[Value.ownBlock]⟩,iU w _⟩
 case round =>
  obtain ⟨j,hj,rfl,rfl,hI,hbw⟩:=hrel;have hB1:w.heap.size≤wr.heap.size:=hbw.size;by_cases hlt:j<l.length
  ·obtain ⟨b,off,ha,hr,hb⟩:=hR.later hbw j hlt;subst ha;have hok:=h l[j] (List.getElem_mem hlt);have hst:=qu (l.take j);have hsn:=tc (l.take j) l[j] 1;rw[←hU hlt] at hsn;generalize l[j]=r at *;have hcall:=HF hst hok;have k0:wr.cell? ⟨b,off+j*8,none⟩=some (.int .i64 r.bd):=hr 0 _ rfl;have k1:wr.cell? ⟨b,off+j*8+1,none⟩=some (.int .i64 r.no):=hr 1 _ rfl;have k2:wr.cell? ⟨b,off+j*8+2,none⟩=some (.int .i64 r.kind):=hr 2 _ rfl;have k3:wr.cell? ⟨b,off+j*8+3,none⟩=some (.int .i64 r.dW):=hr 3 _ rfl;have k4:wr.cell? ⟨b,off+j*8+4,none⟩=some (.int .i64 r.known):=hr 4 _ rfl;have k5:wr.cell? ⟨b,off+j*8+5,none⟩=some (.int .i64 r.eS):=hr 5 _ rfl;have k6:wr.cell? ⟨b,off+j*8+6,none⟩=some (.int .i64 r.eZ):=hr 6 _ rfl;have k7:wr.cell? ⟨b,off+j*8+7,none⟩=some (.string ⟨r.text.toArray⟩):=hr 7 _ rfl;simp only[ly] at hcall;have hw:=ez (i:=j) (by omega);have hlt':decide ((j:Int)<(l.length:Int))=true:=eR hlt;have hll:=pI hst hok;have htl:=oz (l.take j) (s:=1) (by omega) fun q hq=>h q (List.mem_of_mem_take hq);have hli:(l.take j).length=j:=by rw[Z6];omega
   have hsz:(⟨(cS (dF 1 (l.take j)) r).toArray⟩:ByteArray).size=(cS (dF 1 (l.take j)) r).length:=by show (cS _ r).toArray.size=_;simp
   go_wp2_with (first | (go_at_call 81;refine (hcall _ (AO hL (hbw.trans ((iU wr _).mono hB1)))).mono ?_;rintro e W1 ⟨rfl,hb1⟩) | (go_at_call 156;refine (Es w.heap.size w.heap.size _ _ _ (rS (rS hI (iU wr _)) hb1) (by rw[hsz];omega) (by have:=hb1.size;simp at this;omega)).mono ?_;rintro e W2 ⟨rfl,hI2,hb2,hk2⟩))
   refine ⟨⟨j+1,by omega,rfl,?_,?_,?_⟩,by simp only[RowKit.intOf];omega⟩
   ·rw[hsn.2]
   ·rw[hsn.1];exact hI2
   ·exact ((hbw.trans ((iU wr _).mono hB1)).trans (hb1.mono (by simp;omega))).trans hb2
  ·have hge:j=l.length:=by omega
   subst hge;have hlt':decide ((l.length:Int)<(l.length:Int))=false:=by simp
   rw[List.take_length] at hI
   go_wp2_with (go_at_call 157;refine (xB w.heap.size w.heap.size _ _ hI hB1).mono ?_;rintro e W2 ⟨rfl,hI2,hb2,hk2⟩)
   go_ret
   exact ⟨rfl,hbw.trans hb2⟩
theorem wW(l:List ah)(hl:l.length≤1000000)(h:∀ r∈l,bf r=true):aQ Tryz.prog 135 [enc l] (enc (ak.of (bp 1 l))):=by
 refine ⟨GL,fun w D vs hL hD hv =>?_⟩;simp only[ao] at hv;obtain ⟨v,rest,cs,rfl,h1,h2,rfl⟩:=hv;obtain ⟨a,cap,rfl,hR⟩:=Xf hD (fp h1 h2);refine (XL l hl h a cap w hL hR).mono ?_;rintro e w' ⟨rfl,hbl⟩;have hlen:=oz l (s:=1) (by omega) h;exact ⟨_,D,rfl,Du (l:=bp 1 l) (by unfold maxLen;omega),hbl,fun b o hd=>Nat.lt_of_lt_of_le (hD b o hd) hbl.size,fun _ _ h _=>h⟩
end Go.Proofs.YtoffnnjbplgnaaaGreatDoor
namespace Go.Proofs.YtoffnnjbplgnaaaGreatDoor
open Go Go.Abs
open Go.Abs.Enc (enc)
theorem ze{c:UInt8} : ∀ {l:List UInt8},dk c l=none→∀ b∈l,b≠c
 | [],_=>by simp
 |b::l,h=>by
  rw[dk] at h;by_cases e:b=c
  ·rw[if_pos e] at h;cases h
  ·rw[if_neg e] at h;cases h2:dk c l with
   |some p=>rw[h2] at h;cases h
   |none =>
    intro x hx;rcases zy0.1 hx with rfl | hx
    ·exact e
    ·exact ze h2 x hx
theorem ri{c:UInt8} : ∀ {l w v:List UInt8},dk c l=some (w,v)→l=w++c::v∧∀ b∈w,b≠c
 | [],_,_,h=>by simp[dk] at h
 |b::l,w,v,h=>by
  rw[dk] at h;by_cases e:b=c
  ·rw[if_pos e] at h;cases h;exact ⟨by rw[e];rfl,by simp⟩
  ·rw[if_neg e] at h;cases h2:dk c l with
   |none=>rw[h2] at h;cases h
   |some p =>
    obtain ⟨w2,v2⟩:=p;rw[h2,Y1] at h;cases h;obtain ⟨h3,h4⟩:=ri h2;refine ⟨by rw[h3];rfl,fun x hx =>?_⟩;rcases zy0.1 hx with rfl | hx
    ·exact e
    ·exact h4 x hx
theorem vg{u:List UInt8}(h:dk 10 u=none):dm u=[]:=r0 (ze h)
theorem r2{u w v:List UInt8}(h:dk 10 u=some (w,v)):dm u=(w++[10])::dm v:=by
 obtain ⟨rfl,h2⟩:=ri h;exact vf v h2
def fq:Nat→List UInt8→List UInt8
 |0,t=>t
 |k+1,t=>match dk 10 t with
  |none=>t
  |some p=>fq k p.2
theorem vV:∀ {k:Nat} {t w v:List UInt8},dk 10 (fq k t)=some (w,v)→fq (k+1) t=v
 |0,t,w,v,h=>by rw[fq] at h;rw[fq,h];rfl
 |k+1,t,w,v,h=>by
  rw[fq] at h ⊢;cases h2:dk 10 t with
  |none=>rw[h2] at h;simp only at h;rw[h2] at h;cases h
  |some p=>rw[h2] at h;exact vV h
theorem vU:∀ {k:Nat} {t:List UInt8},k≤(dm t).length→dm (fq k t)=(dm t).drop k
 |0,t,_=>rfl
 |k+1,t,h=>by
  rw[fq];cases h2:dk 10 t with
  |none=>rw[vg h2] at h;simp at h
  |some p =>
   obtain ⟨w,v⟩:=p;rw[r2 h2] at h ⊢;simp only[zz4] at h;exact vU (k:=k) (t:=v) (by omega)
theorem Dk:∀ (k:Nat) (t:List UInt8),(fq k t).length≤t.length
 |0,_=>Z5 _
 |k+1,t=>by
  rw[fq];cases h2:dk 10 t with
  |none=>exact Z5 _
  |some p =>
   have:=rj h2;have:=Dk k p.2;simp only;omega
def dA(u:List UInt8)(out:List ah)(s:Int)(z:Nat):List (Nat×ai):=[(1000001,.box (enc (ak.of u))),(1000004,.box (.own 1000080 out.length)),(1000080,.bE 50 8 (out.map enc)),(1000005,.box (.int .i64 s)),(1000006,.box (.int .i64 (z:Int)))]
theorem nd(u:List UInt8)(out:List ah)(s:Int)(z:Nat)(u':List UInt8)(out':List ah)(s':Int)(z':Nat):ff (dA u out s z) (dA u' out' s' z'):=by
 refine ⟨fun n=>by simp only[dA,aC,aH];(repeat' split) <;>rfl,fun n x h =>?_,fun n h =>?_⟩
 ·simp only[dA,aH] at h
  repeat' split at h
  all_goals first | (cases h;done) | (simp only[v6] at h;subst h;exact ⟨by simp[dA,aC,aH,ai.only,bG,I.only,pU],rfl⟩)
 ·simp only[dA,aC,aH] at h
  repeat' split at h
  all_goals first | omega | (simp at h;done)
section
variable (t:List UInt8) (P:Nat→List ah→Int→Nat→Prop) (bh:List ah→Nat→Prop)
def rQ(k:Nat)(os:List (Nat×ai)):Prop:=∃ out s z,os=dA (fq k t) out s z∧P k out s z
def rR(k:Nat)(os:List (Nat×ai)):Prop:=∃ out s z,os=dA (fq k t) out s z∧P (k+1) out s z
def pA(e:Option Nat)(os:List (Nat×ai)):Prop:=e=some 0∧∃ u out s z,os=dA u out s z∧bh out z
def nT(k:Nat):List I:=[enc (ak.of ((dm t).getD k []))]
end
def DC(o:Obj)(v:Value)(t:List UInt8)(x:Nat×List ah×Int×Nat):ab:=aw [(0,.raw v),(1,.ptr 1000001 [])] (bM o (dA (fq x.1 t) x.2.1 x.2.2.1 x.2.2.2))
theorem Aw{o:Obj}{u:List UInt8}{out:List ah}{s:Int}{z:Nat}{ts:List (Nat×I)} : ∀ n x,aH (bM o (dA u out s z)) n=some x→(aw ts (bM o (dA u out s z))).o n=some x∧x.only (aC (bM o (dA u out s z)))=true∧x.eh=true:=fun n x h =>
 ⟨h,(((nd u out s z u out s z).bM o o).ok n x h)⟩
theorem XD:∀ A n b rest (x y:List UInt8),dT A none n [] b (enc (ak.of x)) rest (some (enc (ak.of y)))=al rest (A.aO n (.box (enc (ak.of x)))) :=
 fun A n b rest x y=>by rw[eK (s:=none) (v:=enc (ak.of x)) (old:=enc (ak.of y)) (eY _) rfl rfl,fD]
theorem UL{t:List UInt8}(ht:t.length≤281474976710656){P:Nat→List ah→Int→Nat→Prop}{bh:List ah→Nat→Prop}{out0:List ah}{s0:Int}{z0:Nat}(h0:P 0 out0 s0 z0)
  (Y:Value→List I→List (Nat×ai)→b6→Prop) (v:Value) (o:Obj) (oX:Option Nat→Obj) (hv:v.oneCell'=true)
  (hY:∀ k osb post,k<(dm t).length→rQ t P k osb→(∀ r os2,(r=.bool true∧∃ osb2,os2=bM o osb2∧rR t P k osb2)∨(r=.bool false∧∃ e osb2,os2=bM (oX e) osb2∧pA bh e osb2)→post r os2)→Y v (nT t k) (bM o osb) post) :
  iQ Tryz.prog 122 Y [.raw v,.ptr 1000001 []] (bM o (dA t out0 s0 z0)) (fun r os'=>r=.tuple []∧((∃ osb,os'=bM o osb∧rQ t P (dm t).length osb)∨∃ e osb,os'=bM (oX e) osb∧pA bh e osb)):=by
 refine iQ.bN Tryz.func122 yN HP I4 (t8 rfl) (t8 rfl) (((nd t out0 s0 z0 t out0 s0 z0).bM o o).lD) (fun hwf W0 bH E1 =>?_);simp only[xL,B7,bD,Z9];clear hwf;refine U.block (U.loop (DC o v t) (fun x=>x.1≤(dm t).length∧P x.1 x.2.1 x.2.2.1 x.2.2.2) (fun x=>(dm t).length-x.1) (0,out0,s0,z0) ⟨by simp,h0⟩ ?_ ?_)
 ·exact bx.refl _
 rintro ⟨k,out,s,z⟩ ⟨hk,hP⟩;simp only at hk hP;have hrl:=Dk k t;have hrd:=vU hk;have hrn:=fun w v=>vV (k:=k) (t:=t) (w:=w) (v:=v);obtain ⟨u,hu⟩:∃ u,u=fq k t:=⟨_,rfl⟩
 have hfin:dm u=[]→∃ osb,bM o (dA u out s z)=bM o osb∧rQ t P (dm t).length osb:=fun e=>by
  rw[hu,hrd,List.drop_eq_nil_iff] at e;have:k=(dm t).length:=by omega
  exact ⟨_,rfl,out,s,z,by rw[←this,←hu],by rw[←this];exact hP⟩
 simp only[DC,←hu];rw[←hu] at hrl hrd hrn;have heldF:=fun ts=>Aw (o:=o) (u:=u) (out:=out) (s:=s) (z:=z) (ts:=ts);rcases hq:decide (u=[])
 rotate_left
 ·have hu0:u=[]:=of_decide_eq_true hq;have hf:=hfin (by rw[hu0];exact r0 (by simp));simp only[bM,dA] at hf heldF ⊢;have R:=y6 @ij (y6 @gK (y6 @hq (y6 @bl aE)))
  repeat' ((first |(with_reducible refine .guard (fun hb =>?_) (fun hb =>?_) <;>try simp only[hb])|refine U.aI (by decide +kernel) rfl fun K hK =>?_|(refine .aF [0,1,3,5,18] hK ?_;clear hK K)|(with_reducible refine .done (hK _ ?_);clear hK K)|refine U.of rfl ?_|(with_reducible refine ay.aG (fun h =>?_) (fun h =>?_) <;>try simp only[h])) <;>try simp only[aJ,R,simprocAttr])
  all_goals clear R
  rw[WZ];exact ⟨_,[],heldF _,trivial,rfl,.inl hf⟩
 have hF:=EE (ak.of u) 10;rw[ak.de] at hF;rcases rh 10 u with ⟨h1,h2⟩ | ⟨i,hi,h2,h1⟩
 ·have hf:=hfin (vg h1);obtain ⟨n,hn1⟩:∃ n:Int,n=-1:=⟨_,rfl⟩
  rw[h2,←hn1] at hF;have hneg:decide (n<0)=true:=by rw[hn1];rfl
  simp only[bM,dA] at hf heldF ⊢;have R:=y6 @ij (y6 @gK (y6 @hq (y6 @hneg (y6 @bl aE))))
  repeat' ((first |(with_reducible refine .guard (fun hb =>?_) (fun hb =>?_) <;>try simp only[hb])|refine U.aI (by decide +kernel) rfl fun K hK =>?_|refine .flat _ (hF) rfl ?_|(refine .aF [0,1,3,5,18] hK ?_;clear hK K)|(with_reducible refine .done (hK _ ?_);clear hK K)|refine U.of rfl ?_|(with_reducible refine ay.aG (fun h =>?_) (fun h =>?_) <;>try simp only[h])) <;>try simp only[aJ,R,simprocAttr])
  all_goals clear R
  rw[jG];exact ⟨_,[],heldF _,trivial,rfl,.inl hf⟩
 rw[h2] at hF;have hlt:k<(dm t).length:=by
  have:=congrArg List.length hrd;rw[r2 h1,List.length_drop] at this;simp only[zz4] at this;omega
 have ju:nT t k=[enc (ak.of (u.take (i+1)))]:=by
  have e:(dm t)[k]=u.take i++[10]:=by
   have h3:=hrd;rw[r2 h1,List.drop_eq_getElem_cons hlt] at h3;exact (List.cons.inj h3).1.symm
  have h10:u[i]=10:=by
   obtain ⟨e1,_⟩:=ri h1;have:=congrArg (fun l=>l[i]?) e1;simp only[Y4 hi] at this;rw[List.getElem?_append_right (by rw[Z6];omega),Z6,show i-min i u.length=0 by omega] at this;exact Option.some.inj this
  rw[nT,Y7,Y4 hlt,Option.getD_some,e,hU hi,h10]
 have hlz:decide ((i:Int)<0)=false:=decide_eq_false (by omega);have hw:=ez (i:=i) (by omega);have hsh:=mX (ak.of u) (j:=i+1) (by rw[ak.de];omega);have hsl:=we (ak.of u) (i:=i+1) (by rw[ak.de];omega);rw[ak.de] at hsh hsl;have hyy:=hY k (dA u out s z) _ hlt ⟨out,s,z,by rw[←hu],hP⟩ (fun r os2 h=>h);rw[ju] at hyy;simp only[bM,dA] at hyy ⊢;have R:=y6 @ij (y6 @gK (y6 @hq (y6 @hlz (y6 @hw (y6 @hsh (y6 @HG (y6 @bl aE)))))))
 repeat' ((first |(with_reducible refine .guard (fun hb =>?_) (fun hb =>?_) <;>try simp only[hb])|refine U.aI (by decide +kernel) rfl fun K hK =>?_|refine .flat _ (hF) rfl ?_|(refine .aF [0,1,3,5,18] hK ?_;clear hK K)|(with_reducible refine .done (hK _ ?_);clear hK K)|refine U.of rfl ?_|(with_reducible refine ay.aG (fun h =>?_) (fun h =>?_) <;>try simp only[h])) <;>try simp only[aJ,R,simprocAttr])
 all_goals clear R
 refine aX.X2 (ow:=[]) (In:=fun os2=>∃ osb2,os2=bM o osb2∧rR t P k osb2) (Ix:=fun os2=>∃ e osb2,os2=bM (oX e) osb2∧pA bh e osb2) hyy ((nd t out0 s0 z0 u out s z).bM o o) (fun os' h =>?_) (fun os' h =>?_) (by simp[I.cj,jU]) (fun m h=>by simp[aC,aH] at h) (fun os2 h =>?_) (fun os2 h =>?_)
 ·obtain ⟨_,rfl,out',s',z',rfl,_⟩:=h;exact (nd ..).bM _ _
 ·obtain ⟨e,_,rfl,_,u',out',s',z',rfl,_⟩:=h;exact (nd ..).bM _ _
 ·obtain ⟨_,rfl,out',s',z',rfl,hP'⟩:=h;rw[←hu]
  try simp only[bM,dA,zz2,ba,simprocAttr]
  refine .done (hK _ ?_);clear hK K;have hn:=hrn _ _ h1;have R:=y6 @hw (y6 @hsl (y6 @hlz (y6 @XD (y6 @bl aE))))
  repeat' ((first |(with_reducible refine .guard (fun hb =>?_) (fun hb =>?_) <;>try simp only[hb])|refine U.aI (by decide +kernel) rfl fun K hK =>?_|(refine .aF [0,1,3,5,18] hK ?_;clear hK K)|(with_reducible refine .done (hK _ ?_);clear hK K)|refine U.of rfl ?_|(with_reducible refine ay.aG (fun h =>?_) (fun h =>?_) <;>try simp only[h])) <;>try simp only[aJ,R,simprocAttr])
  all_goals clear R
  refine ⟨(k+1,out',s',z'),⟨by simp only;omega,hP'⟩,by simp only;omega,?_⟩;simp only[hn];refine bx.slots ?_ (fun n =>?_)
  ·simp[cg,cd]
  ·simp only[ev];(repeat' split) <;>simp_all
 ·obtain ⟨e,_,rfl,he,u',out',s',z',rfl,hF'⟩:=h
  try simp only[bM,dA,zz2,ba,simprocAttr]
  refine .done (hK _ ?_);clear hK K;have R:=y6 @bl aE
  repeat' ((first |(with_reducible refine .guard (fun hb =>?_) (fun hb =>?_) <;>try simp only[hb])|refine U.aI (by decide +kernel) rfl fun K hK =>?_|(refine .aF [0,1,3,5,18] hK ?_;clear hK K)|(with_reducible refine .done (hK _ ?_);clear hK K)|refine U.of rfl ?_|(with_reducible refine ay.aG (fun h =>?_) (fun h =>?_) <;>try simp only[h])) <;>try simp only[aJ,R,simprocAttr])
  all_goals clear R
  rw[jG];exact ⟨_,[],Aw (o:=oX e) (u:=u') (out:=out') (s:=s') (z:=z'),trivial,rfl,.inr ⟨e,_,rfl,he,u',out',s',z',rfl,hF'⟩⟩
def Wh(t:List UInt8):b6:=fun r os'=>r=.func 122 [.ptr 1 []]∧os'=[(1,.box (enc (ak.of t)))]
theorem E7(t:List UInt8):eL Tryz.prog 69 [enc (ak.of t)] [] (Wh t):=by
 refine eL.bN Tryz.func69 Hg Iq JD (t8 rfl) (t8 rfl) (fun m hm=>by simp[aC,aH] at hm) (fun hwf W0 bH E1 =>?_);simp only[yq,CG,bD];clear hwf;have hall:([I.ptr 1 []].all fun y=>y.cv)=true:=rfl;have R:=y6 @hall (y6 @bl aE)
 repeat' ((first |refine U.aI (by decide +kernel) rfl fun K hK =>?_|(refine .aF [0,1,2] hK ?_;clear hK K)|(with_reducible refine .done (hK _ ?_);clear hK K)|refine U.of rfl ?_|(with_reducible refine ay.aG (fun h =>?_) (fun h =>?_) <;>try simp only[h])) <;>try simp only[aJ,R,simprocAttr])
 all_goals clear R
 exact ⟨[(1,.box (enc (ak.of t)))],[.func 122 [.ptr 1 []]],nQ rfl (fun p=>bG _ _),⟨⟨_,rfl,.inl ⟨rfl,rfl,rfl⟩⟩,trivial⟩,rfl,rfl⟩
end Go.Proofs.YtoffnnjbplgnaaaGreatDoor
namespace Go.Abs
open Go Go.RowKit
open Enc (enc)
def Fo(P:Program)(nn:Nat)(x y:bj)(ps:List Nat)(tsR:List (Nat×I))(N:Nat)(item:Nat→List I)(aY J:Nat→List (Nat×ai)→Prop)(Ix:Option Nat→List (Nat×ai)→Prop):Prop :=
 ∀ k osb,k<N→aY k osb→∀ (w:World) (D:aD) (E:aN) (l:Nat) (o1 o2:Obj),
  U ⟨P,w,D,nn,bQ E,E,fu,some l,none⟩ x (cQ (fun B=>B.o 1999999=some (.db o1)∧U ⟨P,w,D,nn,bQ E,E,fu,some l,none⟩ y (Dm o2 (J k) Ix) (B.aO 1999999 (.db o2))) (fun _ _=>False)) (aw (sE ps (item k) tsR) (bM o1 osb))
theorem xt{aB:Bool}{A0:ab}{ρ:List (Nat×Nat)}{os:List (Nat×ai)} : ∀ {caps:List I},(∀ x∈caps,x.only (aC os)=true∧x.cv=true)→fN aB A0 ρ os (caps.map fun x=>x.aR (bo ρ)) caps
 | [],_=>trivial
 |x::xs,h=>⟨.inl ⟨rfl,(h x (by simp)).1,(h x (by simp)).2⟩,xt fun y hy=>h y (by simp[hy])⟩
theorem FV{aB:Bool}{A0:ab}{ρ:List (Nat×Nat)}{os:List (Nat×ai)}{v:Value}{caps0 caps:List I}(hc:caps0=caps.map fun x=>x.aR (bo ρ))(h:∀ x∈caps,x.only (aC os)=true∧x.cv=true):fN aB A0 ρ os (.raw v::caps0) (.raw v::caps):=by
 subst hc;exact ⟨.inl ⟨by simp[I.aR],by simp[I.only],rfl⟩,xt h⟩
section
variable {c:cm} {Q:Exit→ab→Prop}
theorem U.W9{f:au}{ps:List Nat}{x y:bj}{ts tsR:List (Nat×I)}{os0 osb0:List (Nat×ai)}{ρ:List (Nat×Nat)}{g:FuncId}{caps0 caps:List I}{N:Nat}{item:Nat→List I}
  (aY J:Nat→List (Nat×ai)→Prop) (Ix:Option Nat→List (Nat×ai)→Prop) (hr0:c.qg=none∧c.dC=none) (hn6:c.n≤1000000)
  (hf:af (aw ts os0) f=.func g caps0) (hc0:caps0=caps.map fun x=>x.aR (bo ρ)) (hcp:∀ x∈caps,x.only (aC osb0)=true∧x.cv=true) (hcb:dO c.P g=true)
  (ju:∀ (Y:Value→List I→List (Nat×ai)→b6→Prop) (v:Value) (o:Obj) (oX:Option Nat→Obj),v.oneCell'=true →
   (∀ k osb post,k<N→aY k osb→(∀ r os2,(r=.bool true∧∃ osb2,os2=bM o osb2∧J k osb2)∨(r=.bool false∧∃ e osb2,os2=bM (oX e) osb2∧Ix e osb2)→post r os2)→Y v (item k) (bM o osb) post) →
   iQ c.P g Y (.raw v::caps) (bM o osb0) (fun r os'=>r=.tuple []∧((∃ osb,os'=bM o osb∧aY N osb)∨∃ e osb,os'=bM (oX e) osb∧Ix e osb))) (hlen:∀ k,(item k).length=ps.length)
  (hfree:aH os0 999999=none) (h19:aC osb0 1999999=false) (hρ:bo ρ 1999999=999999)
  (hgv:∀ o,eM ρ (bM o osb0) ((999999,.db o)::os0)) (hts:lS ρ (aC osb0) ts tsR)
  (hI:∀ k os,aY k os→ff osb0 os) (hIx:∀ e os,Ix e os→ff osb0 os) (h0:aY 0 osb0)
  (hround:Fo c.P c.n x y ps tsR N item aY J Ix)
  (hdone:∀ os,aY N os→Q .normal (aw ts (cY ρ os++os0))) (hexit:∀ e os,Ix e os→Q (uB e) (aw ts (cY ρ os++os0))) :
  U c (.mS f ps x y) Q (aw ts os0):=by
 obtain ⟨hr,hbase⟩:=hr0;intro code hc a w hs;cases code <;>simp only[dN] at hc <;>try (first | (cases hc;done) | ((repeat' split at hc) <;>cases hc;done))
 rename_i cf cps cx cy;split at hc
 case h_2=>cases hc
 rename_i f' x' y' hcf hcx hcy;split at hc
 case isFalse=>cases hc
 rename_i hpn;simp only[v6,bj.mS.injEq] at hc;obtain ⟨rfl,rfl,rfl,rfl⟩:=hc;obtain ⟨D,E,hs⟩:=hs;have hF:c.bh=Fence.wide:=by unfold cm.bh;rw[hr]
 have hE0:c.cu 999999=none:=hs.iY (.inr (by decide));have hval:∃ vs:List Value,a.eval cf=.func (.func g) #[] vs.toArray∧ao w D E caps0 vs:=by
  have hv:=bn hs hcf;rw[hf] at hv;obtain ⟨cs,q1,q2⟩:=hv;simp only[ae] at q2;obtain ⟨vs,q3,q4⟩:=q2;exact ⟨vs,by rw[←lC (yT hcb)];simpa[aW,I.isAgg,q3] using q1.symm,q4⟩
 obtain ⟨vs,hval,hvs⟩:=hval;rw[hF];refine wpIn_rangeFunc fun fn hfn =>?_;obtain ⟨rec,hrec⟩:∃ rec:LoopState→Option Code→Loop,rec=fun aV pe => { state:=aV,pending:=pe,fn,tmps:=a.tmps,params:=cps,assign:=cx,body:=cy,defers:=w.heap.size } :=⟨_,rfl⟩
 obtain ⟨E1,hs1,hE1,hup⟩:=hs.enter hbase hfree hE0 (o:=.loop (rec .ready none)) rfl;obtain ⟨W1,hW1⟩:∃ W1,(w.alloc (.deferred (some []))).alloc (.loop (rec .ready none))=W1:=⟨_,rfl⟩
 rw[hW1] at hs1 hup;obtain ⟨l,hl⟩:∃ l,l=w.heap.size+1:=⟨_,rfl⟩
 rw[←hl] at hE1;obtain ⟨yv,hyv⟩:∃ yv:Value,yv=.func (.yield l) #[] #[]:=⟨_,rfl⟩
 obtain ⟨a1,ha1⟩:∃ a1:Act,a1 = { a with defers := { target:=.collected w.heap.size,args := #[] } :: a.defers } :=⟨_,rfl⟩
 rw[←ha1] at hs1;refine ⟨l,[{ target:=.collected w.heap.size,args := #[] }],W1,{ target:=.fn (.func g) vs.toArray,args := #[yv] },W1,g,#[yv]++vs.toArray,W1,?_,?_,?_,?_,fun _=>by decide,?_⟩
 ·rw[←hW1,hrec,hl];exact run_enterLoop_outer _ _ _ _ _
 ·simp only[resolve,hval,hyv];simp[go_sem]
 ·intro f' _;trivial
 ·simp only[invoke,lQ hcb]
 ·-- the iterator's own bargain
  have hG0:=hI 0 osb0 h0;obtain ⟨I',hI'⟩:∃ I':Nat→List (Nat×ai)→Prop,I'=fun k os=>∃ osb,os=bM (.loop (rec .ready none)) osb∧aY k osb:=⟨_,rfl⟩
  obtain ⟨J',hJ'⟩:∃ J':Nat→List (Nat×ai)→Prop,J'=fun k os=>∃ osb,os=bM (.loop (rec .ready none)) osb∧J k osb:=⟨_,rfl⟩
  obtain ⟨Ix',hIx'⟩:∃ Ix':List (Nat×ai)→Prop,Ix'=fun os=>∃ e osb,os=bM (.loop (rec .done (some (rT e)))) osb∧Ix e osb:=⟨_,rfl⟩
  obtain ⟨os1,hos1⟩:∃ os1,os1=bM (.loop (rec .ready none)) osb0:=⟨_,rfl⟩
  obtain ⟨Y,hY⟩:∃ Y:Value→List I→List (Nat×ai)→b6→Prop,Y=fun v args os post=>v=yv∧∃ k,args=item k∧k<N∧I' k os∧∀ r os2,(r=.bool true∧J' k os2)∨(r=.bool false∧Ix' os2)→post r os2:=⟨_,rfl⟩
  have jt:∀ k os',I' k os'→ff os1 os':=fun k os' h=>by
   rw[hI'] at h;obtain ⟨osb,rfl,h⟩:=h;rw[hos1];exact (hI k osb h).bM _ _
  have goodx:∀ os',Ix' os'→ff os1 os':=fun os' h=>by
   rw[hIx'] at h;obtain ⟨e,osb,rfl,h⟩:=h;rw[hos1];exact (hIx e osb h).bM _ _
  have hctr:iQ c.P g Y (.raw yv::caps) os1 (fun r os'=>r=.tuple []∧(I' N os'∨Ix' os')):=by
   rw[hI',hIx',hos1];refine ju Y yv (.loop (rec .ready none)) (fun e=>.loop (rec .done (some (rT e)))) (by rw[hyv];rfl) (fun k osb post hk h1 h2 =>?_);rw[hY];refine ⟨rfl,k,rfl,hk,by rw[hI'];exact ⟨osb,rfl,h1⟩,fun r os2 h3=>h2 r os2 ?_⟩;rw[hJ',hIx'] at h3;exact h3
  have hgv1:eM ρ os1 ((999999,.db (.loop (rec .ready none)))::os0):=by rw[hos1];exact hgv _
  obtain ⟨A0,hA0⟩:∃ A0:ab,A0=aw ts ((999999,.db (.loop (rec .ready none)))::os0):=⟨_,rfl⟩
  have hand:lZ (Calls c.P g) (fun w D E=>∀ n,nv ⟨c.P,w,D,n,bQ E,E,Y,none,none⟩) (.raw yv::caps) os1 (fun r os'=>r=.tuple []∧(I' N os'∨Ix' os')):=fun w D E vs hy hlive hheld hv=>by
   refine (hctr.2 w D E vs hy hlive hheld hv).mono fun e w' ⟨v,he,D',E',r,os',q⟩=>⟨v,D',E',r,os',he,q⟩
  have hshare:=hs1.mZ;obtain ⟨Dh,hDh⟩:∃ Dh,Dh=mU (aw ts ((999999,.db (.loop (rec .ready none)))::os0)) D E1:=⟨_,rfl⟩
  rw[←hDh] at hshare;have hsh:=hshare.1;obtain ⟨Eh,hEh⟩:∃ Eh,Eh=aq ρ os1 E1:=⟨_,rfl⟩
  have isrec:aC os1 1999999=true:=by rw[hos1,jw];simp
  have hEl:Eh 1999999=some (.op l):=by rw[hEh];simp only[aq,isrec,if_true,hρ];exact hE1
  have EhIn:∀ n e,Eh n=some e→aC os1 n=true:=fun n e h=>by
   rw[hEh] at h;simp only[aq] at h;split at h
   ·assumption
   ·cases h
  have hyok:∀ n,nv ⟨c.P,W1,Dh,n,bQ Eh,Eh,Y,none,none⟩:=by
   refine fun n=>⟨by rw[hEh];exact hs1.nV,?_⟩
   intro v' args os' post' hYv w2 D2 E2 vs2 hsince hlive hheld hrvs;rw[hY] at hYv;obtain ⟨rfl,k,rfl,hkN,hIk,hpost⟩:=hYv;have hIk0:=hIk;rw[hI'] at hIk;obtain ⟨osb,rfl,hIk⟩:=hIk;have gk:=jt k _ hIk0;have gkb:=hI k osb hIk;have in2:∀ m,aC os1 m=true→E2 m≠none:=fun m hm=>by
    rw[←gk.same m] at hm;cases hx:aH (bM (.loop (rec .ready none)) osb) m with
    |none=>simp[aC,hx] at hm
    |some x=>have:=hheld.bz m;rw[hx] at this;exact pQ this
   have same2:∀ m e,Eh m=some e→e.eh=true→E2 m=some e:=fun m e he hfx=>by
    rcases hsince.dy m e he with h | ⟨e',h,hle⟩
    ·exact absurd h (in2 m (EhIn m e he))
    ·rw[hle.eq hfx] at h;exact h
   have hEl2:E2 1999999=some (.op l):=same2 _ _ hEl rfl;have hob:=hheld.bz 1999999;rw[nY,if_pos rfl] at hob;obtain ⟨b,j1,_,j3,_,_⟩:=hob;rw[hEl2] at j1;cases j1;have hsz:vs2.toArray.size=cps.size:=by have:=qi hrvs;rw[hlen] at this;simpa using this
   have hyr:=run_yield (P:=c.P) (args:=vs2.toArray) j3 (by rw[hrec];exact hsz);rw[hrec] at hyr;refine ⟨l,hyv,fn,_,cx,cy,hyr,roundIn_of_wpIn trivial ?_⟩;clear hyr
   -- the round's own frame
   obtain ⟨cr,hcr⟩:∃ cr:cm,cr=⟨c.P,w2,D2,c.n,bQ E2,E2,fu,some l,none⟩:=⟨_,rfl⟩
   have hFr:cr.bh=Fence.wide.inRound l:=by rw[hcr];rfl
   have hlat:dh W1 Dh Eh w2 D2 E2:=by
    refine ⟨hsince.cw,hsince.fb.cell,fun m b aK he=>same2 m _ he rfl,fun m aA l he =>?_,fun m b he=>same2 m _ he rfl,fun m b he=>same2 m _ he rfl,hsince.fb.ik⟩;rcases hsince.dy m _ he with h | ⟨e',h,hle⟩
    ·exact absurd h (in2 m (EhIn m _ he))
    ·rcases hle with rfl | ⟨_,_,blk',l',e,rfl,k1,k2⟩
     ·exact ⟨aA,l,h,Z5 _,fun _=>rfl⟩
     ·cases e;exact ⟨blk',l',h,k1,k2⟩
   have hslots:lS ρ (aC os1) ts tsR:=by
    have:∀ tsR:List (Nat×I),lS ρ (aC osb0) ts tsR→lS ρ (aC os1) ts tsR:=by
     intro tsR
     induction tsR with
     |nil=>exact fun h=>h
     |cons q r ih =>
      intro h;obtain ⟨h1,h2,h3⟩:=h;exact ⟨h1,je (fun n hn=>by rw[hos1,jw,hn];simp) _ h2,ih h3⟩
    exact this tsR hts
   have hsr:aL cr (aw tsR (bM (.loop (rec .ready none)) osb)) { tmps:=a.tmps,defers:=[] } w2 D2 E2:=by
    rw[hcr];refine ⟨hs.sz,⟨[],rfl,.nil,fun _ h=>by simp at h⟩,fun t =>?_,er.refl _ _,fun _ _ h _=>h,hlive,fun m=>(hheld.bz m).jc fun e b he hb=>.inr ⟨m,e,he,hb⟩,hheld.cz,fun _ e h=>.inr ⟨e,h,.refl e⟩,fun m hm =>?_,fun _ _ h=>h,⟨hsince.pH,fun _ _ _ _ h=>h.elim⟩,.refl _ _⟩
    ·rcases DU hslots t with h | ⟨h1,h2⟩
     ·simp only[aw];rw[h];simp[aP]
     ·have h3:=hsh.dB t;rw[ha1] at h3;simp only[aw] at h3 ⊢;rw[h1] at h3;have h4:=(aP.aR (w:=W1) (D:=Dh) (p:=aC os1) (ρ:=bo ρ) (E:=Eh) (E':=E1) (fun n hn=>by rw[hEh];simp only[aq,hn,if_true]) h2).1 h3;exact aP.later hlat h4
    ·have hmi:aC os1 m=true:=by
      rw[←gk.same m];have:=hheld.bz m;cases hx:aH (bM (.loop (rec .ready none)) osb) m with
      |none=>rw[hx] at this;exact absurd this hm
      |some x=>simp[aC,hx]
     have:=gk.lD m hmi;exact ⟨Nat.le_trans hn6 this,this⟩
   have hsp:=aL.B1 cps.toList vs2 (item k) tsR _ hsr (fun p hp=>by rw[hcr];have:=Y5.1 hpn p hp;simpa using this) hrvs (by have:=hsz;simpa using this.symm);have htm:(cps.zip vs2.toArray).foldl (fun t (q:Tmp×Value)=>t.setIfInBounds q.1 q.2) a.tmps=(cps.toList.zip vs2).foldl (fun t q=>t.setIfInBounds q.1 q.2) a.tmps:=by
    rw[←Array.foldl_toList];simp
   have hx:=hround k osb hkN hIk w2 D2 E2 l (.loop (rec .ready none)) (.loop { rec .ready none with state:=.busy });rw[←hcr] at hx;have hx1:=hx cx (by rw[hcr];exact hcx) _ w2 ⟨D2,E2,hsp⟩;rw[hFr] at hx1;simp only[←htm] at hx1;rw[hcr] at hx1;refine wpIn_mono hx1 ?_;rintro e ax wx ⟨B,hq,hsx⟩;rw[←hcr] at hq hsx;cases e <;>simp only[cQ] at hq <;>try exact hq.elim
   simp only[Exit.then];obtain ⟨hB1,hB2⟩:=hq;obtain ⟨Dx,Ex,hsx⟩:=hsx;have hElx:Ex 1999999=some (.op l):=by
    have ho:=hsx.bz 1999999;rw[hB1] at ho;rcases hsx.uN (n:=1999999) (by rw[hcr];exact hEl2) rfl with h | h
    ·exact absurd h (pQ ho)
    ·exact h
   have hLx:wx.heap[l]?=some (.loop (rec .ready none)):=by
    have ho:=hsx.bz 1999999;rw[hB1] at ho;obtain ⟨b,k1,_,k3,_⟩:=ho;rw[hElx] at k1;cases k1;exact k3
   refine ⟨_,run_beginRound hLx (by rw[hrec]),?_⟩;have hsb:=hsx.wk (o':=.loop { rec .ready none with state:=.busy }) hB1 hElx rfl;have hy1:=hB2 cy (by rw[hcr];exact hcy) _ _ ⟨Dx,Ex,hsb⟩;rw[hFr] at hy1;rw[hcr] at hy1;refine wpIn_mono hy1 ?_;rintro e a3 w3 ⟨A3,hq3,D3,E3,hs3⟩;rw[←hcr] at hs3
   -- the end of the round
   have aZ:∀ (os:List (Nat×ai)) (jump:Option Code),oF (.loop { rec .ready none with state:=.busy }) A3 os→(post' (.bool jump.isNone) (bM (.loop (rec (if jump.isNone then .ready else .done) jump)) os)) →
     ∃ v w',(Instr.endRound l jump).run c.P w3=.ok v w'∧(fun e w'=>∃ v D' E' r os',e=Ending.returned v∧post' r os'∧aP w' D' E' r v∧iR (fun b=>w2.heap.size≤b∨bQ E2 b) w' D' E' (aH os') ∧
      er (fun b=>w2.heap.size≤b∨bQ E2 b) w2 w'∧(∀ b o,D2 b o→D' b o)∧(∀ b o,D' b o→b<w'.heap.size)∧(∀ b o,D' b o→b<w2.heap.size→¬ bQ E2 b→D2 b o) ∧
      (∀ n e,E2 n=some e→aC os' n=true→∃ e',E' n=some e'∧e.fo e')∧fM w2 D2 w') (.returned v) w':=fun os jump hbk hp=>by
    have hA3:A3.o 1999999=some (.db (.loop { rec .ready none with state:=.busy })):=(hbk 1999999 _ (by rw[nY,if_pos rfl])).1;have hEl3:E3 1999999=some (.op l):=by
     have ho:=hs3.bz 1999999;rw[hA3] at ho;rcases hs3.uN (n:=1999999) (by rw[hcr];exact hEl2) rfl with h | h
     ·exact absurd h (pQ ho)
     ·exact h
    have hL3:w3.heap[l]?=some (.loop { rec .ready none with state:=.busy }):=by
     have ho:=hs3.bz 1999999;rw[hA3] at ho;obtain ⟨b,k1,_,k3,_⟩:=ho;rw[hEl3] at k1;cases k1;exact k3
    have hend:=run_endRound (P:=c.P) jump hL3;have erec:({ rec .ready none with state:=if jump.isNone then LoopState.ready else .done,pending:=jump } : Loop)=rec (if jump.isNone then .ready else .done) jump:=by rw[hrec]
    have hend':(Instr.endRound l jump).run c.P w3=.ok (.bool jump.isNone) (w3.putObj l (.loop (rec (if jump.isNone then .ready else .done) jump))):=by
     rw[hend];rw[hrec]
    have hs4:=hs3.wk (o':=.loop (rec (if jump.isNone then .ready else .done) jump)) hA3 hEl3 rfl;rw[hcr] at hs4;obtain ⟨D',E',_,_,_,q1,q2,q3,q4,q5,q6⟩:=hs4.vd (T6 hbk _);exact ⟨_,_,hend',_,D',E',.bool jump.isNone,_,rfl,hp,⟨[.bool jump.isNone],by simp[aW,I.isAgg],by simp[ae]⟩,q1,q2,q3,q4,q5,q6⟩
   cases e with
   |normal =>
    obtain ⟨os,hbk,hin⟩:=hq3;exact aZ os none hbk (hpost _ _ (.inl ⟨rfl,by rw[hJ'];exact ⟨os,rfl,hin⟩⟩))
   |ret =>
    obtain ⟨os,hbk,hin⟩:=hq3;exact aZ os (some .ret) hbk (hpost _ _ (.inr ⟨rfl,by rw[hIx'];exact ⟨none,os,rfl,hin⟩⟩))
   |exit id =>
    obtain ⟨os,hbk,hin⟩:=hq3;exact aZ os (some (.exit id)) hbk (hpost _ _ (.inr ⟨rfl,by rw[hIx'];exact ⟨some id,os,rfl,hin⟩⟩))
   |goto t=>exact hq3.elim
   |panic ch=>exact hq3.elim
   |outgrown=>exact hq3.elim
  -- the call
  have hargs:dY (aP W1 D E1) (.raw yv::caps0) (yv::vs):=by
   exact .cons ⟨[yv],by simp[aW,I.isAgg],by rw[hyv];exact ⟨rfl,rfl⟩⟩ (oo (hup caps0 vs hvs))
  have hus:=hand.use (ρ:=ρ) hs1 false (fun h=>h.mono) ⟨(fun h=>by cases h),fun _=>by rw[←hDh,←hEh];exact hyok⟩ hgv1 (FV hc0 fun x hx=>⟨je (fun n hn=>by rw[hos1,jw,hn];simp) _ (hcp x hx).1,(hcp x hx).2⟩)
   (fun r os' hp=>by
    have gg:ff os1 os':=by
     rcases hp.2 with h | h
     ·exact jt _ _ h
     ·exact goodx _ h
    refine ⟨fun m x hx=>⟨(gg.ok m x hx).1,(gg.ok m x hx).2,fun h=>by cases h⟩,fun m m' h1 h2=>hgv1.inj m m' (by rw[←gg.same];exact h1) (by rw[←gg.same];exact h2),fun m hm=>by rw[gg.same];exact hm,fun m h1 h2=>(by rw[gg.same,h2] at h1;cases h1),(by rw[hp.1];simp[I.only,I.cH]),fun h=>by cases h⟩) hargs
  have ecl : #[yv]++vs.toArray=(yv::vs).toArray:=by simp
  rw[ecl];refine CallsIn.mono (callsIn_wide.2 hus) ?_;rintro e w3 ⟨v,r,os',D2,E2,rfl,hp,hs2,_,hE2⟩;have key:∀ (o3:Obj) (osb:List (Nat×ai)),os'=bM o3 osb→nS o3=true→E2 999999=some (.op l)∧w3.heap[l]?=some o3∧∀ o4,nS o4=true→bA c (aw ts (cY ρ osb++os0)) a1 (w3.putObj l o4):=fun o3 osb he h3=>by
   subst he;have hn2:E2 999999=some (.op l):=by
    obtain ⟨e',h1,h2⟩:=hE2 1999999 (.op l) (by rw[←hEh];exact hEl) (by rw[jw];simp);rw[hρ] at h1;rw[h1,h2.eq rfl]
   have eos:cY ρ (bM o3 osb)=(999999,.db o3)::cY ρ osb:=by simp only[bM,cY,Z4,hρ,ai.aR]
   rw[eos] at hs2;have ha:(aw ts ((999999,ai.db o3)::cY ρ osb++(999999,.db (.loop (rec .ready none)))::os0)).o 999999=some (.db o3):=by simp[aw,aH]
   have hgb:∀ m,aC osb m=true→bo ρ m≠999999:=fun m hm e=>by
    have h5:aC (bM o3 osb) m=true:=by rw[jw,hm];simp
    have g5:ff os1 (bM o3 osb):=by
     rcases hp.2 with h | h
     ·exact jt _ _ h
     ·exact goodx _ h
    have h6:=hgv1.inj m 1999999 (by rw[←g5.same];exact h5) isrec (by rw[hρ];exact e);subst h6;have h7:ff osb0 osb:=by
     rcases hp.2 with h | h
     ·rw[hI'] at h;obtain ⟨osb',h8,h9⟩:=h;simp only[bM,Y9] at h8;rw[h8.2];exact hI _ _ h9
     ·rw[hIx'] at h;obtain ⟨e,osb',h8,h9⟩:=h;simp only[bM,Y9] at h8;rw[h8.2];exact hIx _ _ h9
    rw[h7.same,h19] at hm;cases hm
   refine ⟨hn2,?_,fun o4 h4 =>?_⟩
   ·have ho:=hs2.bz 999999;rw[ha] at ho;obtain ⟨b,k1,_,k3,_⟩:=ho;rw[hn2] at k1;cases k1;exact k3
   ·have h5:=(hs2.wk (o':=o4) ha hn2 h4).KS hn2;have hst:(⟨((aw ts ((999999,ai.db o3)::cY ρ osb++(999999,.db (.loop (rec .ready none)))::os0)).aO 999999 (.db o4)).t,fun m=>if m=999999 then none else
      ((aw ts ((999999,ai.db o3)::cY ρ osb++(999999,.db (.loop (rec .ready none)))::os0)).aO 999999 (.db o4)).o m⟩:ab)=aw ts (cY ρ osb++os0):=by
     simp only[aw,ab.aO]
     congr 1
     funext m
     by_cases hm:m=999999
     ·subst hm;simp only[if_true,r5];cases hq:pre ρ osb 999999 with
      |none=>exact hfree.symm
      |some k=>exact absurd (kS hq).2 (hgb k (kS hq).1)
     ·simp only[if_neg hm,Y2,aH,r5]
    rw[hst] at h5;exact ⟨D2,_,h5⟩
  rcases hp.2 with h | h
  ·rw[hI'] at h;obtain ⟨osb,he,hin⟩:=h;obtain ⟨k1,k2,k3⟩:=key _ osb he rfl;refine ⟨none,_,(by have:=run_endLoop (P:=c.P) k2 (by rw[hrec];simp);rw[hrec] at this;exact this),_,hdone osb hin,?_⟩;have:=k3 (.loop { rec .ready none with state:=.exhausted }) rfl;rw[ha1] at this;rw[hrec] at this;exact this
  ·rw[hIx'] at h;obtain ⟨e,osb,he,hin⟩:=h;obtain ⟨k1,k2,k3⟩:=key _ osb he rfl;refine ⟨some (rT e),_,(by have:=run_endLoop (P:=c.P) k2 (by rw[hrec];simp);rw[hrec] at this;exact this),?_⟩;have:=k3 (.loop { rec .done (some (rT e)) with state:=.exhausted }) rfl;rw[ha1] at this;rw[hrec] at this;have hq:rZ c Q (uB e) { a with defers := { target:=.collected w.heap.size,args := #[] } :: a.defers } _:=⟨_,hexit e osb hin,this⟩
   cases e with
   |none=>exact wpIn_ret hq
   |some id=>exact wpIn_exit hq
end
end Go.Abs
namespace Go.Proofs.YtoffnnjbplgnaaaGreatDoor
open Go Go.Abs
open Go.Abs.Enc (enc)
theorem Xr{out:List ah}{s:Int}{z:Nat}{x:List UInt8}{av:List (List UInt8)}(h:dn bf s x=none):e8 (dn bf) da out s z (x::av)=(out,z):=by rw[e8,h]
theorem Xs{out:List ah}{s:Int}{z:Nat}{x:List UInt8}{av:List (List UInt8)}{q:ah×Int}(h:dn bf s x=some q):e8 (dn bf) da out s z (x::av)=if da out q.1=true then e8 (dn bf) da (out++[q.1]) q.2 (z+x.length) av else (out,z):=by rw[e8,h]
structure oM (t:List UInt8) (k:Nat) (out:List ah) (s:Int) (z:Nat):Prop where
 eq:e8 (dn bf) da [] 1 0 (dm t)=e8 (dn bf) da out s z ((dm t).drop k)
 sum:0≤s∧s<1000003
 ok:∀ r∈out,bf r=true
 len:out.length≤60
 size:z+(fq k t).length=t.length
structure qF (t:List UInt8) (out:List ah) (z:Nat):Prop where
 eq:e8 (dn bf) da [] 1 0 (dm t)=(out,z)
 len:out.length≤60
 size:z≤t.length
theorem WV{t:List UInt8}{k:Nat}(hk:k<(dm t).length):∃ w v,dk 10 (fq k t)=some (w,v)∧(dm t)[k]=w++[10]∧fq (k+1) t=v∧fq k t=w++10::v:=by
 have hrd:=vU (Nat.le_of_lt hk);cases h:dk 10 (fq k t) with
 |none=>rw[vg h] at hrd;have:=congrArg List.length hrd;simp at this;omega
 |some p =>
  obtain ⟨w,v⟩:=p;refine ⟨w,v,rfl,?_,vV h,(ri h).1⟩;rw[r2 h,List.drop_eq_getElem_cons hk] at hrd;exact (List.cons.inj hrd).1.symm
theorem BV(t:List UInt8):oM t 0 [] 1 0:=⟨rfl,by omega,by simp,by simp,by simp[fq]⟩
theorem Wo{t:List UInt8}{out:List ah}{s:Int}{z:Nat}(h:oM t (dm t).length out s z):qF t out z :=
 ⟨by rw[h.eq,List.drop_length,e8],h.len,by have:=h.size;omega⟩
theorem zW{t:List UInt8}{out:List ah}{z:Nat}(h:qF t out z):fX bf da t=(out,t.take z):=by rw[fX,h.eq]
theorem Vf{out:List ah}{r:ah}(h:da out r=true):out.length<60:=by
 simp only[da,Z0,decide_eq_true_eq] at h;exact h.1
theorem oI(t:List UInt8)(ht:t.length≤281474976710656):aQ Tryz.prog 15 [enc (ak.of t)] (.tuple [enc (fX bf da t).1,enc (ak.of (fX bf da t).2)]):=by
 refine aQ.bN Tryz.func15 GS H2 Jh (t8 rfl) (fun hwf W0 bH E1 =>?_);simp only[xX,Ck,bD];clear hwf;have h69:=E7 t;have R:=y6 @qq (y6 @bl aE)
 repeat' ((first |(with_reducible refine .guard (fun hb =>?_) (fun hb =>?_) <;>try simp only[hb])|refine U.aI (by decide +kernel) rfl fun K hK =>?_|(refine .aF [0,2,3,4,5,6,7,8,9,10,12,13,28] hK ?_;clear hK K)|(with_reducible refine .done (hK _ ?_);clear hK K)|refine U.of rfl ?_|(with_reducible refine ay.aG (fun h =>?_) (fun h =>?_) <;>try simp only[h])) <;>try simp only[aJ,R,simprocAttr])
 all_goals clear R
 refine .bz false [] [] [enc (ak.of t)] _ rfl h69 ⟨fun m y hy=>by simp[aH] at hy,fun m m' h=>by simp[aC,aH] at h⟩ ⟨.inl ⟨(iG _ _).symm,bG _ _,eY _⟩,trivial⟩ ?_ ?_
 ·rintro r os' ⟨rfl,rfl⟩;refine ⟨fun m y hy =>?_,fun m m' _ _ h=>h,fun m hm=>by simp[aC,aH] at hm,fun m hm _ =>?_,⟨rfl,fun h=>by cases h⟩⟩
  ·simp only[aH] at hy;split at hy
   ·cases hy;exact ⟨bG _ _,rfl,fun h=>by cases h⟩
   ·cases hy
  ·simp only[aC,aH] at hm;split at hm
   ·rename_i e;subst e;exact ⟨rfl,by decide⟩
   ·simp at hm
 rintro r os' ⟨rfl,rfl⟩
 try simp only[cY,Z4,zz0,ai.aR,iG,bo,I.aR,I.cT,Y2,zz2,ba,simprocAttr]
 refine .done (hK _ ?_);clear hK K;refine U.sub (bx.Fy 4 80 50 8 8 [] _ rfl rfl rfl (B:=aw [(0,enc (ak.of t)),(4,.ptr 4 []),(5,.ptr 5 []),(6,.ptr 6 []),(12,.func 122 [.ptr 1 []])] [(4,.box (.own 80 0)),(80,.bE 50 8 []),(1,.box (enc (ak.of t))),(5,.box (.int .i64 1)),(6,.box (.int .i64 0))]) ?_) ?_
 ·simp only[fD];refine bx.cJ ?_ ?_ ?_ ?_ <;>simp[cg,cq,cn,bP,aC,cd,ev,I.only,I.cH,ai.only,bG]
 refine U.block (U.W9 (osb0:=dA t [] 1 0) (tsR:=[(4,.ptr 1000004 []),(5,.ptr 1000005 []),(6,.ptr 1000006 [])]) (ρ:=[(1999999,999999),(1000001,1),(1000004,4),(1000080,80),(1000005,5),(1000006,6)]) (g:=122) (caps0:=[.ptr 1 []]) (caps:=[.ptr 1000001 []]) (N:=(dm t).length) (item:=nT t)
  (rQ t (oM t)) (rR t (oM t)) (pA (qF t)) ⟨rfl,rfl⟩ (t8 rfl) (by simp only[ba,simprocAttr]) (by simp[I.aR,bo]) ?_ yN (UL ht (BV t)) (fun _=>rfl) rfl rfl rfl (fun o=>⟨?_,?_⟩) ?_ ?_ ?_ ?_ ?_ ?_ ?_)
 ·intro x hx;simp only[zy2] at hx;subst hx;exact ⟨rfl,rfl⟩
 ·intro n x hx;simp only[bM,dA,aH] at hx
  repeat' split at hx
  all_goals first | (cases hx;done) | (subst_vars;simp only[v6] at hx;subst hx;simp[bM,dA,aC,bo,aH,ai.aR,I.aR,I.cT,iG,ai.only,I.only,I.cH,bG,ai.eh])
 ·intro a b ha hb;simp only[bM,dA,aC,aH] at ha hb
  repeat' split at ha
  all_goals first | (simp at ha;done) | skip
  all_goals (repeat' split at hb)
  all_goals first | (simp at hb;done) | (subst_vars;simp[bo])
 ·simp[lS,cd,I.aR,bo,I.only,dA,aC,aH]
 ·rintro k os ⟨out,s,z,rfl,_⟩;exact nd ..
 ·rintro e os ⟨_,u,out,s,z,rfl,_⟩;exact nd ..
 ·exact ⟨[],1,0,rfl,BV t⟩
 ·rintro k osb hk ⟨out,s,z,rfl,hP⟩ W1 D1 E1 Yb o1 o2;obtain ⟨w,v,hcut,hL,hnext,hrest⟩:=WV hk;have ju:nT t k=[enc (ak.of (w++[10]))]:=by
   rw[nT,Y7,Y4 hk,Option.getD_some,hL]
  have hdrop:(dm t).drop k=(w++[10])::(dm t).drop (k+1):=by rw[List.drop_eq_getElem_cons hk,hL]
  have hsz:=hP.size;rw[hrest] at hsz;have hll:(w++[10]).length+v.length=(w++10::v).length:=by simp;omega
  generalize hx:w++[10]=line at ju hdrop hll;have hlen:z+line.length+v.length=t.length:=by omega
  have h70:=w9 hP.sum (t:=line) (by omega);have hlt:=mW line;have hwz:IntKind.i64.wrap ((z:Int)+(line.length:Int))=((z+line.length:Nat):Int):=by rw[dU _ (by omega) (by omega)];rfl
  have hfo:jX out.length (some (.bE 50 8 (out.map enc)))=some (enc out):=pn 8 rfl rfl;have hpe:=hP.eq;rw[hdrop] at hpe;generalize hu:fq k t=u at *;rw[ju];simp only[sE,bM,dA];have R:=y6 @bl aE
  repeat' ((first |(with_reducible refine .guard (fun hb =>?_) (fun hb =>?_) <;>try simp only[hb])|refine U.aI (by decide +kernel) rfl fun K hK =>?_|(refine .aF [0,2,3,4,5,6,7,8,9,10,12,13,28] hK ?_;clear hK K)|(with_reducible refine .done (hK _ ?_);clear hK K)|refine U.of rfl ?_|(with_reducible refine ay.aG (fun h =>?_) (fun h =>?_) <;>try simp only[h])) <;>try simp only[aJ,R,simprocAttr])
  all_goals clear R
  refine ⟨by simp[],?_⟩;have stop:e8 (dn bf) da [] 1 0 (dm t)=(out,z)→∀ ts z1 z2 z3,Dm o2 (rR t (oM t) k) (pA (qF t)) (.exit 0)
    (aw ts ([(8,z1),(8,z2),(1999999,.db o2),(1999999,z3)]++dA u out s z)):=fun h ts z1 z2 z3=>by
   refine ⟨dA u out s z,?_,rfl,u,out,s,z,rfl,h,hP.len,by omega⟩;intro n x hx;simp only[bM,dA,aH] at hx
   (repeat' split at hx) <;>first
    |(cases hx;done)
    |(subst_vars;simp only[v6] at hx;subst hx;simp[bM,dA,aC,aw,aH,ai.only,I.only,bG,ai.eh,pU])
  cases hq:dn bf s line with
  |none =>
   rw[gJ,hq,km] at h70;rw[Xr hq] at hpe;have R:=y6 @fj (y6 @eU (y6 @bl aE))
   repeat' ((first |(with_reducible refine .guard (fun hb =>?_) (fun hb =>?_) <;>try simp only[hb])|refine U.aI (by decide +kernel) rfl fun K hK =>?_|refine .lead _ (h70) ?_|(refine .aF [0,2,3,4,5,6,7,8,9,10,12,13,28] hK ?_;clear hK K)|(with_reducible refine .done (hK _ ?_);clear hK K)|refine U.of rfl ?_|(with_reducible refine ay.aG (fun h =>?_) (fun h =>?_) <;>try simp only[h])) <;>try simp only[aJ,R,simprocAttr])
   all_goals clear R
   exact stop hpe _ _ _ _
  |some q =>
   obtain ⟨r,n⟩:=q;obtain ⟨hok,_,hns⟩:=C5 bf hq;simp only at hok hns;rw[gJ,hq,km] at h70;rw[Xs hq] at hpe;simp only at hpe;have h71:=xa out r (by have:=hP.len;omega) (fun q hq=>od (hP.ok q hq)) (od hok);cases hn:da out r
   ·rw[hn] at h71 hpe;rw[if_neg (by decide)] at hpe;have R:=y6 @hfo (y6 @fj (y6 @eU (y6 @bl aE)))
    repeat' ((first |(with_reducible refine .guard (fun hb =>?_) (fun hb =>?_) <;>try simp only[hb])|refine U.aI (by decide +kernel) rfl fun K hK =>?_|refine .lead _ (h70) ?_|refine .flat _ (h71) rfl ?_|(refine .aF [0,2,3,4,5,6,7,8,9,10,12,13,28] hK ?_;clear hK K)|(with_reducible refine .done (hK _ ?_);clear hK K)|refine U.of rfl ?_|(with_reducible refine ay.aG (fun h =>?_) (fun h =>?_) <;>try simp only[h])) <;>try simp only[aJ,R,simprocAttr])
    all_goals clear R
    exact stop hpe _ _ _ _
   ·have hol:=Vf hn;rw[hn] at h71 hpe;rw[if_pos rfl] at hpe;have stOwn:∀ (A:ab) n b m k m' k' rest,dT A none n [] b (.own m k) rest (some (.own m' k'))=al rest (A.aO n (.box (.own m k))) :=
     fun _ _ _ m k m' k' _=>by rw[eK (s:=none) (v:=.own m k) (old:=.own m' k') rfl rfl rfl,fD]
    have hbs:gh 8 (some [enc r])=some (enc [r]):=oZ 8 r rfl;have hap:=fun (A:ab) d rest=>xn (A:=A) (d:=d) 50 8 72 1000080 (l:=out.length) (es:=out) (ys:=[r]) (rest:=rest) rfl rfl (by simp) (by simp[maxLen];omega) (by simp;omega);have R:=y6 @hfo (y6 @hbs (y6 @hap (y6 @stOwn (y6 @hlt (y6 @hwz (y6 @fj (y6 @eU (y6 @qq (y6 @bl aE)))))))))
    repeat' ((first |(with_reducible refine .guard (fun hb =>?_) (fun hb =>?_) <;>try simp only[hb])|refine U.aI (by decide +kernel) rfl fun K hK =>?_|refine .lead _ (h70) ?_|refine .flat _ (h71) rfl ?_|(refine .aF [0,2,3,4,5,6,7,8,9,10,12,13,28] hK ?_;clear hK K)|(with_reducible refine .done (hK _ ?_);clear hK K)|refine U.of rfl ?_|(with_reducible refine ay.aG (fun h =>?_) (fun h =>?_) <;>try simp only[h])) <;>try simp only[aJ,R,simprocAttr])
    all_goals clear R
    refine ⟨dA u (out++[r]) n (z+line.length),?_,out++[r],n,z+line.length,by rw[hu],⟨hpe,?_,?_,?_,?_⟩⟩
    ·intro n x hx;simp only[bM,dA,aH] at hx
     (repeat' split at hx) <;>first
      |(cases hx;done)
      |(subst_vars;simp only[v6] at hx;subst hx;simp[bM,dA,aC,aw,aH,ai.only,I.only,bG,ai.eh,pU,-List.map_append])
    ·rw[hns];exact jM hP.sum _
    ·intro q hq;rcases Y8.1 hq with h1 | h1
     ·exact hP.ok q h1
     ·rw[zy2.1 h1];exact hok
    ·simp;omega
    ·rw[hnext];exact hlen
 ·rintro os ⟨out,s,z,rfl,hP⟩;have hF:=Wo hP;have hfo:jX out.length (some (.bE 50 8 (out.map enc)))=some (enc out):=pn 8 rfl rfl;have hsh:=mX (ak.of t) (j:=z) (by rw[ak.de];exact hF.size);rw[ak.de] at hsh;rw[zW hF];simp only[dA,cY,Z4,zz0,bo,ai.aR,I.aR,iG,mP,cQ,kF,reduceIte,Nat.reduceEqDiff,Y2,zz2];have R:=y6 @hfo (y6 @hsh (y6 @bl aE))
  repeat' ((first |(with_reducible refine .guard (fun hb =>?_) (fun hb =>?_) <;>try simp only[hb])|refine U.aI (by decide +kernel) rfl fun K hK =>?_|(refine .aF [0,2,3,4,5,6,7,8,9,10,12,13,28] hK ?_;clear hK K)|(with_reducible refine .done (hK _ ?_);clear hK K)|refine U.of rfl ?_|(with_reducible refine ay.aG (fun h =>?_) (fun h =>?_) <;>try simp only[h])) <;>try simp only[aJ,R,simprocAttr])
  all_goals clear R
  all_goals rfl
 ·rintro e os ⟨rfl,u,out,s,z,rfl,hF⟩;have hfo:jX out.length (some (.bE 50 8 (out.map enc)))=some (enc out):=pn 8 rfl rfl;have hsh:=mX (ak.of t) (j:=z) (by rw[ak.de];exact hF.size);rw[ak.de] at hsh;rw[zW hF];simp only[dA,cY,Z4,zz0,bo,ai.aR,I.aR,iG,mP,uB,cQ,kF,reduceIte,Nat.reduceEqDiff,Y2,zz2];have R:=y6 @hfo (y6 @hsh (y6 @bl aE))
  repeat' ((first |(with_reducible refine .guard (fun hb =>?_) (fun hb =>?_) <;>try simp only[hb])|refine U.aI (by decide +kernel) rfl fun K hK =>?_|(refine .aF [0,2,3,4,5,6,7,8,9,10,12,13,28] hK ?_;clear hK K)|(with_reducible refine .done (hK _ ?_);clear hK K)|refine U.of rfl ?_|(with_reducible refine ay.aG (fun h =>?_) (fun h =>?_) <;>try simp only[h])) <;>try simp only[aJ,R,simprocAttr])
  all_goals clear R
  all_goals rfl
end Go.Proofs.YtoffnnjbplgnaaaGreatDoor
