/-
  A part of the proof that the law MarchValid returns true for every input; three tables of Go's library start as the text lays them (the card ties them); conditions: none beyond the statement's own. (part 4 of 6)
-/
import Derived.SizedLaws
import Derived.WalkKit
import Derived.Tactics
import Derived.Tactics2
import Derived.RecoverIn
import Derived.Test.YthbdbocionnfgaaGreatDoorRows
import Derived.Test.YthbdbocionnfgaaGreatDoorCards
import Derived.Test.YthbdbocionnfgaaGreatDoorTie
import Derived.LaidMore
import Derived.MakeChecks
import Derived.Lib.LaidTab
import Derived.Lib.LaidU8
import Derived.Test.YthbdbocionnfgaaGreatDoorNfc
set_option linter.unusedSimpArgs false
set_option linter.unusedVariables false
set_option maxHeartbeats 16000000
set_option maxRecDepth 100000
namespace Go.Abs
open Go Go.RowKit Go.ChangeShapes
open Enc (enc)
def qD(P:Program)(t:TypeId)(l:List (TypeId×Nat)):Bool:=match P.underlying t with
 |some (.struct fs)=>fs.toList.map (fun f=>(f.type,f.offset))==l
 |_=>false
def BV(P:Program)(t:TypeId)(n:Nat)(e:TypeId):Bool:=match P.underlying t with
 |some (.array n' e')=>n'==n&&e'==e
 |_=>false
theorem Vl{P:Program}{t:TypeId}{n:Nat}{e:TypeId}(h:BV P t n e=true):P.underlying t=some (.array n e):=by
 unfold BV at h;split at h
 ·rename_i n' e' ht;simp only[t8,beq_iff_eq] at h;rw[ht,h.1,h.2]
 ·cases h
theorem Vp{P:Program}{t:TypeId}{l:List (TypeId×Nat)}(h:qD P t l=true):∃ fs,P.underlying t=some (.struct fs)∧fs.toList.map (fun f=>(f.type,f.offset))=l:=by
 unfold qD at h;split at h
 ·rename_i fs ht;exact ⟨fs,ht,by simpa using h⟩
 ·cases h
theorem Ff{H:Type}{enc0:TypeId×Value→H}{P:Program}{w:World}{fuel:Nat}{t:TypeId}{l:List (TypeId×Nat)}{cs:List Value}{x:DataW H×List MemPlace}(ht:qD P t l=true)(h:DataW.trod enc0 P w 0 (fun _=>true) true fuel t cs=some x) :
  cs.length=P.cellsOf t∧∃ m:Nat,∀ (i:Nat) (u:TypeId) (o:Nat),l[i]?=some (u,o)→∃ y,DataW.trod enc0 P w 0 (fun _=>true) true m u ((cs.drop o).take (P.cellsOf u))=some y:=by
 obtain ⟨fs,J,U⟩:=Vp ht;obtain ⟨xs,m,_,_,ah,ar,h5⟩:=DataW.trod_struct J h;refine ⟨ah,m,fun i u o hi =>?_⟩;rw[←U] at hi;simp only[zz3,t7,Prod.mk.injEq] at hi;obtain ⟨f,hf,rfl,rfl⟩:=hi;have hf':fs[i]?=some f:=by simpa using hf
 have h6:=h5 i f hf';have hlt:i<fs.size:=(Y4.1 hf').1;rw[Y7 (by omega)] at h6;exact ⟨_,h6⟩
section
variable {P:Program} {t:TypeId} {α β γ:Type} [Enc α] [Enc β] [Enc γ] {H:Type} {enc0:TypeId×Value→H} {w:World} {fuel:Nat} {cs:List Value} {x:DataW H×List MemPlace}
theorem CW{u0 u1 u2:TypeId}(ht:qD P t [(u0,0),(u1,Enc.sz α),(u2,Enc.sz α+Enc.sz β)]=true)(aW:iy P u0 α)(J:iy P u1 β)(U:iy P u2 γ)(hc:P.cellsOf t=Enc.sz α+Enc.sz β+Enc.sz γ)(h:DataW.trod enc0 P w 0 (fun _=>true) true fuel t cs=some x) :
  ∃ (a:α) (b:β) (c:γ),al w (lB w) c4 (.agg [enc a,enc b,enc c]) cs:=by
 obtain ⟨ao,m,hf⟩:=Ff ht h;obtain ⟨y0,k0⟩:=hf 0 u0 0 rfl;obtain ⟨y1,k1⟩:=hf 1 u1 (Enc.sz α) rfl;obtain ⟨y2,k2⟩:=hf 2 u2 (Enc.sz α+Enc.sz β) rfl;obtain ⟨a,ha⟩:=aW.pE k0;obtain ⟨b,hb⟩:=J.pE k1;obtain ⟨c,hcc⟩:=U.pE k2;rw[aW.cells,List.drop_zero] at ha;rw[J.cells] at hb;rw[U.cells,List.take_of_length_le (by rw[List.length_drop];omega)] at hcc;refine ⟨a,b,c,?_⟩;simp only[al,aM];refine ⟨_,_,(zy8 (Enc.sz α) cs).symm,ha,(cs.drop (Enc.sz α)).take (Enc.sz β),(cs.drop (Enc.sz α)).drop (Enc.sz β),(zy8 _ _).symm,hb,(cs.drop (Enc.sz α)).drop (Enc.sz β),[],by simp,?_,rfl⟩;rw[List.drop_drop];exact hcc
theorem wT{fo:Nat}{v:Value}{d:DataW H}{p:List MemPlace}(ho:iy P t α)(hA:Enc.gH α=true)(hst:(match P.underlying t with | some (.struct _) | some (.array _ _)=>true | _=>false)=true)(hv:Value.okWide P w .any fo t v)
  (h:DataW.Trod enc0 P w 0 (fun _=>true) true t v d p):∃ (a:α) (cs:List Value),bA (enc a) v cs∧al w (lB w) c4 (enc a) cs:=by
 obtain ⟨fuel,h⟩:=h;have hagg:∃ cs,v=.agg cs:=by
  unfold Value.okWide at hv;split at hst
  ·rename_i fs ht;rw[ht] at hv;obtain ⟨cs,J,_⟩:=hv;exact ⟨cs,J⟩
  ·rename_i n e ht;rw[ht] at hv;obtain ⟨cs,J,_⟩:=hv;exact ⟨cs,J⟩
  ·cases hst
 obtain ⟨cs,rfl⟩:=hagg;have e:(Value.agg cs).cells.toList=cs.toList:=rfl;rw[e] at h;obtain ⟨a,ha⟩:=ho.pE h;exact ⟨a,cs.toList,by simp[bA,Enc.agg,hA],ha⟩
end
theorem Xv{H:Type}{enc0:TypeId×Value→H}{P:Program}{f:Func}{s:ChangeSpec}{apart ke handsOn again:Bool}{W W':World}{args:Array Value}{v:Value}{ds gs:List (DataW H)}{before pa pv:List MemPlace}
  (hW:DataW.Whole enc0 P f.params.toList s.vars apart W args.toList ds gs before)
  (hres:∀ (b:Nat) (sp:Nat→Bool) (af:Bool),DataW.TrodAll enc0 P W' b sp af f.resultTypes.toList (v.resultList f.resultTypes.size) (s.fn H (ds++gs)).results [])
  (hargs:∀ sp:Nat→Bool,(∀ p∈before,sp p.block=true)→DataW.TrodAll enc0 P W' 0 sp true f.params.toList args.toList (s.fn H (ds++gs)).args pa)
  (hvars:∀ sp:Nat→Bool,(∀ p∈before,sp p.block=true)→DataW.TrodVars enc0 P W' sp s.vars (s.fn H (ds++gs)).vars pv)
  (hps:before=pa++pv) (hb:Below W.heap.size W W')
  (hok:∀ (j:Nat) (t:TypeId) (r:Value),f.resultTypes[j]?=some t→(v.resultList f.resultTypes.size)[j]?=some r→Value.okWide P W' .any 0 t r) :
  s.post enc0 P f apart ke handsOn again W args v W':=by
 have hlt:∀ p∈before,p.block<W.heap.size:=fun p hp=>by simpa using hW.lt p hp
 have hold:∀ p∈before,(fun b=>decide (b<W.heap.size)) p.block=true:=fun p hp=>by simpa using hlt p hp
 refine ⟨ds,gs,before,[],pa,pv,hW,hres _ _ _,hargs _ hold,hvars _ hold,World.keptBut_mono (fun p hp=>⟨hp,?_⟩) (hb.frame (· ∈ before)),fun _ =>?_⟩
 ·rw[hps,zy0] at hp;exact Or.inr hp
 ·obtain ⟨_,_,_,_,_,hz,hn⟩:=hW;refine ⟨hok,_,_,([]++pa)++pv,⟨[]++pa,pv,trodAll_append (hargs _ (fun _ _=>rfl)) (hres _ _ _),hvars _ (fun _ _=>rfl),rfl,?_,?_⟩,?_⟩
  ·intro b off hp;have hp':MemPlace.cell b off∈before:=by rw[hps];simpa using hp
   rw[hb.frozen (p:=⟨b,off,none⟩) (hlt _ hp')];exact hz b off hp'
  ·intro ha;have:=hn ha;rw[hps] at this;simpa using this
  ·intro p hp _;rw[hps];simpa using hp
theorem VL{P:Program}{f:FuncId}{fn:Func}{s:ChangeSpec}{H:Type}{enc0:TypeId×Value→H}{W:World}{ds gs:List (DataW H)}{before:List MemPlace}{xs:List I}{tb:TypeId}{v0 v1 v2:Value}{t0 t1 t2:TypeId}{d0 d1 d2:DataW H}{fx p1 p2:List MemPlace}{again handsOn ke:Bool}
  (ao:laidOutB P=true) (hpar:fn.params.toList=[t0,t1,t2]) (hds:ds=[d0,d1,d2]) (hgs:gs=[]) (hbef:before=fx++p1++p2)
  (hvars:s.vars=[]) (hfn:s.fn H [d0,d1,d2] = { results:=[.lit (.bool true)],args:=[d0,d1,d2] }) (hres:fn.resultTypes = #[tb]) (htb:P.underlying tb=some .bool)
  (hW:DataW.Whole enc0 P fn.params.toList s.vars false W #[v0,v1,v2].toList ds gs before)
  (aW:DataW.Trod enc0 P W 0 (fun _=>true) true t0 v0 d0 fx) (J:DataW.Trod enc0 P W 0 (fun _=>true) true t1 v1 d1 p1) (U:DataW.Trod enc0 P W 0 (fun _=>true) true t2 v2 d2 p2)
  (hr:∀ t∈[t0,t1,t2],P.readableRec t=true∧t<P.types.size)
  (hctr:bf P f xs (enc true)) (hlaid:gL P W (fun _=>False)) (hv:aF W (lB W) c4 xs [v0,v1,v2]) :
  Calls P f #[v0,v1,v2] W fun e W'=>∃ v,e=.returned v∧s.post enc0 P fn false ke handsOn again W #[v0,v1,v2] v W':=by
 subst hds hgs;refine (hctr.2 W (lB W) [v0,v1,v2] hlaid (fun _ _ h=>h) hv).mono fun e W' ⟨v,D',he,hrv,hb,_,_⟩=>⟨v,he,?_⟩
 have hvb:v=.bool true:=kq hrv;subst hvb;have hlt:∀ x∈before,x.block<W.heap.size:=fun x hx=>by simpa using hW.lt x hx
 rw[hbef] at hlt;refine Xv (pa:=fx++(p1++p2)) (pv:=[]) hW (fun _ _ _ =>?_) (fun sp hsp =>?_) (fun _ _ =>?_) (by rw[hbef];simp) hb ?_
 ·simp only[List.append_nil,hfn,hres];exact trodAll_mk1 (shut_bool htb true)
 ·simp only[List.append_nil,hfn,hpar];rw[hbef] at hsp;have a8:∀ {t:TypeId} {v:Value} {d:DataW H} {p:List MemPlace},t∈[t0,t1,t2]→DataW.Trod enc0 P W 0 (fun _=>true) true t v d p→(∀ x∈p,x∈fx++p1++p2)→DataW.Trod enc0 P W' 0 sp true t v d p:=fun ht h hp =>
   WideElems.Trod_stays ao (hr _ ht).1 (hr _ ht).2 h (fun x hx=>hb.same (hlt x (hp x hx))) (fun x hx=>hsp x (hp x hx))
  exact trodAll_mk3 (a8 (by simp) aW fun x hx=>by simp[hx]) (a8 (by simp) J fun x hx=>by simp[hx]) (a8 (by simp) U fun x hx=>by simp[hx])
 ·simp only[List.append_nil,hfn,hvars];rfl
 ·intro j t r hj hv';rw[hres] at hj hv'
  match j,hj,hv' with
  |0,hj,hv' =>
   simp[Value.resultList] at hj hv';subst hj;subst hv';simp[Value.okWide,htb,Cell.okWide,Cell.ok]
def x9(P:Program)(u:TypeId)(n:Nat)(S:I→Prop):Prop:=P.cellsOf u=n ∧
 ∀ {H:Type} {enc0:TypeId×Value→H} {w:World} {fuel:Nat} {cs:List Value} {x:DataW H×List MemPlace},DataW.trod enc0 P w 0 (fun _=>true) true fuel u cs=some x→∃ v,S v∧al w (lB w) c4 v cs
theorem iy.aS{P:Program}{u:TypeId}{α:Type}[Enc α](h:iy P u α):x9 P u (Enc.sz α) fun v=>∃ a:α,v=enc a :=
 ⟨h.cells,fun hx=>by obtain ⟨a,ha⟩:=h.pE hx;exact ⟨enc a,⟨a,rfl⟩,ha⟩⟩
def pD(P:Program):Nat→List (TypeId×Nat)→List (Nat×(I→Prop))→Prop
 |_,[],[]=>True
 |o,(u,off)::l,(n,S)::Ss=>off=o∧x9 P u n S∧pD P (o+n) l Ss
 |_,_,_=>False
def oJ:List (Nat×(I→Prop))→List I→Prop
 | [],[]=>True
 |(_,S)::Ss,v::vs=>S v∧oJ Ss vs
 |_,_=>False
theorem lC{n:Nat}{S:I→Prop}{Ss:List (Nat×(I→Prop))} : ∀ {vs:List I},oJ ((n,S)::Ss) vs→∃ v vs',vs=v::vs'∧S v∧oJ Ss vs'
 | [],h=>h.elim
 |v::vs,h=>⟨v,vs,rfl,h.1,h.2⟩
theorem yh:∀ {vs:List I},oJ [] vs→vs=[]
 | [],_=>rfl
 |_::_,h=>h.elim
def rL:List (Nat×(I→Prop))→Nat
 | []=>0
 |(n,_)::Ss=>n+rL Ss
theorem AP{P:Program}{H:Type}{enc0:TypeId×Value→H}{w:World}{m:Nat}{cs:List Value} : ∀ (l:List (TypeId×Nat)) (Ss:List (Nat×(I→Prop))) (o:Nat),pD P o l Ss→cs.length=o+rL Ss →
  (∀ (i:Nat) (u:TypeId) (off:Nat),l[i]?=some (u,off)→∃ y,DataW.trod enc0 P w 0 (fun _=>true) true m u ((cs.drop off).take (P.cellsOf u))=some y)→∃ vs,oJ Ss vs∧aM w (lB w) c4 vs (cs.drop o)
 | [],[],o,_,ao,_=>⟨[],trivial,by simp only[aM];exact List.drop_eq_nil_of_le (by simp only[rL] at ao;omega)⟩
 |(u,off)::l,(n,S)::Ss,o,h,ao,hf=>by
  obtain ⟨rfl,U,ah⟩:=h;obtain ⟨y,hy⟩:=hf 0 u off rfl;obtain ⟨v,hv1,hv2⟩:=U.2 hy;obtain ⟨vs,k1,k2⟩:=AP l Ss (off+n) ah (by simp only[rL] at ao;omega) fun i u' o' hi=>hf (i+1) u' o' hi;refine ⟨v::vs,⟨hv1,k1⟩,?_⟩;simp only[aM];rw[U.1] at hv2;exact ⟨_,(cs.drop off).drop n,(zy8 n _).symm,hv2,by rw[List.drop_drop];exact k2⟩
 | [],_::_,_,h,_,_=>h.elim
 |_::_,[],_,h,_,_=>by simp[pD] at h
theorem CV{P:Program}{t:TypeId}{H:Type}{enc0:TypeId×Value→H}{w:World}{fuel:Nat}{cs:List Value}{x:DataW H×List MemPlace}(l:List (TypeId×Nat))(Ss:List (Nat×(I→Prop)))(ht:qD P t l=true)(hok:pD P 0 l Ss)(hc:P.cellsOf t=rL Ss)(h:DataW.trod enc0 P w 0 (fun _=>true) true fuel t cs=some x) :
  ∃ vs,oJ Ss vs∧al w (lB w) c4 (.agg vs) cs:=by
 obtain ⟨ao,m,hf⟩:=Ff ht h;obtain ⟨vs,k1,k2⟩:=AP l Ss 0 hok (by rw[ao,hc];omega) hf;exact ⟨vs,k1,by simpa only[al,List.drop_zero] using k2⟩
end Go.Abs
namespace Go.Proofs.YthbdbocionnfgaaGreatDoor
open Go Go.Abs
open Go.Abs.Enc (enc)
structure bg where
 kind:Int
 aD:Int
 other:Int
 no:Int
 deriving DecidableEq,Inhabited
instance:Enc bg where
 enc g:=.agg [.int .i64 g.kind,.int .i64 g.aD,.int .i64 g.other,.int .i64 g.no]
 sz:=4
 aX:=.eG [.one,.one,.one,.one]
 gH:=true
 done g:=by simp only[I.done,I.hl,Bool.and_self]
 size g:=by simp only[I.size,I.sizes]
 iu g:=by simp only[I.aX,I.cX]
 agg _:=rfl
structure dv where
 kind:Int
 dc:Int
 to:Int
 aD:Int
 no:Int
 deriving DecidableEq,Inhabited
instance:Enc dv where
 enc g:=.agg [.int .i64 g.kind,.int .i64 g.dc,.int .i64 g.to,.int .i64 g.aD,.int .i64 g.no]
 sz:=5
 aX:=.eG [.one,.one,.one,.one,.one]
 gH:=true
 done g:=by simp only[I.done,I.hl,Bool.and_self]
 size g:=by simp only[I.size,I.sizes]
 iu g:=by simp only[I.aX,I.cX]
 agg _:=rfl
structure dh where
 no:Int
 to:Int
 aD:Int
 c9:Bool
 deriving DecidableEq,Inhabited
instance:Enc dh where
 enc g:=.agg [.int .i64 g.no,.int .i64 g.to,.int .i64 g.aD,.bool g.c9]
 sz:=4
 aX:=.eG [.one,.one,.one,.one]
 gH:=true
 done g:=by simp only[I.done,I.hl,Bool.and_self]
 size g:=by simp only[I.size,I.sizes]
 iu g:=by simp only[I.aX,I.cX]
 agg _:=rfl
theorem jV{fs:List I}{f off:Nat}{v:I}(J:f<fs.length)(h:I.sizes (fs.take f)=off):dm fs f off v=some v:=by simp[dm,h,J]
theorem Fu :
  (∀ g:bg,(enc g).dJ=some [.int .i64 g.kind,.int .i64 g.aD,.int .i64 g.other,.int .i64 g.no])∧(∀ g:dv,(enc g).dJ=some [.int .i64 g.kind,.int .i64 g.dc,.int .i64 g.to,.int .i64 g.aD,.int .i64 g.no]) ∧
  (∀ g:dh,(enc g).dJ=some [.int .i64 g.no,.int .i64 g.to,.int .i64 g.aD,.bool g.c9]) ∧
  (∀ (a b c d:I) v,(a.size=1∧b.size=1∧c.size=1)→dm [a,b,c,d] 0 0 v=some v) ∧
  (∀ (g:bg),b7 (some 4) (enc g)=true)∧(∀ (g:dv),b7 (some 5) (enc g)=true)∧(∀ (g:dh),b7 (some 4) (enc g)=true) ∧
  (∀ (fs:List I) x,(x::fs)[0]?=some x)∧(∀ (fs:List I) x n,(x::fs)[n+1]?=fs[n]?)∧(∀ (fs:List I) x,(x::fs)[1]?=fs[0]?)∧(∀ (fs:List I) x,(x::fs)[2]?=fs[1]?)∧(∀ (fs:List I) x,(x::fs)[3]?=fs[2]?)∧(∀ (fs:List I) x,(x::fs)[4]?=fs[3]?) :=
 ⟨fun _=>rfl,fun _=>rfl,fun _=>rfl,fun a b c d v h=>jV (by simp) (by simp[I.sizes]),fun _=>by rw[fq];rfl,fun _=>by rw[fq];rfl,fun _=>by rw[fq];rfl,fun _ _=>rfl,fun _ _ _=>rfl,fun _ _=>rfl,fun _ _=>rfl,fun _ _=>rfl,fun _ _=>rfl⟩
theorem CJ:(∀ (a b c d:Int) v,dm [.int .i64 a,.int .i64 b,.int .i64 c,.int .i64 d] 0 0 v=some v)∧(∀ (a b c d:Int) v,dm [.int .i64 a,.int .i64 b,.int .i64 c,.int .i64 d] 1 1 v=some v)∧(∀ (a b c d:Int) v,dm [.int .i64 a,.int .i64 b,.int .i64 c,.int .i64 d] 2 2 v=some v)∧(∀ (a b c d:Int) v,dm [.int .i64 a,.int .i64 b,.int .i64 c,.int .i64 d] 3 3 v=some v) ∧
  (∀ (a b c d e:Int) v,dm [.int .i64 a,.int .i64 b,.int .i64 c,.int .i64 d,.int .i64 e] 0 0 v=some v)∧(∀ (a b c d e:Int) v,dm [.int .i64 a,.int .i64 b,.int .i64 c,.int .i64 d,.int .i64 e] 1 1 v=some v)∧(∀ (a b c d e:Int) v,dm [.int .i64 a,.int .i64 b,.int .i64 c,.int .i64 d,.int .i64 e] 2 2 v=some v)∧(∀ (a b c d e:Int) v,dm [.int .i64 a,.int .i64 b,.int .i64 c,.int .i64 d,.int .i64 e] 3 3 v=some v)∧(∀ (a b c d e:Int) v,dm [.int .i64 a,.int .i64 b,.int .i64 c,.int .i64 d,.int .i64 e] 4 4 v=some v) ∧
  (∀ (a b c:Int) (d:Bool) v,dm [.int .i64 a,.int .i64 b,.int .i64 c,.bool d] 0 0 v=some v)∧(∀ (a b c:Int) (d:Bool) v,dm [.int .i64 a,.int .i64 b,.int .i64 c,.bool d] 1 1 v=some v)∧(∀ (a b c:Int) (d:Bool) v,dm [.int .i64 a,.int .i64 b,.int .i64 c,.bool d] 2 2 v=some v)∧(∀ (a b c:Int) (d:Bool) v,dm [.int .i64 a,.int .i64 b,.int .i64 c,.bool d] 3 3 v=some v) :=
 ⟨fun _ _ _ _ _=>rfl,fun _ _ _ _ _=>rfl,fun _ _ _ _ _=>rfl,fun _ _ _ _ _=>rfl,fun _ _ _ _ _ _=>rfl,fun _ _ _ _ _ _=>rfl,fun _ _ _ _ _ _=>rfl,fun _ _ _ _ _ _=>rfl,fun _ _ _ _ _ _=>rfl,fun _ _ _ _ _=>rfl,fun _ _ _ _ _=>rfl,fun _ _ _ _ _=>rfl,fun _ _ _ _ _=>rfl⟩
theorem aH:(type_of% @Fu)∧(type_of% @CJ)∧(∀ {α:Type} [Enc α] (aN:Bool) (A:ai) (x:α),bh aN A (enc x)=some (enc x))∧(∀ {α:Type} [Enc α] (x:α),(enc x).bU=true)∧(type_of% @mJ)∧(type_of% @Ct)∧(type_of% @Al)∧(type_of% @kv)∧(type_of% @bG) :=
 ⟨Fu,CJ,@lI,@ev,mJ,Ct,Al,kv,bG⟩
def cG(lo hi n:Int):Bool:=decide (lo≤n)&&decide (n≤hi)
theorem oE(n lo hi:Int):bf Tryz.prog 105 [enc n,enc lo,enc hi] (enc (cG lo hi n)):=by
 refine bf.b9 Tryz.func105 HW I3 J5 (u8 rfl) (fun hwf W0 bH E1 =>?_);simp only[yF,Dg,bN,Z1,Nat.reduceAdd];have R:=y6 @kv @bG
 repeat' ((first |(with_reducible refine .guard (fun hb =>?_) (fun hb =>?_) <;>try simp only[hb])|refine ae.aJ (by decide +kernel) rfl fun K hK =>?_|(refine .aA [0,1,2,6] hK ?_;clear hK K)|(with_reducible refine .done (hK _ ?_);clear hK K)|refine ae.of rfl ?_|(with_reducible refine aC.aI (fun h =>?_) (fun h =>?_) <;>try simp only[h])) <;>try simp only[aK,R,simprocAttr])
 all_goals clear R
 all_goals (simp at *;simp_all[cG])
 all_goals omega
theorem ml(n:Int):bf Tryz.prog 61 [enc n] (enc (cG 0 5 n)):=by
 refine bf.b9 Tryz.func61 Iz Jx KJ (u8 rfl) (fun hwf W0 bH E1 =>?_);simp only[zf,DX,bN];have R:=y6 @kv @bG
 repeat' ((first |refine ae.aJ (by decide +kernel) rfl fun K hK =>?_|refine .flat _ (oE n 0 5) rfl ?_|(refine .aA [0,2] hK ?_;clear hK K)|(with_reducible refine .done (hK _ ?_);clear hK K)|refine ae.of rfl ?_|(with_reducible refine aC.aI (fun h =>?_) (fun h =>?_) <;>try simp only[h])) <;>try simp only[aK,R,simprocAttr])
 all_goals clear R
theorem oG(n:Int):bf Tryz.prog 71 [enc n] (enc (cG 1 9999 n)):=by
 refine bf.b9 Tryz.func71 II JG KS (u8 rfl) (fun hwf W0 bH E1 =>?_);simp only[zo,Ea,bN];have R:=y6 @kv @bG
 repeat' ((first |refine ae.aJ (by decide +kernel) rfl fun K hK =>?_|refine .flat _ (oE n 1 9999) rfl ?_|(refine .aA [0,2] hK ?_;clear hK K)|(with_reducible refine .done (hK _ ?_);clear hK K)|refine ae.of rfl ?_|(with_reducible refine aC.aI (fun h =>?_) (fun h =>?_) <;>try simp only[h])) <;>try simp only[aK,R,simprocAttr])
 all_goals clear R
theorem x5(n:Int):bf Tryz.prog 90 [enc n] (enc (cG 1 200 n)):=by
 refine bf.b9 Tryz.func90 IU JP K9 (u8 rfl) (fun hwf W0 bH E1 =>?_);simp only[zA,Ek,bN];have R:=y6 @kv @bG
 repeat' ((first |refine ae.aJ (by decide +kernel) rfl fun K hK =>?_|refine .flat _ (oE n 1 200) rfl ?_|(refine .aA [0,2] hK ?_;clear hK K)|(with_reducible refine .done (hK _ ?_);clear hK K)|refine ae.of rfl ?_|(with_reducible refine aC.aI (fun h =>?_) (fun h =>?_) <;>try simp only[h])) <;>try simp only[aK,R,simprocAttr])
 all_goals clear R
theorem r2(n lo hi:Int):bf Tryz.prog 68 [enc n,enc lo,enc hi] (enc (cG lo hi n)):=by
 refine bf.b9 Tryz.func68 IF JD KP (u8 rfl) (fun hwf W0 bH E1 =>?_);simp only[zl,D7,bN,Z1,Nat.reduceAdd];have R:=y6 @kv @bG
 repeat' ((first |(with_reducible refine .guard (fun hb =>?_) (fun hb =>?_) <;>try simp only[hb])|refine ae.aJ (by decide +kernel) rfl fun K hK =>?_|(refine .aA [0,1,2,6] hK ?_;clear hK K)|(with_reducible refine .done (hK _ ?_);clear hK K)|refine ae.of rfl ?_|(with_reducible refine aC.aI (fun h =>?_) (fun h =>?_) <;>try simp only[h])) <;>try simp only[aK,R,simprocAttr])
 all_goals clear R
 all_goals (simp at *;simp_all[cG])
 all_goals omega
theorem xZ(n:Int):bf Tryz.prog 64 [enc n] (enc (cG 0 5 n)):=by
 refine bf.b9 Tryz.func64 IB Jz KL (u8 rfl) (fun hwf W0 bH E1 =>?_);simp only[zh,DZ,bN];have R:=y6 @kv @bG
 repeat' ((first |refine ae.aJ (by decide +kernel) rfl fun K hK =>?_|refine .flat _ (r2 n 0 5) rfl ?_|(refine .aA [0,2] hK ?_;clear hK K)|(with_reducible refine .done (hK _ ?_);clear hK K)|refine ae.of rfl ?_|(with_reducible refine aC.aI (fun h =>?_) (fun h =>?_) <;>try simp only[h])) <;>try simp only[aK,R,simprocAttr])
 all_goals clear R
theorem Gi(n:Int):bf Tryz.prog 67 [enc n] (enc (cG 1 9999 n)):=by
 refine bf.b9 Tryz.func67 IE JC KO (u8 rfl) (fun hwf W0 bH E1 =>?_);simp only[zk,D6,bN];have R:=y6 @kv @bG
 repeat' ((first |refine ae.aJ (by decide +kernel) rfl fun K hK =>?_|refine .flat _ (r2 n 1 9999) rfl ?_|(refine .aA [0,2] hK ?_;clear hK K)|(with_reducible refine .done (hK _ ?_);clear hK K)|refine ae.of rfl ?_|(with_reducible refine aC.aI (fun h =>?_) (fun h =>?_) <;>try simp only[h])) <;>try simp only[aK,R,simprocAttr])
 all_goals clear R
def eJ(x:bg):Bool :=
 if x.kind=1∨x.kind=2 then cG 1 9999 x.aD&&(x.other==0&&x.no==0)
 else if 3≤x.kind∧x.kind≤8 then cG 1 9999 x.aD&&(cG 0 5 x.other&&cG 1 200 x.no)
 else false
theorem Gh(x:bg):bf Tryz.prog 66 [enc x] (enc (eJ x)):=by
 refine bf.b9 Tryz.func66 ID JB KN (u8 rfl) (fun hwf W0 bH E1 =>?_);simp only[zj,D5,bN];have R:=aH
 repeat' ((first |(with_reducible refine .guard (fun hb =>?_) (fun hb =>?_) <;>try simp only[hb])|refine ae.aJ (by decide +kernel) rfl fun K hK =>?_|refine .flat _ (oG x.aD) rfl ?_|refine .flat _ (ml x.other) rfl ?_|refine .flat _ (x5 x.no) rfl ?_|(refine .aA [0,1,2,4,5,21] hK ?_;clear hK K)|(with_reducible refine .done (hK _ ?_);clear hK K)|refine ae.of rfl ?_|(with_reducible refine aC.aI (fun h =>?_) (fun h =>?_) <;>try simp only[h])) <;>try simp only[aK,R,simprocAttr])
 all_goals clear R
 all_goals (simp_all[eJ])
 all_goals (intros;exfalso;omega)
theorem F2(x:bg):bf Tryz.prog 22 [enc x] (enc (if eJ x then (0:Int) else 1)):=by
 refine bf.b9 Tryz.func22 Ij Jj Ku (u8 rfl) (fun hwf W0 bH E1 =>?_);simp only[yV,DJ,bN];have R:=aH
 repeat' ((first |(with_reducible refine .guard (fun hb =>?_) (fun hb =>?_) <;>try simp only[hb])|refine ae.aJ (by decide +kernel) rfl fun K hK =>?_|refine .flat _ (Gi x.aD) rfl ?_|refine .flat _ (xZ x.other) rfl ?_|refine .flat _ (r2 x.no 1 200) rfl ?_|(refine .aA [0,1,2,4,5,20,21,40] hK ?_;clear hK K)|(with_reducible refine .done (hK _ ?_);clear hK K)|refine ae.of rfl ?_|(with_reducible refine aC.aI (fun h =>?_) (fun h =>?_) <;>try simp only[h])) <;>try simp only[aK,R,simprocAttr])
 all_goals clear R
 all_goals (simp_all[eJ])
 all_goals (intros;exfalso;omega)
def nU(r:dv):Bool:=cG 1 4 r.kind&&(cG 0 5 r.dc&&(cG 0 5 r.to&&((r.dc != r.to)&&(cG 1 9999 r.aD&&cG 1 200 r.no))))
theorem Gk(r:dv):bf Tryz.prog 70 [enc r] (enc (nU r)):=by
 refine bf.b9 Tryz.func70 IH JF KR (u8 rfl) (fun hwf W0 bH E1 =>?_);simp only[zn,D9,bN];have R:=aH
 repeat' ((first |(with_reducible refine .guard (fun hb =>?_) (fun hb =>?_) <;>try simp only[hb])|refine ae.aJ (by decide +kernel) rfl fun K hK =>?_|refine .flat _ (oE r.kind 1 4) rfl ?_|refine .flat _ (ml r.dc) rfl ?_|refine .flat _ (ml r.to) rfl ?_|refine .flat _ (oG r.aD) rfl ?_|refine .flat _ (x5 r.no) rfl ?_|(refine .aA [0,1,2] hK ?_;clear hK K)|(with_reducible refine .done (hK _ ?_);clear hK K)|refine ae.of rfl ?_|(with_reducible refine aC.aI (fun h =>?_) (fun h =>?_) <;>try simp only[h])) <;>try simp only[aK,R,simprocAttr])
 all_goals clear R
 all_goals (simp_all[nU])
theorem gX{i n:Nat}(h:i<n):decide ((i:Int)<(n:Int))=true:=by simp;omega
theorem hP{i n:Nat}(h:¬ i<n):decide ((i:Int)<(n:Int))=false:=by simp;omega
theorem gK{i:Nat}(h:i<9223372036854775807):IntKind.i64.wrap ((i:Int)+1)=((i+1:Nat):Int):=by rw[jG _ (by omega) (by omega)];rfl
theorem GC(x y:bg):x=y↔x.kind=y.kind∧x.aD=y.aD∧x.other=y.other∧x.no=y.no:=by cases x;cases y;simp
theorem GG(x y:dv):x=y↔x.kind=y.kind∧x.dc=y.dc∧x.to=y.to∧x.aD=y.aD∧x.no=y.no:=by cases x;cases y;simp
theorem GI(x y:dh):x=y↔x.no=y.no∧x.to=y.to∧x.aD=y.aD∧x.c9=y.c9:=by cases x;cases y;simp
theorem AB(x y:bg):bZ (.a8 [.i .i64,.i .i64,.i .i64,.i .i64]) (enc x) (enc y)=some (decide (x=y)):=by
 show bZ (.a8 [.i .i64,.i .i64,.i .i64,.i .i64]) (.agg [.int .i64 x.kind,.int .i64 x.aD,.int .i64 x.other,.int .i64 x.no]) (.agg [.int .i64 y.kind,.int .i64 y.aD,.int .i64 y.other,.int .i64 y.no])=_
 simp[bZ,hJ,iX,GC];rfl
theorem AD(x y:dv):bZ (.a8 [.i .i64,.i .i64,.i .i64,.i .i64,.i .i64]) (enc x) (enc y)=some (decide (x=y)):=by
 show bZ (.a8 [.i .i64,.i .i64,.i .i64,.i .i64,.i .i64]) (.agg [.int .i64 x.kind,.int .i64 x.dc,.int .i64 x.to,.int .i64 x.aD,.int .i64 x.no]) (.agg [.int .i64 y.kind,.int .i64 y.dc,.int .i64 y.to,.int .i64 y.aD,.int .i64 y.no])=_
 simp[bZ,hJ,iX,GG];rfl
theorem Mj(x y:dh):bZ (.a8 [.i .i64,.i .i64,.i .i64,.b]) (enc x) (enc y)=some (decide (x=y)):=by
 show bZ (.a8 [.i .i64,.i .i64,.i .i64,.b]) (.agg [.int .i64 x.no,.int .i64 x.to,.int .i64 x.aD,.bool x.c9]) (.agg [.int .i64 y.no,.int .i64 y.to,.int .i64 y.aD,.bool y.c9])=_
 simp[bZ,hJ,iX,GI];rfl
theorem We(x y:Int):(x != y) = !decide (x=y):=by by_cases h:x=y <;>simp[h]
theorem F7(a b:List Int):bf Tryz.prog 41 [enc a,enc b] (enc (decide (a=b))):=by
 refine bf.b9 Tryz.func41 It Js KE (u8 rfl) (fun hwf W0 bH E1 =>?_);simp only[za,DS,bN,Z1];have hlen:a.length≤maxLen:=((nj a).1 hwf.1).1;simp only[maxLen] at hlen;clear hwf;by_cases ao:a.length=b.length
 case neg =>
  have hn:((a.length:Int) != (b.length:Int))=true:=by simp;omega
  have R:=y6 @hn aH
  repeat' ((first |refine ae.aJ (by decide +kernel) rfl fun K hK =>?_|(refine .aA [0,1,4,5,10,12,13,14,24] hK ?_;clear hK K)|(with_reducible refine .done (hK _ ?_);clear hK K)|refine ae.of rfl ?_|(with_reducible refine aC.aI (fun h =>?_) (fun h =>?_) <;>try simp only[h])) <;>try simp only[aK,R,simprocAttr])
  all_goals clear R
  have:¬ a=b:=fun e=>ao (by rw[e]);simp[this]
 have hn:((a.length:Int) != (b.length:Int))=false:=by simp;omega
 have R:=y6 @hn aH
 repeat' ((first |refine ae.aJ (by decide +kernel) rfl fun K hK =>?_|(refine .aA [0,1,4,5,10,12,13,14,24] hK ?_;clear hK K)|(with_reducible refine .done (hK _ ?_);clear hK K)|refine ae.of rfl ?_|(with_reducible refine aC.aI (fun h =>?_) (fun h =>?_) <;>try simp only[h])) <;>try simp only[aK,R,simprocAttr])
 all_goals clear R
 refine ae.loop (fun i:Nat=>au [(0,enc a),(1,enc b),(12,.int .i64 a.length),(13,.int .i64 i)] []) (fun i=>i≤a.length∧∀ k,k<i→a[k]?=b[k]?) (fun i=>a.length-i) 0 ⟨zx1 _,fun k h=>by omega⟩ ?_ (fun i hi =>?_)
 ·refine bB.dF ?_ ?_ ?_ ?_ <;>simp[cC,dq,cO,cR,cz,I.only,cJ]
 obtain ⟨hi1,hi2⟩:=hi;by_cases hlt:i<a.length
 ·have hc:=gX hlt;have he:=fun A=>fb (A:=A) 1 hlt rfl;have hlt2:i<b.length:=by omega
  have he2:=fun A=>fb (A:=A) 1 hlt2 rfl;have hw:=gK (i:=i) (by omega);have hq:=We a[i] b[i];rcases hp:decide (a[i]=b[i])
  ·rw[hp] at hq;have R:=y6 @hc (y6 @he (y6 @he2 (y6 @hq aH)))
   repeat' ((first |refine ae.aJ (by decide +kernel) rfl fun K hK =>?_|(refine .aA [0,1,4,5,10,12,13,14,24] hK ?_;clear hK K)|(with_reducible refine .done (hK _ ?_);clear hK K)|refine ae.of rfl ?_|(with_reducible refine aC.aI (fun h =>?_) (fun h =>?_) <;>try simp only[h])) <;>try simp only[aK,R,simprocAttr])
   all_goals clear R
   have:¬ a=b:=fun e=>by subst e;simp at hp
   simp[this]
  ·rw[hp] at hq;have R:=y6 @hc (y6 @he (y6 @he2 (y6 @hq (y6 @hw aH))))
   repeat' ((first |refine ae.aJ (by decide +kernel) rfl fun K hK =>?_|(refine .aA [0,1,4,5,10,12,13,14,24] hK ?_;clear hK K)|(with_reducible refine .done (hK _ ?_);clear hK K)|refine ae.of rfl ?_|(with_reducible refine aC.aI (fun h =>?_) (fun h =>?_) <;>try simp only[h])) <;>try simp only[aK,R,simprocAttr])
   all_goals clear R
   refine ⟨i+1,⟨by omega,fun k hk =>?_⟩,by omega,?_⟩
   ·by_cases e:k=i
    ·subst e;have:a[k]=b[k]:=by simpa using hp
     simp[hlt,hlt2,this]
    ·exact hi2 k (by omega)
   ·refine bB.dF ?_ ?_ ?_ ?_ <;>simp[cC,dq,cO,cR,cz,I.only,cJ]
 ·have hc:=hP hlt;have R:=y6 @hc aH
  repeat' ((first |refine ae.aJ (by decide +kernel) rfl fun K hK =>?_|(refine .aA [0,1,4,5,10,12,13,14,24] hK ?_;clear hK K)|(with_reducible refine .done (hK _ ?_);clear hK K)|refine ae.of rfl ?_|(with_reducible refine aC.aI (fun h =>?_) (fun h =>?_) <;>try simp only[h])) <;>try simp only[aK,R,simprocAttr])
  all_goals clear R
  have:a=b:=List.ext_getElem? fun k=>by
   by_cases hk:k<i
   ·exact hi2 k hk
   ·rw[zy9 (by omega),zy9 (by omega)]
  simp[this]
theorem F9(a b:List bg):bf Tryz.prog 52 [enc a,enc b] (enc (decide (a=b))):=by
 refine bf.b9 Tryz.func52 Iw Jv KH (u8 rfl) (fun hwf W0 bH E1 =>?_);simp only[zd,DV,bN,Z1];have hlen:a.length≤maxLen:=((nj a).1 hwf.1).1;simp only[maxLen] at hlen;clear hwf;by_cases ao:a.length=b.length
 case neg =>
  have hn:((a.length:Int) != (b.length:Int))=true:=by simp;omega
  have R:=y6 @hn aH
  repeat' ((first |refine ae.aJ (by decide +kernel) rfl fun K hK =>?_|(refine .aA [0,1,4,5,10,12,13,14,24] hK ?_;clear hK K)|(with_reducible refine .done (hK _ ?_);clear hK K)|refine ae.of rfl ?_|(with_reducible refine aC.aI (fun h =>?_) (fun h =>?_) <;>try simp only[h])) <;>try simp only[aK,R,simprocAttr])
  all_goals clear R
  have:¬ a=b:=fun e=>ao (by rw[e]);simp[this]
 have hn:((a.length:Int) != (b.length:Int))=false:=by simp;omega
 have R:=y6 @hn aH
 repeat' ((first |refine ae.aJ (by decide +kernel) rfl fun K hK =>?_|(refine .aA [0,1,4,5,10,12,13,14,24] hK ?_;clear hK K)|(with_reducible refine .done (hK _ ?_);clear hK K)|refine ae.of rfl ?_|(with_reducible refine aC.aI (fun h =>?_) (fun h =>?_) <;>try simp only[h])) <;>try simp only[aK,R,simprocAttr])
 all_goals clear R
 refine ae.loop (fun i:Nat=>au [(0,enc a),(1,enc b),(12,.int .i64 a.length),(13,.int .i64 i)] []) (fun i=>i≤a.length∧∀ k,k<i→a[k]?=b[k]?) (fun i=>a.length-i) 0 ⟨zx1 _,fun k h=>by omega⟩ ?_ (fun i hi =>?_)
 ·refine bB.dF ?_ ?_ ?_ ?_ <;>simp[cC,dq,cO,cR,cz,I.only,cJ]
 obtain ⟨hi1,hi2⟩:=hi;by_cases hlt:i<a.length
 ·have hc:=gX hlt;have he:=fun A=>fb (A:=A) 4 hlt rfl;have hlt2:i<b.length:=by omega
  have he2:=fun A=>fb (A:=A) 4 hlt2 rfl;have hw:=gK (i:=i) (by omega);have hq:=AB a[i] b[i];rcases hp:decide (a[i]=b[i])
  ·rw[hp] at hq;have R:=y6 @hc (y6 @he (y6 @he2 (y6 @hq aH)))
   repeat' ((first |refine ae.aJ (by decide +kernel) rfl fun K hK =>?_|(refine .aA [0,1,4,5,10,12,13,14,24] hK ?_;clear hK K)|(with_reducible refine .done (hK _ ?_);clear hK K)|refine ae.of rfl ?_|(with_reducible refine aC.aI (fun h =>?_) (fun h =>?_) <;>try simp only[h])) <;>try simp only[aK,R,simprocAttr])
   all_goals clear R
   have:¬ a=b:=fun e=>by subst e;simp at hp
   simp[this]
  ·rw[hp] at hq;have R:=y6 @hc (y6 @he (y6 @he2 (y6 @hq (y6 @hw aH))))
   repeat' ((first |refine ae.aJ (by decide +kernel) rfl fun K hK =>?_|(refine .aA [0,1,4,5,10,12,13,14,24] hK ?_;clear hK K)|(with_reducible refine .done (hK _ ?_);clear hK K)|refine ae.of rfl ?_|(with_reducible refine aC.aI (fun h =>?_) (fun h =>?_) <;>try simp only[h])) <;>try simp only[aK,R,simprocAttr])
   all_goals clear R
   refine ⟨i+1,⟨by omega,fun k hk =>?_⟩,by omega,?_⟩
   ·by_cases e:k=i
    ·subst e;have:a[k]=b[k]:=by simpa using hp
     simp[hlt,hlt2,this]
    ·exact hi2 k (by omega)
   ·refine bB.dF ?_ ?_ ?_ ?_ <;>simp[cC,dq,cO,cR,cz,I.only,cJ]
 ·have hc:=hP hlt;have R:=y6 @hc aH
  repeat' ((first |refine ae.aJ (by decide +kernel) rfl fun K hK =>?_|(refine .aA [0,1,4,5,10,12,13,14,24] hK ?_;clear hK K)|(with_reducible refine .done (hK _ ?_);clear hK K)|refine ae.of rfl ?_|(with_reducible refine aC.aI (fun h =>?_) (fun h =>?_) <;>try simp only[h])) <;>try simp only[aK,R,simprocAttr])
  all_goals clear R
  have:a=b:=List.ext_getElem? fun k=>by
   by_cases hk:k<i
   ·exact hi2 k hk
   ·rw[zy9 (by omega),zy9 (by omega)]
  simp[this]
theorem xT(a b:List dv):bf Tryz.prog 17 [enc a,enc b] (enc (decide (a=b))):=by
 refine bf.b9 Tryz.func17 Ig Jg Kr (u8 rfl) (fun hwf W0 bH E1 =>?_);simp only[yS,DG,bN,Z1];have hlen:a.length≤maxLen:=((nj a).1 hwf.1).1;simp only[maxLen] at hlen;clear hwf;by_cases ao:a.length=b.length
 case neg =>
  have hn:((a.length:Int) != (b.length:Int))=true:=by simp;omega
  have R:=y6 @hn aH
  repeat' ((first |refine ae.aJ (by decide +kernel) rfl fun K hK =>?_|(refine .aA [0,1,4,5,10,12,13,14,24] hK ?_;clear hK K)|(with_reducible refine .done (hK _ ?_);clear hK K)|refine ae.of rfl ?_|(with_reducible refine aC.aI (fun h =>?_) (fun h =>?_) <;>try simp only[h])) <;>try simp only[aK,R,simprocAttr])
  all_goals clear R
  have:¬ a=b:=fun e=>ao (by rw[e]);simp[this]
 have hn:((a.length:Int) != (b.length:Int))=false:=by simp;omega
 have R:=y6 @hn aH
 repeat' ((first |refine ae.aJ (by decide +kernel) rfl fun K hK =>?_|(refine .aA [0,1,4,5,10,12,13,14,24] hK ?_;clear hK K)|(with_reducible refine .done (hK _ ?_);clear hK K)|refine ae.of rfl ?_|(with_reducible refine aC.aI (fun h =>?_) (fun h =>?_) <;>try simp only[h])) <;>try simp only[aK,R,simprocAttr])
 all_goals clear R
 refine ae.loop (fun i:Nat=>au [(0,enc a),(1,enc b),(12,.int .i64 a.length),(13,.int .i64 i)] []) (fun i=>i≤a.length∧∀ k,k<i→a[k]?=b[k]?) (fun i=>a.length-i) 0 ⟨zx1 _,fun k h=>by omega⟩ ?_ (fun i hi =>?_)
 ·refine bB.dF ?_ ?_ ?_ ?_ <;>simp[cC,dq,cO,cR,cz,I.only,cJ]
 obtain ⟨hi1,hi2⟩:=hi;by_cases hlt:i<a.length
 ·have hc:=gX hlt;have he:=fun A=>fb (A:=A) 5 hlt rfl;have hlt2:i<b.length:=by omega
  have he2:=fun A=>fb (A:=A) 5 hlt2 rfl;have hw:=gK (i:=i) (by omega);have hq:=AD a[i] b[i];rcases hp:decide (a[i]=b[i])
  ·rw[hp] at hq;have R:=y6 @hc (y6 @he (y6 @he2 (y6 @hq aH)))
   repeat' ((first |refine ae.aJ (by decide +kernel) rfl fun K hK =>?_|(refine .aA [0,1,4,5,10,12,13,14,24] hK ?_;clear hK K)|(with_reducible refine .done (hK _ ?_);clear hK K)|refine ae.of rfl ?_|(with_reducible refine aC.aI (fun h =>?_) (fun h =>?_) <;>try simp only[h])) <;>try simp only[aK,R,simprocAttr])
   all_goals clear R
   have:¬ a=b:=fun e=>by subst e;simp at hp
   simp[this]
  ·rw[hp] at hq;have R:=y6 @hc (y6 @he (y6 @he2 (y6 @hq (y6 @hw aH))))
   repeat' ((first |refine ae.aJ (by decide +kernel) rfl fun K hK =>?_|(refine .aA [0,1,4,5,10,12,13,14,24] hK ?_;clear hK K)|(with_reducible refine .done (hK _ ?_);clear hK K)|refine ae.of rfl ?_|(with_reducible refine aC.aI (fun h =>?_) (fun h =>?_) <;>try simp only[h])) <;>try simp only[aK,R,simprocAttr])
   all_goals clear R
   refine ⟨i+1,⟨by omega,fun k hk =>?_⟩,by omega,?_⟩
   ·by_cases e:k=i
    ·subst e;have:a[k]=b[k]:=by simpa using hp
     simp[hlt,hlt2,this]
    ·exact hi2 k (by omega)
   ·refine bB.dF ?_ ?_ ?_ ?_ <;>simp[cC,dq,cO,cR,cz,I.only,cJ]
 ·have hc:=hP hlt;have R:=y6 @hc aH
  repeat' ((first |refine ae.aJ (by decide +kernel) rfl fun K hK =>?_|(refine .aA [0,1,4,5,10,12,13,14,24] hK ?_;clear hK K)|(with_reducible refine .done (hK _ ?_);clear hK K)|refine ae.of rfl ?_|(with_reducible refine aC.aI (fun h =>?_) (fun h =>?_) <;>try simp only[h])) <;>try simp only[aK,R,simprocAttr])
  all_goals clear R
  have:a=b:=List.ext_getElem? fun k=>by
   by_cases hk:k<i
   ·exact hi2 k hk
   ·rw[zy9 (by omega),zy9 (by omega)]
  simp[this]
structure bo where
 av:Int
 j:List bg
 cq:Int
 deriving DecidableEq,Inhabited
instance:Enc bo where
 enc g:=.agg [.int .i64 g.av,enc g.j,.int .i64 g.cq]
 sz:=3
 aX:=.eG [.one,.one,.one]
 gH:=true
 done g:=by simp only[I.done,I.hl,Enc.done,Bool.and_self]
 size g:=by simp only[I.size,I.sizes,kS,kd]
 iu g:=by simp only[I.aX,I.cX,eQ,nB]
 agg _:=rfl
theorem eL:(∀ g:bo,(enc g).dJ=some [.int .i64 g.av,enc g.j,.int .i64 g.cq])∧(∀ (a c:Int) (b:List bg) v,dm [.int .i64 a,enc b,.int .i64 c] 0 0 v=some v)∧(∀ (a c:Int) (b:List bg) v,dm [.int .i64 a,enc b,.int .i64 c] 1 1 v=some v)∧(∀ (a c:Int) (b:List bg) v,dm [.int .i64 a,enc b,.int .i64 c] 2 2 v=some v) ∧
  (∀ (g:bo),b7 (some 3) (enc g)=true)∧(∀ (g:List bg),b7 none (enc g)=true) :=
 ⟨fun _=>rfl,fun _ _ _ _=>jV (by simp) rfl,fun _ _ _ _=>jV (by simp) rfl,fun _ _ _ _=>jV (by simp) (by simp[I.sizes,I.size,kS,kd]),fun _=>by rw[fq];rfl,fun _=>by simp[kQ,kP]⟩
theorem GF(x y:bo):x=y↔x.av=y.av∧x.j=y.j∧x.cq=y.cq:=by cases x;cases y;simp
theorem F0(a b:bo):bf Tryz.prog 16 [enc a,enc b] (enc (decide (a=b))):=by
 refine bf.b9 Tryz.func16 If Jf Kq (u8 rfl) (fun hwf W0 bH E1 =>?_);simp only[yR,DF,bN,Z1];have R:=y6 @eL aH
 repeat' ((first |(with_reducible refine .guard (fun hb =>?_) (fun hb =>?_) <;>try simp only[hb])|refine ae.aJ (by decide +kernel) rfl fun K hK =>?_|refine .flat _ (F9 a.j b.j) rfl ?_|(refine .aA [0,1,2,3,4] hK ?_;clear hK K)|(with_reducible refine .done (hK _ ?_);clear hK K)|refine ae.of rfl ?_|(with_reducible refine aC.aI (fun h =>?_) (fun h =>?_) <;>try simp only[h])) <;>try simp only[aK,R,simprocAttr])
 all_goals clear R
 all_goals (simp_all[GF])
theorem HL(av:Int):(dO [.int .i64 0,.nils 4,.int .i64 0] [(0,.int .i64 av)]).map I.agg=some (I.agg [.int .i64 av,.nils 4,.int .i64 0]):=by
 simp[dO,I.bU,I.size]
theorem sn:(dO [.int .i64 0,.nils 4,.int .i64 0] []).map I.agg=some (I.agg [.int .i64 0,.nils 4,.int .i64 0]):=by
 simp[dO]
theorem tS(A:ai)(n:Nat)(b:I)(x y u v:Int)(rest:List aE):dp A (some 3) n [] b (.agg [.int .i64 x,.nils 4,.int .i64 y]) rest (some (.agg [.int .i64 u,.nils 4,.int .i64 v]))=az rest (A.aV n (.box (.agg [.int .i64 x,.nils 4,.int .i64 y]))):=dP rfl rfl rfl
def qT(av:Int):bo×Int:=if cG 0 5 av then (⟨av,[],0⟩,0) else (⟨0,[],0⟩,90)
theorem xU(av:Int):bf Tryz.prog 19 [enc av] (.tuple [enc (qT av).1,enc (qT av).2]):=by
 refine bf.b9 Tryz.func19 Ii Ji Kt (u8 rfl) (fun hwf W0 bH E1 =>?_);simp only[yU,DI,bN];have R:=y6 @eL (y6 @HL (y6 @sn (y6 @tS aH)))
 repeat' ((first |refine ae.aJ (by decide +kernel) rfl fun K hK =>?_|refine .flat _ (ml av) rfl ?_|(refine .aA [0,2,3,6] hK ?_;clear hK K)|(with_reducible refine .done (hK _ ?_);clear hK K)|refine ae.of rfl ?_|(with_reducible refine aC.aI (fun h =>?_) (fun h =>?_) <;>try simp only[h])) <;>try simp only[aK,R,simprocAttr])
 all_goals clear R
 all_goals (simp_all[qT];try rfl)
end Go.Proofs.YthbdbocionnfgaaGreatDoor
namespace Go.Abs
open Go Go.RowKit
open Enc (enc)
def wc:Option Nat→Code
 |none=>.ret
 |some id=>.exit id
def AL:Option Nat→Exit
 |none=>.ret
 |some id=>.exit id
def pU(o:Obj)(A:ai)(os:List (Nat×aq)):Prop:=∀ n x,aj (en o os) n=some x→A.o n=some x∧x.only (aw (en o os))=true∧x.eh=true
def EM(o:Obj)(In:List (Nat×aq)→Prop)(Ix:Option Nat→List (Nat×aq)→Prop):Exit→ai→Prop
 | .normal,A=>∃ os,pU o A os∧In os
 | .ret,A=>∃ os,pU o A os∧Ix none os
 | .exit id,A=>∃ os,pU o A os∧Ix (some id) os
 |_,_=>False
def GJ(P:Program)(nn:Nat)(x y:bx)(ps:List Nat)(tsR:List (Nat×I))(N:Nat)(item:Nat→List I)(bd:Nat→List (Nat×aq)→Prop)(Ix:Option Nat→List (Nat×aq)→Prop):Prop :=
 ∀ k osb,k<N→bd k osb→∀ (w:World) (D:aP) (E:aY) (l:Nat) (o1 o2:Obj),
  ae ⟨P,w,D,nn,cI E,E,dj,some l,none⟩ x (ef (fun B=>B.o 1999999=some (.dG o1)∧ae ⟨P,w,D,nn,cI E,E,dj,some l,none⟩ y (EM o2 (bd (k+1)) Ix) (B.aV 1999999 (.dG o2))) (fun _ _=>False)) (au (tx ps (item k) tsR) (en o1 osb))
section
variable {c:cV} {Q:Exit→ai→Prop}
theorem Vi{o:Obj}{A:ai}{os:List (Nat×aq)}(h:pU o A os)(o':Obj):∀ n x,aj (en o' os) n=some x→(A.aV 1999999 (.dG o')).o n=some x∧x.only (aw (en o' os))=true∧x.eh=true:=fun n x hx=>by
 have e:aw (en o' os)=aw (en o os):=by funext m;rw[kX,kX]
 rw[e];by_cases hn:n=1999999
 ·subst hn;rw[pt,if_pos rfl,v6] at hx;subst hx;exact ⟨by simp[ai.aV],rfl,rfl⟩
 ·rw[pt,if_neg hn] at hx;obtain ⟨J,U⟩:=h n x (by rw[pt,if_neg hn];exact hx);exact ⟨by simp only[ai.aV,if_neg hn];exact J,U⟩
theorem ae.l9{f:aO}{ps:List Nat}{x y:bx}{ts tsR:List (Nat×I)}{os0 osb0:List (Nat×aq)}{ρ:List (Nat×Nat)}{g:FuncId}{caps:List I}{N:Nat}{item:Nat→List I}
  (bd:Nat→List (Nat×aq)→Prop) (Ix:Option Nat→List (Nat×aq)→Prop) (hr0:c.j2=none∧c.fo=none) (hn6:c.n≤1000000)
  (hf:ak (au ts os0) f=.func g caps) (hcl:I.cg caps=true) (hcb:e8 c.P g=true) (hit:x8 c.P g caps N item) (hlen:∀ k,(item k).length=ps.length)
  (hfree:aj os0 999999=none) (h19:aw osb0 1999999=false) (hρ:bI ρ 1999999=999999)
  (hgv:∀ o,gn ρ (en o osb0) ((999999,.dG o)::os0)) (hts:na ρ (aw osb0) ts tsR)
  (hI:∀ k os,bd k os→eY osb0 os) (hIx:∀ e os,Ix e os→eY osb0 os) (aW:bd 0 osb0)
  (hround:GJ c.P c.n x y ps tsR N item bd Ix)
  (hdone:∀ os,bd N os→Q .normal (au ts (dB ρ os++os0))) (hexit:∀ e os,Ix e os→Q (AL e) (au ts (dB ρ os++os0))) :
  ae c (.l9 f ps x y) Q (au ts os0):=by
 obtain ⟨hr,hbase⟩:=hr0;intro code hc a w ab;cases code <;>simp only[eC] at hc <;>try (first | (cases hc;done) | ((repeat' split at hc) <;>cases hc;done))
 rename_i cf cps cx cy;split at hc
 case h_2=>cases hc
 rename_i f' x' y' hcf hcx hcy;split at hc
 case isFalse=>cases hc
 rename_i hpn;simp only[v6,bx.l9.injEq] at hc;obtain ⟨rfl,rfl,rfl,rfl⟩:=hc;obtain ⟨D,E,ab⟩:=ab;have hF:c.bz=Fence.wide:=by unfold cV.bz;rw[hr]
 have hE0:c.c4 999999=none:=ab.ke (.inr (by decide));have hval:∃ vs:List Value,a.eval cf=.func (.func g) #[] vs.toArray∧aF w D E caps vs:=by
  have hv:=bV ab hcf;rw[hf] at hv;obtain ⟨cs,q1,q2⟩:=hv;simp only[al] at q2;obtain ⟨vs,q3,q4⟩:=q2;exact ⟨vs,by rw[←mB (zX hcb)];simpa[bA,I.isAgg,q3] using q1.symm,q4⟩
 obtain ⟨vs,hval,hvs⟩:=hval;rw[hF];refine wpIn_rangeFunc fun fn hfn =>?_;obtain ⟨rec,hrec⟩:∃ rec:LoopState→Option Code→Loop,rec=fun a8 pe => { state:=a8,pending:=pe,fn,tmps:=a.tmps,params:=cps,assign:=cx,body:=cy,defers:=w.heap.size } :=⟨_,rfl⟩
 obtain ⟨E1,hs1,hE1,hup⟩:=ab.enter hbase hfree hE0 (o:=.loop (rec .ready none)) rfl;obtain ⟨W1,hW1⟩:∃ W1,(w.alloc (.deferred (some []))).alloc (.loop (rec .ready none))=W1:=⟨_,rfl⟩
 rw[hW1] at hs1 hup;obtain ⟨l,ao⟩:∃ l,l=w.heap.size+1:=⟨_,rfl⟩
 rw[←ao] at hE1;obtain ⟨yv,hyv⟩:∃ yv:Value,yv=.func (.yield l) #[] #[]:=⟨_,rfl⟩
 obtain ⟨a1,ha1⟩:∃ a1:Act,a1 = { a with defers := { target:=.collected w.heap.size,args := #[] } :: a.defers } :=⟨_,rfl⟩
 rw[←ha1] at hs1;refine ⟨l,[{ target:=.collected w.heap.size,args := #[] }],W1,{ target:=.fn (.func g) vs.toArray,args := #[yv] },W1,g,#[yv]++vs.toArray,W1,?_,?_,?_,?_,fun _=>by decide,?_⟩
 ·rw[←hW1,hrec,ao];exact run_enterLoop_outer _ _ _ _ _
 ·simp only[resolve,hval,hyv];simp[go_sem]
 ·intro f' _;trivial
 ·simp only[invoke,mW hcb]
 ·-- the iterator's own bargain
  have hG0:=hI 0 osb0 aW;obtain ⟨I',hI'⟩:∃ I':Nat→List (Nat×aq)→Prop,I'=fun k os=>∃ osb,os=en (.loop (rec .ready none)) osb∧bd k osb:=⟨_,rfl⟩
  obtain ⟨Ix',hIx'⟩:∃ Ix':List (Nat×aq)→Prop,Ix'=fun os=>∃ e osb,os=en (.loop (rec .done (some (wc e)))) osb∧Ix e osb:=⟨_,rfl⟩
  obtain ⟨os1,hos1⟩:∃ os1,os1=en (.loop (rec .ready none)) osb0:=⟨_,rfl⟩
  obtain ⟨Y,hY⟩:∃ Y:Value→List I→List (Nat×aq)→cF→Prop,Y=fun v args os post=>v=yv∧∃ k,args=item k∧k<N∧I' k os∧∀ r os2,(r=.bool true∧I' (k+1) os2)∨(r=.bool false∧Ix' os2)→post r os2:=⟨_,rfl⟩
  have iE:∀ k os',I' k os'→eY os1 os':=fun k os' h=>by
   rw[hI'] at h;obtain ⟨osb,rfl,h⟩:=h;rw[hos1];exact (hI k osb h).en _ _
  have goodx:∀ os',Ix' os'→eY os1 os':=fun os' h=>by
   rw[hIx'] at h;obtain ⟨e,osb,rfl,h⟩:=h;rw[hos1];exact (hIx e osb h).en _ _
  have hctr:=hit Y yv I' Ix' os1 (by rw[hyv];rfl) (fun k os' post hk J U=>by rw[hY];exact ⟨rfl,k,rfl,hk,J,U⟩) iE goodx (by rw[hI'];exact ⟨osb0,hos1,aW⟩);have hgv1:gn ρ os1 ((999999,.dG (.loop (rec .ready none)))::os0):=by rw[hos1];exact hgv _
  obtain ⟨A0,hA0⟩:∃ A0:ai,A0=au ts ((999999,.dG (.loop (rec .ready none)))::os0):=⟨_,rfl⟩
  have hand:np (Calls c.P g) (fun w D E=>∀ n,oI ⟨c.P,w,D,n,cI E,E,Y,none,none⟩) (.raw yv::caps) os1 (fun r os'=>r=.tuple []∧(I' N os'∨Ix' os')):=fun w D E vs hy hlive hheld hv=>by
   refine (hctr.2 w D E vs hy hlive hheld hv).mono fun e w' ⟨v,he,D',E',r,os',q⟩=>⟨v,D',E',r,os',he,q⟩
  have hshare:=hs1.oo;obtain ⟨Dh,hDh⟩:∃ Dh,Dh=og (au ts ((999999,.dG (.loop (rec .ready none)))::os0)) D E1:=⟨_,rfl⟩
  rw[←hDh] at hshare;have hsh:=hshare.1;obtain ⟨Eh,hEh⟩:∃ Eh,Eh=ay ρ os1 E1:=⟨_,rfl⟩
  have isrec:aw os1 1999999=true:=by rw[hos1,kX];simp
  have hEl:Eh 1999999=some (.op l):=by rw[hEh];simp only[ay,isrec,if_true,hρ];exact hE1
  have EhIn:∀ n e,Eh n=some e→aw os1 n=true:=fun n e h=>by
   rw[hEh] at h;simp only[ay] at h;split at h
   ·assumption
   ·cases h
  have hyok:∀ n,oI ⟨c.P,W1,Dh,n,cI Eh,Eh,Y,none,none⟩:=by
   refine fun n=>⟨by rw[hEh];exact hs1.pk,?_⟩
   intro v' args os' post' hYv w2 D2 E2 vs2 hsince hlive hheld hrvs;rw[hY] at hYv;obtain ⟨rfl,k,rfl,hkN,hIk,hpost⟩:=hYv;have hIk0:=hIk;rw[hI'] at hIk;obtain ⟨osb,rfl,hIk⟩:=hIk;have gk:=iE k _ hIk0;have gkb:=hI k osb hIk;have in2:∀ m,aw os1 m=true→E2 m≠none:=fun m hm=>by
    rw[←gk.same m] at hm;cases hx:aj (en (.loop (rec .ready none)) osb) m with
    |none=>simp[aw,hx] at hm
    |some x=>have:=hheld.bP m;rw[hx] at this;exact th this
   have same2:∀ m e,Eh m=some e→e.eh=true→E2 m=some e:=fun m e he hfx=>by
    rcases hsince.dR m e he with h | ⟨e',h,hle⟩
    ·exact absurd h (in2 m (EhIn m e he))
    ·rw[hle.eq hfx] at h;exact h
   have hEl2:E2 1999999=some (.op l):=same2 _ _ hEl rfl;have hob:=hheld.bP 1999999;rw[pt,if_pos rfl] at hob;obtain ⟨b,j1,_,j3,_,_⟩:=hob;rw[hEl2] at j1;cases j1;have hsz:vs2.toArray.size=cps.size:=by have:=rF hrvs;rw[hlen] at this;simpa using this
   have hyr:=run_yield (P:=c.P) (args:=vs2.toArray) j3 (by rw[hrec];exact hsz);rw[hrec] at hyr;refine ⟨l,hyv,fn,_,cx,cy,hyr,roundIn_of_wpIn trivial ?_⟩;clear hyr
   -- the round's own frame
   obtain ⟨cr,hcr⟩:∃ cr:cV,cr=⟨c.P,w2,D2,c.n,cI E2,E2,dj,some l,none⟩:=⟨_,rfl⟩
   have hFr:cr.bz=Fence.wide.inRound l:=by rw[hcr];rfl
   have hlat:dV W1 Dh Eh w2 D2 E2:=by
    refine ⟨hsince.cT,hsince.fB.cell,fun m b aX he=>same2 m _ he rfl,fun m aG l he =>?_,fun m b he=>same2 m _ he rfl,fun m b he=>same2 m _ he rfl,hsince.fB.je⟩;rcases hsince.dR m _ he with h | ⟨e',h,hle⟩
    ·exact absurd h (in2 m (EhIn m _ he))
    ·rcases hle with rfl | ⟨_,_,blk',l',e,rfl,k1,k2⟩
     ·exact ⟨aG,l,h,Z3 _,fun _=>rfl⟩
     ·cases e;exact ⟨blk',l',h,k1,k2⟩
   have hslots:na ρ (aw os1) ts tsR:=by
    have:∀ tsR:List (Nat×I),na ρ (aw osb0) ts tsR→na ρ (aw os1) ts tsR:=by
     intro tsR
     induction tsR with
     |nil=>exact fun h=>h
     |cons q r ih =>
      intro h;obtain ⟨J,U,ah⟩:=h;exact ⟨J,iL (fun n hn=>by rw[hos1,kX,hn];simp) _ U,ih ah⟩
    exact this tsR hts
   have hsr:aU cr (au tsR (en (.loop (rec .ready none)) osb)) { tmps:=a.tmps,defers:=[] } w2 D2 E2:=by
    rw[hcr];refine ⟨ab.sz,⟨[],rfl,.nil,fun _ h=>by simp at h⟩,fun t =>?_,eZ.refl _ _,fun _ _ h _=>h,hlive,fun m=>(hheld.bP m).ib fun e b he hb=>.inr ⟨m,e,he,hb⟩,hheld.cN,fun _ e h=>.inr ⟨e,h,.refl e⟩,fun m hm =>?_,fun _ _ h=>h,⟨hsince.qI,fun _ _ _ _ h=>h.elim⟩,.refl _ _⟩
    ·rcases Fb hslots t with h | ⟨J,U⟩
     ·simp only[au];rw[h];simp[aZ]
     ·have ah:=hsh.dQ t;rw[ha1] at ah;simp only[au] at ah ⊢;rw[J] at ah;have ar:=(aZ.bl (w:=W1) (D:=Dh) (p:=aw os1) (ρ:=bI ρ) (E:=Eh) (E':=E1) (fun n hn=>by rw[hEh];simp only[ay,hn,if_true]) U).1 ah;exact aZ.later hlat ar
    ·have hmi:aw os1 m=true:=by
      rw[←gk.same m];have:=hheld.bP m;cases hx:aj (en (.loop (rec .ready none)) osb) m with
      |none=>rw[hx] at this;exact absurd this hm
      |some x=>simp[aw,hx]
     have:=gk.lP m hmi;exact ⟨zx4 hn6 this,this⟩
   have hsp:=aU.De cps.toList vs2 (item k) tsR _ hsr (fun p hp=>by rw[hcr];have:=zz4.1 hpn p hp;simpa using this) hrvs (by have:=hsz;simpa using this.symm);have htm:(cps.zip vs2.toArray).foldl (fun t (q:Tmp×Value)=>t.setIfInBounds q.1 q.2) a.tmps=(cps.toList.zip vs2).foldl (fun t q=>t.setIfInBounds q.1 q.2) a.tmps:=by
    rw[←Array.foldl_toList];simp
   have hx:=hround k osb hkN hIk w2 D2 E2 l (.loop (rec .ready none)) (.loop { rec .ready none with state:=.busy });rw[←hcr] at hx;have hx1:=hx cx (by rw[hcr];exact hcx) _ w2 ⟨D2,E2,hsp⟩;rw[hFr] at hx1;simp only[←htm] at hx1;rw[hcr] at hx1;refine wpIn_mono hx1 ?_;rintro e ax wx ⟨B,hq,hsx⟩;rw[←hcr] at hq hsx;cases e <;>simp only[ef] at hq <;>try exact hq.elim
   simp only[Exit.then];obtain ⟨hB1,hB2⟩:=hq;obtain ⟨Dx,Ex,hsx⟩:=hsx;have hElx:Ex 1999999=some (.op l):=by
    have ho:=hsx.bP 1999999;rw[hB1] at ho;rcases hsx.vJ (n:=1999999) (by rw[hcr];exact hEl2) rfl with h | h
    ·exact absurd h (th ho)
    ·exact h
   have hLx:wx.heap[l]?=some (.loop (rec .ready none)):=by
    have ho:=hsx.bP 1999999;rw[hB1] at ho;obtain ⟨b,k1,_,k3,_⟩:=ho;rw[hElx] at k1;cases k1;exact k3
   refine ⟨_,run_beginRound hLx (by rw[hrec]),?_⟩;have hsb:=hsx.xA (o':=.loop { rec .ready none with state:=.busy }) hB1 hElx rfl;have hy1:=hB2 cy (by rw[hcr];exact hcy) _ _ ⟨Dx,Ex,hsb⟩;rw[hFr] at hy1;rw[hcr] at hy1;refine wpIn_mono hy1 ?_;rintro e a3 w3 ⟨A3,hq3,D3,E3,hs3⟩;rw[←hcr] at hs3
   -- the end of the round
   have bh:∀ (os:List (Nat×aq)) (jump:Option Code),pU (.loop { rec .ready none with state:=.busy }) A3 os→(post' (.bool jump.isNone) (en (.loop (rec (if jump.isNone then .ready else .done) jump)) os)) →
     ∃ v w',(Instr.endRound l jump).run c.P w3=.ok v w'∧(fun e w'=>∃ v D' E' r os',e=Ending.returned v∧post' r os'∧aZ w' D' E' r v∧jH (fun b=>w2.heap.size≤b∨cI E2 b) w' D' E' (aj os') ∧
      eZ (fun b=>w2.heap.size≤b∨cI E2 b) w2 w'∧(∀ b o,D2 b o→D' b o)∧(∀ b o,D' b o→b<w'.heap.size)∧(∀ b o,D' b o→b<w2.heap.size→¬ cI E2 b→D2 b o) ∧
      (∀ n e,E2 n=some e→aw os' n=true→∃ e',E' n=some e'∧e.le e')∧gM w2 D2 w') (.returned v) w':=fun os jump hbk hp=>by
    have hA3:A3.o 1999999=some (.dG (.loop { rec .ready none with state:=.busy })):=(hbk 1999999 _ (by rw[pt,if_pos rfl])).1;have hEl3:E3 1999999=some (.op l):=by
     have ho:=hs3.bP 1999999;rw[hA3] at ho;rcases hs3.vJ (n:=1999999) (by rw[hcr];exact hEl2) rfl with h | h
     ·exact absurd h (th ho)
     ·exact h
    have hL3:w3.heap[l]?=some (.loop { rec .ready none with state:=.busy }):=by
     have ho:=hs3.bP 1999999;rw[hA3] at ho;obtain ⟨b,k1,_,k3,_⟩:=ho;rw[hEl3] at k1;cases k1;exact k3
    have hend:=run_endRound (P:=c.P) jump hL3;have erec:({ rec .ready none with state:=if jump.isNone then LoopState.ready else .done,pending:=jump } : Loop)=rec (if jump.isNone then .ready else .done) jump:=by rw[hrec]
    have hend':(Instr.endRound l jump).run c.P w3=.ok (.bool jump.isNone) (w3.putObj l (.loop (rec (if jump.isNone then .ready else .done) jump))):=by
     rw[hend];rw[hrec]
    have hs4:=hs3.xA (o':=.loop (rec (if jump.isNone then .ready else .done) jump)) hA3 hEl3 rfl;rw[hcr] at hs4;obtain ⟨D',E',_,_,_,q1,q2,q3,q4,q5,q6⟩:=hs4.wj (Vi hbk _);exact ⟨_,_,hend',_,D',E',.bool jump.isNone,_,rfl,hp,⟨[.bool jump.isNone],by simp[bA,I.isAgg],by simp[al]⟩,q1,q2,q3,q4,q5,q6⟩
   cases e with
   |normal =>
    obtain ⟨os,hbk,hin⟩:=hq3;exact bh os none hbk (hpost _ _ (.inl ⟨rfl,by rw[hI'];exact ⟨os,rfl,hin⟩⟩))
   |ret =>
    obtain ⟨os,hbk,hin⟩:=hq3;exact bh os (some .ret) hbk (hpost _ _ (.inr ⟨rfl,by rw[hIx'];exact ⟨none,os,rfl,hin⟩⟩))
   |exit id =>
    obtain ⟨os,hbk,hin⟩:=hq3;exact bh os (some (.exit id)) hbk (hpost _ _ (.inr ⟨rfl,by rw[hIx'];exact ⟨some id,os,rfl,hin⟩⟩))
   |goto t=>exact hq3.elim
   |panic ch=>exact hq3.elim
   |outgrown=>exact hq3.elim
  -- the call
  have hargs:fD (aZ W1 D E1) (.raw yv::caps) (yv::vs):=by
   exact .cons ⟨[yv],by simp[bA,I.isAgg],by rw[hyv];exact ⟨rfl,rfl⟩⟩ (rE (hup caps vs hvs))
  have hus:=hand.use (ρ:=ρ) hs1 false (fun h=>h.mono) ⟨(fun h=>by cases h),fun _=>by rw[←hDh,←hEh];exact hyok⟩ hgv1 (sj _ (by simp[I.cg,I.bw,hcl]))
   (fun r os' hp=>by
    have gg:eY os1 os':=by
     rcases hp.2 with h | h
     ·exact iE _ _ h
     ·exact goodx _ h
    refine ⟨fun m x hx=>⟨(gg.ok m x hx).1,(gg.ok m x hx).2,fun h=>by cases h⟩,fun m m' J U=>hgv1.inj m m' (by rw[←gg.same];exact J) (by rw[←gg.same];exact U),fun m hm=>by rw[gg.same];exact hm,fun m J U=>(by rw[gg.same,U] at J;cases J),(by rw[hp.1];simp[I.only,I.ct]),fun h=>by cases h⟩) hargs
  have ecl : #[yv]++vs.toArray=(yv::vs).toArray:=by simp
  rw[ecl];refine CallsIn.mono (callsIn_wide.2 hus) ?_;rintro e w3 ⟨v,r,os',D2,E2,rfl,hp,hs2,_,hE2⟩;have key:∀ (o3:Obj) (osb:List (Nat×aq)),os'=en o3 osb→pd o3=true→E2 999999=some (.op l)∧w3.heap[l]?=some o3∧∀ o4,pd o4=true→bX c (au ts (dB ρ osb++os0)) a1 (w3.putObj l o4):=fun o3 osb he ah=>by
   subst he;have hn2:E2 999999=some (.op l):=by
    obtain ⟨e',J,U⟩:=hE2 1999999 (.op l) (by rw[←hEh];exact hEl) (by rw[kX];simp);rw[hρ] at J;rw[J,U.eq rfl]
   have eos:dB ρ (en o3 osb)=(999999,.dG o3)::dB ρ osb:=by simp only[en,dB,Z4,hρ,aq.bl]
   rw[eos] at hs2;have ha:(au ts ((999999,aq.dG o3)::dB ρ osb++(999999,.dG (.loop (rec .ready none)))::os0)).o 999999=some (.dG o3):=by simp[au,aj]
   have hgb:∀ m,aw osb m=true→bI ρ m≠999999:=fun m hm e=>by
    have h5:aw (en o3 osb) m=true:=by rw[kX,hm];simp
    have g5:eY os1 (en o3 osb):=by
     rcases hp.2 with h | h
     ·exact iE _ _ h
     ·exact goodx _ h
    have h6:=hgv1.inj m 1999999 (by rw[←g5.same];exact h5) isrec (by rw[hρ];exact e);subst h6;have h7:eY osb0 osb:=by
     rcases hp.2 with h | h
     ·rw[hI'] at h;obtain ⟨osb',h8,h9⟩:=h;simp only[en,zx2] at h8;rw[h8.2];exact hI _ _ h9
     ·rw[hIx'] at h;obtain ⟨e,osb',h8,h9⟩:=h;simp only[en,zx2] at h8;rw[h8.2];exact hIx _ _ h9
    rw[h7.same,h19] at hm;cases hm
   refine ⟨hn2,?_,fun o4 ar =>?_⟩
   ·have ho:=hs2.bP 999999;rw[ha] at ho;obtain ⟨b,k1,_,k3,_⟩:=ho;rw[hn2] at k1;cases k1;exact k3
   ·have h5:=(hs2.xA (o':=o4) ha hn2 ar).Me hn2;have hst:(⟨((au ts ((999999,aq.dG o3)::dB ρ osb++(999999,.dG (.loop (rec .ready none)))::os0)).aV 999999 (.dG o4)).t,fun m=>if m=999999 then none else
      ((au ts ((999999,aq.dG o3)::dB ρ osb++(999999,.dG (.loop (rec .ready none)))::os0)).aV 999999 (.dG o4)).o m⟩:ai)=au ts (dB ρ osb++os0):=by
     simp only[au,ai.aV]
     congr 1
     funext m
     by_cases hm:m=999999
     ·subst hm;simp only[if_true,qM];cases hq:pre ρ osb 999999 with
      |none=>exact hfree.symm
      |some k=>exact absurd (kZ hq).2 (hgb k (kZ hq).1)
     ·simp only[if_neg hm,Z9,aj,qM]
    rw[hst] at h5;exact ⟨D2,_,h5⟩
  rcases hp.2 with h | h
  ·rw[hI'] at h;obtain ⟨osb,he,hin⟩:=h;obtain ⟨k1,k2,k3⟩:=key _ osb he rfl;refine ⟨none,_,(by have:=run_endLoop (P:=c.P) k2 (by rw[hrec];simp);rw[hrec] at this;exact this),_,hdone osb hin,?_⟩;have:=k3 (.loop { rec .ready none with state:=.exhausted }) rfl;rw[ha1] at this;rw[hrec] at this;exact this
  ·rw[hIx'] at h;obtain ⟨e,osb,he,hin⟩:=h;obtain ⟨k1,k2,k3⟩:=key _ osb he rfl;refine ⟨some (wc e),_,(by have:=run_endLoop (P:=c.P) k2 (by rw[hrec];simp);rw[hrec] at this;exact this),?_⟩;have:=k3 (.loop { rec .done (some (wc e)) with state:=.exhausted }) rfl;rw[ha1] at this;rw[hrec] at this;have hq:sX c Q (AL e) { a with defers := { target:=.collected w.heap.size,args := #[] } :: a.defers } _:=⟨_,hexit e osb hin,this⟩
   cases e with
   |none=>exact wpIn_ret hq
   |some id=>exact wpIn_exit hq
end
mutual
theorem km{ρ:Nat→Nat}(h:∀ n,ρ n=n):∀ x:I,x.bl ρ=x
 | .agg fs | .tuple fs=>by simp only[I.bl];rw[l5 h fs]
 | .slice _ es=>by simp only[I.bl];rw[l5 h es]
 | .ref x=>by simp only[I.bl];rw[km h x]
 | .func _ caps=>by simp only[I.bl];rw[l5 h caps]
 | .iface _ v=>by simp only[I.bl];rw[km h v]
 | .ptr _ _ | .own _ _ | .view _ _ _ _ _ | .mref _ | .dk _=>by simp only[I.bl,h]
 | .df ks vs=>by simp only[I.bl];rw[l5 h ks,l5 h vs]
 | .bool _ | .int _ _ | .bQ _ | .nilp | .dA | .dY | .any | .raw _ | .nils _ | .c0 _ | .undef | .du=>by simp only[I.bl]
theorem l5{ρ:Nat→Nat}(h:∀ n,ρ n=n):∀ xs:List I,I.dT ρ xs=xs
 | []=>rfl
 |x::xs=>by simp only[I.dT];rw[km h x,l5 h xs]
end
theorem aq.km{ρ:Nat→Nat}(h:∀ n,ρ n=n):∀ x:aq,x.bl ρ=x
 | .box x=>by simp only[aq.bl,Abs.km h]
 | .bY _ _ es=>by simp only[aq.bl,l5 h]
 | .dG _=>rfl
 | .dH _ _=>rfl
 | .bt _ _=>by simp only[aq.bl,l5 h]
 | .it _ _ _ _=>by simp only[aq.bl,l5 h]
theorem l4(os:List (Nat×aq)):dB [] os=os:=by
 simp only[dB];have:(fun q:Nat×aq=>(bI [] q.1,q.2.bl (bI [])))=id:=by
  funext q
  rw[aq.km (ρ:=bI []) (fun n=>rfl)];rfl
 rw[this,List.map_id]
theorem fN(a b:List (Nat×aq))(n:Nat):aj (a++b) n=match aj a n with
  |some x=>some x
  |none=>aj b n:=by
 induction a with
 |nil=>rfl
 |cons q a ih =>
  obtain ⟨k,v⟩:=q;simp only[Z9,aj];split
  ·rfl
  ·exact ih
theorem eY.none{os os':List (Nat×aq)}(h:eY os os'){n:Nat}(hn:n<1000000):aj os' n=none:=by
 cases hx:aj os' n with
 |none=>rfl
 |some x =>
  have J:aw os' n=true:=by simp[aw,hx]
  rw[h.same] at J;exact absurd (h.lP n J) (by omega)
theorem bB.slots{ts ts':List (Nat×I)}{os os':List (Nat×aq)}(J:cC ts ts')(U:∀ n,aj os n=aj os' n):bB (au ts os) (au ts' os'):=by
 have e:au ts os=au ts os':=by
  simp only[au];congr 1;funext n;exact U n
 rw[e];rintro c a w ⟨D,E,ab⟩;refine ⟨D,E,ab.sz,ab.eD,fun t =>?_,ab.dM,ab.c6,ab.aQ,ab.bP,ab.cN,ab.dR,ab.eU,ab.cT,ab.eX,ab.fB⟩;rcases tY J t with h | h
 ·simp only[au];rw[h];simp[aZ]
 ·have:=ab.dQ t;simp only[au] at *;rw[h];exact this
theorem sk{os osk os2 ow:List (Nat×aq)}{ts:List (Nat×I)}(J:eY os osk)(U:eY os os2)(how:∀ m,aw ow m=true→m<1000000):au ts (dB [] os2++(ow++osk))=au ts (ow++os2):=by
 simp only[au,l4]
 congr 1
 funext n
 simp only[fN];cases hw:aj ow n with
 |none =>
  simp only;cases ah:aj os2 n with
  |some x=>rfl
  |none =>
   simp only;cases ar:aj osk n with
   |none=>rfl
   |some x =>
    have h5:aw osk n=true:=by simp[aw,ar]
    rw[J.same,←U.same] at h5;simp[aw,ah] at h5
 |some x =>
  simp only;rw[U.none (how n (by simp[aw,hw]))]
theorem gn.iE{os osk ow:List (Nat×aq)}(J:eY os osk)(how:∀ m,aw ow m=true→m<1000000):gn [] osk (ow++osk):=by
 refine ⟨fun m x hx =>?_,fun m m' _ _ h=>h⟩;have hm:aw osk m=true:=by simp[aw,hx]
 have hg:=J.lP m (by rw[←J.same];exact hm);obtain ⟨k1,k2⟩:=J.ok m x hx;refine ⟨?_,k1,k2⟩;rw[aq.km (ρ:=bI []) (fun n=>rfl)];simp only[bI,fN];cases hw:aj ow m with
 |none=>exact hx
 |some y=>have:=how m (by simp[aw,hw]);omega
theorem gC.iE{os osk os2 os0:List (Nat×aq)}{r:I}(J:eY os osk)(U:eY os os2)(hr:r.bw=true):gC false [] osk os0 r os2:=by
 refine ⟨fun m x hx=>⟨(U.ok m x hx).1,(U.ok m x hx).2,fun h=>by cases h⟩,fun m m' _ _ h=>h,fun m hm=>by rw[U.same,←J.same];exact hm,fun m ah ar =>?_,kl _ r hr,fun h=>by cases h⟩;rw[U.same,←J.same,ar] at ah;cases ah
theorem aR.rT{P:Program}{Y:Value→List I→List (Nat×aq)→cF→Prop}{K:ai→Prop}{v:Value}{vs:List I}{dst:Option Nat}{rest:List aE}{ts:List (Nat×I)}{os osk ow:List (Nat×aq)}{In Ix:List (Nat×aq)→Prop}
  (hY:Y v vs osk (fun r os2=>(r=.bool true∧In os2)∨(r=.bool false∧Ix os2))) (hk:eY os osk) (hi:∀ os',In os'→eY os os') (hx:∀ os',Ix os'→eY os os') (hcl:I.cg vs=true) (how:∀ m,aw ow m=true→m<1000000)
  (J:∀ os2,In os2→aR P Y false K (az rest ((au ts (ow++os2)).aT dst (.bool true)))) (U:∀ os2,Ix os2→aR P Y false K (az rest ((au ts (ow++os2)).aT dst (.bool false)))) :
  aR P Y false K (.kK v vs dst rest (au ts (ow++osk))):=by
 refine .uf osk vs _ rfl hY (gn.iE hk how) (sj vs hcl) ?_ ?_
 ·rintro r os' (⟨rfl,h⟩ | ⟨rfl,h⟩)
  ·exact gC.iE hk (hi _ h) rfl
  ·exact gC.iE hk (hx _ h) rfl
 ·rintro r os' (⟨rfl,h⟩ | ⟨rfl,h⟩)
  ·rw[sk hk (hi _ h) how];exact J os' h
  ·rw[sk hk (hx _ h) how];exact U os' h
theorem sx(A:ai)(d:Option Nat)(args:List I)(rest:List aE)(v:Value):p9 A d args rest (.raw v)=.kK v args d rest A:=rfl
end Go.Abs
namespace Go.Proofs.YthbdbocionnfgaaGreatDoor
open Go Go.Abs
open Go.Abs.Enc (enc)
structure aB where
 av:Int
 here:List Int
 all:List dh
 aQ:List Nat
 bn:List bg
 deriving Inhabited
structure nt where
 dc:Int
 no:Int
 deriving DecidableEq
instance:Enc nt where
 enc g:=.agg [.int .i64 g.dc,.int .i64 g.no]
 sz:=2
 aX:=.eG [.one,.one]
 gH:=true
 done g:=by simp only[I.done,I.hl,Bool.and_self]
 size g:=by simp only[I.size,I.sizes]
 iu g:=by simp only[I.aX,I.cX]
 agg _:=rfl
theorem vk(x y:nt):bZ (.a8 [.i .i64,.i .i64]) (enc x) (enc y)=some (decide (x=y)):=by
 show bZ (.a8 [.i .i64,.i .i64]) (.agg [.int .i64 x.dc,.int .i64 x.no]) (.agg [.int .i64 y.dc,.int .i64 y.no])=_
 have:x=y↔x.dc=y.dc∧x.no=y.no:=by cases x;cases y;simp
 simp[bZ,hJ,iX,this];rfl
theorem eS(a b:Int):bZ (.i .i64) (enc a) (enc b)=some (decide (a=b)):=by
 show bZ (.i .i64) (.int .i64 a) (.int .i64 b)=_
 simp[bZ];rfl
def fI(x:bg):nt:=⟨x.other,x.no⟩
def aB.bJ(s:aB)(i:Nat):dh:=s.all.getD i default
def aB.bF(s:aB):List dh:=s.aQ.map s.bJ
def aB.bE(s:aB):List Int:=s.aQ.map fun i:Nat=>((i:Int)+1)
def aB.fg(s:aB)(b:Int):Bool:=s.bF.any fun r=>decide (r.aD=b)
def aB.dU(s:aB):List nt:=s.bn.map fI
def aB.unknown(s:aB)(x:bg):Bool:=(x.other != s.av) && !decide (fI x∈s.dU)
def aB.at(s:aB)(no:Int):Option Nat:=s.aQ.find? fun i=>decide (no=(i:Int)+1)
def aB.on(s:aB)(x:bg):Option Nat:=match s.at x.no with
 |some i=>if (s.bJ i).to=x.other∧(s.bJ i).aD=x.aD then some i else none
 |none=>none
def bD(B i:Nat):Nat:=B+5+i
def fU(B d k i:Nat):Nat:=if i=k then d else B+5+i
def ng(B:Nat)(av dC:Int):I:=.agg [.int .i64 av,.mref (B+1),.mref (B+2),.int .i64 dC,.mref (B+3),.mref (B+4)]
def o9(l:List Int):aq:=.bt (l.map enc) (List.replicate l.length (.bool true))
def dS(ν:Nat→Nat)(l:List Nat):List I:=l.map fun i=>.ptr (ν i) []
def oe(ν:Nat→Nat)(s:aB):aq:=.bt (s.bE.map enc) (dS ν s.aQ)
def qF(s:aB):aq:=.bt (s.dU.map enc) (s.bn.map enc)
def gI:List I:=[.int .i64 1,.int .i64 2,.int .i64 3,.int .i64 4,.int .i64 5,.int .i64 6,.int .i64 7,.int .i64 8]
def oO(B:Nat):aq:=.bt gI [.func 1000125 [.ptr B []],.func 1000126 [.ptr B []],.func 1000127 [.ptr B []],.func 1000128 [.ptr B []],.func 1000129 [.ptr B []],.func 1000130 [.ptr B []],.func 1000131 [.ptr B []],.func 1000132 [.ptr B []]]
def jl(ν:Nat→Nat):Nat→List dh→List (Nat×aq)
 |_,[]=>[]
 |i,r::l=>(ν i,.box (enc r))::jl ν (i+1) l
def ed(B:Nat)(ν:Nat→Nat)(s:aB):List (Nat×aq) :=
 (B,.box (ng B s.av s.all.length))::(B+1,o9 s.here)::(B+2,oe ν s)::(B+3,qF s)::(B+4,oO B)::jl ν 0 s.all
structure gu (B:Nat) (ν:Nat→Nat) (k:Nat):Prop where
 out:∀ i,i<k→ν i<B∨B+5≤ν i
 inj:∀ i j,i<k→j<k→ν i=ν j→i=j
theorem gu.bD(B k:Nat):gu B (bD B) k:=⟨fun i _=>.inr (by simp[Go.Proofs.YthbdbocionnfgaaGreatDoor.bD]),fun i j _ _ h=>by simp[Go.Proofs.YthbdbocionnfgaaGreatDoor.bD] at h;exact h⟩
theorem gu.fU{B d k m:Nat}(h:d<B)(hm:m≤k+1):gu B (fU B d k) m :=
 ⟨fun i _=>by simp only[Go.Proofs.YthbdbocionnfgaaGreatDoor.fU];split <;>omega,fun i j hi hj h=>by simp only[Go.Proofs.YthbdbocionnfgaaGreatDoor.fU] at h;(repeat' split at h) <;>omega⟩
theorem lU{B d k i:Nat}(h:i<k):fU B d k i=bD B i:=by simp only[fU,bD];rw[if_neg (by omega)]
theorem yA{ν:Nat→Nat} : ∀ (l:List dh) (i k:Nat) (h:k<l.length),(∀ a b,a<i+l.length→b<i+l.length→ν a=ν b→a=b)→aj (jl ν i l) (ν (i+k))=some (.box (enc l[k]))
 | [],_,_,h,_=>by simp at h
 |r::l,i,0,_,_=>by simp[jl,aj]
 |r::l,i,k+1,h,hj=>by
  simp only[zy5] at h hj;simp only[jl,aj];rw[if_neg (fun e=>by have:=hj _ _ (by omega) (by omega) e;omega)];have:=yA l (i+1) k (by omega) (fun a b ha hb=>hj a b (by omega) (by omega));rw[show i+1+k=i+(k+1) by omega] at this;simpa using this
theorem yC{ν:Nat→Nat}{n:Nat} : ∀ (l:List dh) (i:Nat),(∀ k,k<l.length→n≠ν (i+k))→aj (jl ν i l) n=none
 | [],_,_=>rfl
 |r::l,i,h=>by
  simp only[zy5] at h;simp only[jl,aj];rw[if_neg (by have:=h 0 (by omega);simpa using this)];exact yC l (i+1) fun k hk=>by have:=h (k+1) (by omega);rw[show i+1+k=i+(k+1) by omega];exact this
theorem yB{ν ν':Nat→Nat} : ∀ (l:List dh) (i:Nat),(∀ k,k<i+l.length→ν k=ν' k)→jl ν i l=jl ν' i l
 | [],_,_=>rfl
 |r::l,i,h=>by
  simp only[zy5] at h;simp only[jl,h i (by omega),yB l (i+1) fun k hk=>h k (by omega)]
theorem YD{B:Nat}{ν ν':Nat→Nat}{s:aB}(ao:∀ i∈s.aQ,i<s.all.length)(h:∀ k,k<s.all.length→ν k=ν' k):ed B ν s=ed B ν' s:=by
 have J:dS ν s.aQ=dS ν' s.aQ:=List.map_congr_left fun i hi=>by rw[h i (ao i hi)]
 simp only[ed,oe,J,yB s.all 0 (by simpa using h)]
section
variable {B:Nat} {ν:Nat→Nat} {s:aB}
theorem xH(B:Nat)(ν:Nat→Nat)(k n:Nat):n=B∨n=B+1∨n=B+2∨n=B+3∨n=B+4∨((n<B∨B+5≤n)∧(∃ i,i<k∧n=ν i))∨((n<B∨B+5≤n)∧∀ i,i<k→n≠ν i):=by
 by_cases J:n=B
 ·exact .inl J
 by_cases U:n=B+1
 ·exact .inr (.inl U)
 by_cases ah:n=B+2
 ·exact .inr (.inr (.inl ah))
 by_cases ar:n=B+3
 ·exact .inr (.inr (.inr (.inl ar)))
 by_cases h5:n=B+4
 ·exact .inr (.inr (.inr (.inr (.inl h5))))
 have h6:n<B∨B+5≤n:=by omega
 by_cases h7:∃ i,i<k∧n=ν i
 ·exact .inr (.inr (.inr (.inr (.inr (.inl ⟨h6,h7⟩)))))
 ·exact .inr (.inr (.inr (.inr (.inr (.inr ⟨h6,fun i hi e=>h7 ⟨i,hi,e⟩⟩)))))
theorem fA:aj (ed B ν s) B=some (.box (ng B s.av s.all.length)):=by simp[ed,aj]
theorem fW:aj (ed B ν s) (B+1)=some (o9 s.here):=by simp[ed,aj]
theorem gi:aj (ed B ν s) (B+2)=some (oe ν s):=by simp[ed,aj]
theorem gj:aj (ed B ν s) (B+3)=some (qF s):=by simp[ed,aj]
theorem oy:aj (ed B ν s) (B+4)=some (oO B):=by simp[ed,aj]
theorem ji(hg:gu B ν s.all.length){i:Nat}(hi:i<s.all.length):aj (ed B ν s) (ν i)=some (.box (enc s.all[i])):=by
 have J:=hg.out i hi;simp only[ed,aj];rw[if_neg (by omega),if_neg (by omega),if_neg (by omega),if_neg (by omega),if_neg (by omega)];have:=yA (ν:=ν) s.all 0 i hi (by simpa using hg.inj)
 rwa [Z1] at this
theorem eH{n:Nat}(J:n<B∨B+5≤n)(h:∀ i,i<s.all.length→n≠ν i):aj (ed B ν s) n=none:=by
 simp only[ed,aj];rw[if_neg (by omega),if_neg (by omega),if_neg (by omega),if_neg (by omega),if_neg (by omega)];exact yC s.all 0 (by simpa using h)
theorem dL(hg:gu B ν s.all.length){n:Nat} : aw (ed B ν s) n=true↔(B≤n∧n≤B+4)∨∃ i,i<s.all.length∧n=ν i:=by
 rcases xH B ν s.all.length n with h | h | h | h | h | ⟨h,i,hi,e⟩ | ⟨h,hn⟩
 ·subst h;simp only[aw,fA];simp
 ·subst h;simp only[aw,fW];simp
 ·subst h;simp only[aw,gi];simp
 ·subst h;simp only[aw,gj];simp
 ·subst h;simp only[aw,oy];simp
 ·subst e;simp only[aw,ji hg hi];simp only[Option.isSome_some,true_iff];exact .inr ⟨i,hi,rfl⟩
 ·simp only[aw,eH h hn];simp only[Option.isSome_none,Z2,false_iff];rintro (U | ⟨i,hi,e⟩)
  ·omega
  ·exact hn i hi e
theorem Xf(p:Nat→Bool)(h:p B=true):aq.only p (oO B)=true:=by
 simp[oO,gI,aq.only,I.only,I.ct,h]
theorem CQ(p:Nat→Bool):∀ l:List Nat,(∀ i∈l,p (ν i)=true)→I.ct p (dS ν l)=true
 | [],_=>rfl
 |i::l,h=>by
  have ih:=CQ p l fun j hj=>h j (by simp[hj]);simp only[dS] at ih;simp only[dS,Z4,I.ct,I.only,ih,h i (by simp),Bool.and_self]
theorem CS(p:Nat→Bool):∀ n:Nat,I.ct p (List.replicate n (.bool true))=true
 |0=>rfl
 |n+1=>by simp[List.replicate_succ,I.ct,I.only,CS p n]
theorem lv(hg:gu B ν s.all.length)(ao:∀ i∈s.aQ,i<s.all.length){n:Nat}{x:aq}(h:aj (ed B ν s) n=some x):x.only (aw (ed B ν s))=true∧x.eh=true:=by
 have hin:∀ n,(B≤n∧n≤B+4)→aw (ed B ν s) n=true:=fun n hn=>(dL hg).2 (.inl hn);rcases xH B ν s.all.length n with U | U | U | U | U | ⟨U,i,hi,e⟩ | ⟨U,hn⟩
 ·subst U;rw[fA] at h;cases h;simp[aq.only,I.only,I.ct,aq.eh,ng,hin]
 ·subst U;rw[fW] at h;cases h;simp only[o9,aq.only,ik,CS,Bool.and_self,aq.eh,true_and]
 ·subst U;rw[gi] at h;cases h;refine ⟨?_,rfl⟩;simp only[oe,aq.only,ik,Bool.true_and];exact CQ _ _ fun i hi=>(dL hg).2 (.inr ⟨i,ao i hi,rfl⟩)
 ·subst U;rw[gj] at h;cases h;simp only[qF,aq.only,ik,Bool.and_self,aq.eh,true_and]
 ·subst U;rw[oy] at h;cases h;exact ⟨Xf _ (hin _ (by omega)),rfl⟩
 ·subst e;rw[ji hg hi] at h;cases h;exact ⟨cJ _ _,rfl⟩
 ·rw[eH U hn] at h;cases h
theorem YE(hg:gu 1000000 ν s.all.length)(h:∀ i,i<s.all.length→1000000≤ν i):∀ m,aw (ed 1000000 ν s) m=true→1000000≤m:=fun m hm=>by
 rcases (dL hg).1 hm with U | ⟨i,hi,rfl⟩
 ·omega
 ·exact h i hi
end
def jy(s:aB):I:=.df (s.bE.map enc) (s.aQ.map fun i=>.ref (enc (s.bJ i)))
def jO(l:List Int):I:=.df (l.map enc) (List.replicate l.length (.bool true))
def kh(s:aB):I:=.df (s.dU.map enc) (s.bn.map enc)
def sw:I:=.df gI (List.replicate 8 .any)
def fV(s:aB):I:=.agg [.int .i64 s.av,jO s.here,jy s,.int .i64 s.all.length,kh s,sw]
theorem qd:∀ n:Nat,I.cg (List.replicate n (.bool true))=true
 |0=>rfl
 |n+1=>by simp[List.replicate_succ,I.cg,I.bw,qd n]
theorem u5{α:Type}[Enc α](f:Nat→α):∀ l:List Nat,I.cg (l.map fun i=>.ref (enc (f i)))=true
 | []=>rfl
 |i::l=>by simp[I.cg,I.bw,kO,u5 f l]
theorem An(s:aB):(fV s).bw=true:=by
 simp[fV,jO,jy,kh,sw,gI,I.bw,I.cg,iD,qd,u5,List.replicate]
theorem vz{A:ai}{m:Nat}{x:I}(h:x.bw=true):cY A (m+1) x=some x:=by simp[cY,h]
theorem wo{A:ai}{m:Nat} : ∀ {l:List I},I.cg l=true→fT (cY A (m+1)) l=some l
 | [],_=>rfl
 |x::l,h=>by
  simp only[I.cg,t8] at h;simp only[fT,vz h.1,wo h.2]
theorem sE{A:ai}{m n:Nat}{ks vs vs':List I}(ho:A.o n=some (.bt ks vs))(hk:I.cg ks=true)(hv:fT (cY A m) vs=some vs'):cY A (m+1) (.mref n)=some (.df ks vs'):=by
 simp only[cY,I.bw,Z2,if_false,ho,hk,if_true,hv,Z7]
theorem Cq{A:ai}{m:Nat}{ν:Nat→Nat}{f:Nat→dh} : ∀ {l:List Nat},(∀ i∈l,A.o (ν i)=some (.box (enc (f i))))→fT (cY A (m+2)) (dS ν l)=some (l.map fun i=>.ref (enc (f i)))
 | [],_=>rfl
 |i::l,h=>by
  have ih:=Cq (m:=m) (l:=l) fun j hj=>h j (by simp[hj]);simp only[dS] at ih;have J:cY A (m+2) (.ptr (ν i) [])=some (.ref (enc (f i))):=by
   have hcl:(I.ptr (ν i) []).bw=false:=by simp[I.bw]
   rw[cY];simp only[hcl,Z2,if_false,cK,h i (by simp),I.at,vz (kO (f i)),Z7]
  simp only[dS,Z4,fT,J,ih]
structure x7 (A:ai) (B:Nat) (ν:Nat→Nat) (s:aB):Prop where
 aW:A.o B=some (.box (ng B s.av s.all.length))
 J:A.o (B+1)=some (o9 s.here)
 U:A.o (B+2)=some (oe ν s)
 ah:A.o (B+3)=some (qF s)
 ar:A.o (B+4)=some (oO B)
 aN:∀ i,i<s.all.length→A.o (ν i)=some (.box (enc (s.bJ i)))
 cv:∀ i∈s.aQ,i<s.all.length
theorem gQ{A:ai}{B:Nat}{ν:Nat→Nat}{s:aB}(h:x7 A B ν s)(m:Nat):cY A (m+5) (ng B s.av s.all.length)=some (fV s):=by
 have i0:∀ (k:IntKind) (v:Int),cY A (m+4) (.int k v)=some (.int k v):=fun _ _=>vz (m:=m+3) rfl;have i1:cY A (m+4) (.mref (B+1))=some (jO s.here):=sE h.J (iD _) (wo (m:=m+2) (qd _));have i2:cY A (m+4) (.mref (B+2))=some (jy s):=sE h.U (iD _) (Cq (m:=m+1) fun i hi=>h.aN i (h.cv i hi));have i3:cY A (m+4) (.mref (B+3))=some (kh s):=sE h.ah (iD _) (wo (m:=m+2) (iD _));have i4:cY A (m+4) (.mref (B+4))=some sw:=sE h.ar (by simp[gI,I.cg,I.bw]) (by
  have hf:∀ k:Nat,1000000≤k→cY A (m+3) (.func k [.ptr B []])=some .any:=fun k hk=>by
   rw[cY];have hcl:(I.func k [.ptr B []]).bw=false:=by simp[I.bw,I.cg]
   simp only[hcl,Z2,if_false,if_neg (show ¬ k<1000000 by omega)]
  simp only[fT,hf 1000125 (by decide),hf 1000126 (by decide),hf 1000127 (by decide),hf 1000128 (by decide),hf 1000129 (by decide),hf 1000130 (by decide),hf 1000131 (by decide),hf 1000132 (by decide)];rfl)
 rw[ng,cY];simp only[I.bw,I.cg,Bool.and_false,Bool.false_and,Z2,if_false,fT,i0,i1,i2,i3,i4,Z7];rfl
def dD(s:aB):I:=.ref (fV s)
theorem ou(s:aB):(dD s).bw=true:=by simp only[dD,I.bw,An]
theorem AM:(∀ A s,jb A 0 0 (dD s)=some (.ref (.int .i64 s.av)))∧(∀ A s,jb A 1 1 (dD s)=some (.ref (jO s.here)))∧(∀ A s,jb A 2 2 (dD s)=some (.ref (jy s)))∧(∀ A s,jb A 3 3 (dD s)=some (.ref (.int .i64 s.all.length))) ∧
  (∀ A s,jb A 4 4 (dD s)=some (.ref (kh s))):=by
 refine ⟨fun A s =>?_,fun A s =>?_,fun A s =>?_,fun A s =>?_,fun A s =>?_⟩ <;>simp[dD,fV,jb,I.dJ,qj,oX,dm,I.sizes,I.size,jO,jy,kh,sw]
theorem Vj(l:List Int):(jO l).bw=true:=by simp only[jO,I.bw,iD,qd,Bool.and_self]
theorem Ya(s:aB):(jy s).bw=true:=by simp only[jy,I.bw,iD,u5,Bool.and_self]
theorem VG(s:aB):(kh s).bw=true:=by simp only[kh,I.bw,iD,Bool.and_self]
theorem ea:(type_of% @AM)∧(∀ s,(dD s).bw=true)∧(∀ aN A s,bh aN A (dD s)=some (dD s))∧(∀ s,(dD s).bU=true)∧(∀ s,b7 none (dD s)=true)∧(∀ s,lT (dD s)=some (dD s))∧(∀ p s,(dD s).only p=true) ∧
  (∀ l,(jO l).bU=true)∧(∀ l,b7 none (jO l)=true)∧(∀ l,(jy l).bU=true)∧(∀ l,b7 none (jy l)=true)∧(∀ l,(kh l).bU=true)∧(∀ l,b7 none (kh l)=true)∧(∀ l,(jO l).bw=true)∧(∀ l,(jy l).bw=true)∧(∀ l,(kh l).bw=true) ∧
  (∀ A l,gb A (jO l)=some (l.map enc,List.replicate l.length (.bool true)))∧(∀ A s,gb A (jy s)=some (s.bE.map enc,s.aQ.map fun i=>.ref (enc (s.bJ i))))∧(∀ A s,gb A (kh s)=some (s.dU.map enc,s.bn.map enc)) ∧
  (∀ x,b7 none (.ref x)=true)∧(∀ x,lT (.ref x)=some (.ref x)) :=
 ⟨AM,ou,fun aN A s=>by
  have h:=ou s;simp only[dD,I.bw] at h;simp only[dD,bh,h,if_true],fun _=>rfl,fun _=>rfl,fun _=>rfl,fun p s=>kl p _ (ou s),fun _=>rfl,fun _=>rfl,fun _=>rfl,fun _=>rfl,fun _=>rfl,fun _=>rfl,Vj,Ya,VG,
  fun _ _=>rfl,fun _ _=>rfl,fun _ _=>rfl,fun _=>rfl,fun _=>rfl⟩
theorem CG{A:ai}{d:Option Nat}{n:Nat}{rest:List aE}{ks vs:List I}{cur:Option Nat} : pB A d n rest (some (.it ks vs [] cur))=az rest (A.aT d (.tuple [.bool false])):=by
 simp only[pB,if_true]
theorem aR.ig{P:Program}{Y:Value→List I→List (Nat×aq)→cF→Prop}{K:ai→Prop}{A:ai}{d:Option Nat}{n:Nat}{rest:List aE}{ks vs:List I}{left:List Nat}{cur:Option Nat}(ao:left≠[])
  (h:∀ i,i∈left→∃ kk x,ks[i]?=some kk∧vs[i]?=some x∧aR P Y false K (az rest ((A.aV n (.it ks vs (left.filter (· != i)) (some i))).aT d (.tuple [.bool true,kk,x])))) :
  aR P Y false K (pB A d n rest (some (.it ks vs left cur))):=by
 simp only[pB,if_neg ao];refine .any rfl fun i hi =>?_;obtain ⟨kk,x,J,U,ah⟩:=h i hi;simp only[J,U];exact ah
theorem Cd{n i:Nat}{aA left:List Nat}(hC:(aA++left).Perm (List.range n))(hi:i∈left):(left.filter (· != i)).length<left.length∧((aA++[i])++left.filter (· != i)).Perm (List.range n):=by
 refine ⟨?_,?_⟩
 ·rcases Nat.lt_or_ge (left.filter (· != i)).length left.length with h | h
  ·exact h
  ·have:=List.filter_eq_self.1 (List.Sublist.eq_of_length_le List.filter_sublist h) i hi;simp at this
 have hnd:left.Nodup:=(List.nodup_append.1 (hC.nodup_iff.2 List.nodup_range)).2.1;have J:left.Perm (i::left.filter (· != i)):=by
  have U:(left.filter (· == i)).length=1:=by
   have:=List.nodup_iff_count.1 hnd i;have ah:=List.count_pos_iff.2 hi;have ar:left.count i=(left.filter (· == i)).length:=by rw[List.count,List.countP_eq_length_filter]
   omega
  have h5:left.filter (· == i)=[i]:=by
   obtain ⟨a,ha⟩:=List.length_eq_one_iff.1 U;have:a∈left.filter (· == i):=by rw[ha];simp
   have:=(zy3.1 this).2;simp at this;rw[ha,this]
  have h6:=(List.filter_append_perm (· == i) left).symm;rw[h5] at h6;exact h6
 refine List.Perm.trans ?_ hC;rw[Y5];exact (J.symm).append_left aA
def yd(s:aB)(b:Int)(t:List Nat×List Nat×Option Nat):ai :=
 au [(0,dD s),(1,.int .i64 b),(11,.dk 11)] [(11,.it (s.bE.map enc) (s.aQ.map fun i=>.ref (enc (s.bJ i))) t.2.1 t.2.2)]
theorem pW(s:aB)(b:Int):bf Tryz.prog 72 [dD s,enc b] (enc (s.fg b)):=by
 refine bf.b9 Tryz.func72 IJ JH KT (u8 rfl) (fun hwf W0 bH E1 =>?_);simp only[zp,Eb,bN,Z1];clear hwf;refine .gq (by decide +kernel) fun K hK =>?_;simp only[Bb,bG,simprocAttr];refine .done (hK _ ?_);clear hK K;refine ae.seq (ae.seq ?_);refine .j0 (by decide +kernel) fun K hK =>?_;simp only[Bc,bG,simprocAttr]
 try simp only[ea,jy,bp,mJ,bG,simprocAttr]
 refine .done (hK _ ?_);clear hK K;try simp only[ef]
 have hlen:s.bE.length=s.aQ.length:=by simp[aB.bE]
 refine ae.block (ae.loop (yd s b) (fun t=>(t.1++t.2.1).Perm (List.range s.aQ.length)∧∀ i∈t.1,(s.bJ (s.aQ.getD i 0)).aD≠b) (fun t=>t.2.1.length) ([],List.range s.aQ.length,none) ⟨by simp,by simp⟩ ?_ ?_)
 ·refine bB.slots ?_ (fun n =>?_)
  ·simp[cC,cz]
  ·simp only[dX,qL,Z8,hlen]
 rintro ⟨aA,left,cur⟩ ⟨hC,hA⟩;simp only at hC hA;simp only[yd];by_cases ao:left=[]
 ·subst ao;have hno:s.fg b=false:=by
   simp only[aB.fg,aB.bF,List.any_map,List.any_eq_false,Function.comp,decide_eq_true_eq];intro i hi e;obtain ⟨k,hk,rfl⟩:=List.mem_iff_getElem.1 hi;have hm:k∈aA:=(show aA.Perm _ by simpa using hC).mem_iff.2 (zx0.2 hk);have:=hA k hm;simp only[Z0,Y7 hk,Option.getD_some] at this;exact this e
  refine .gq (by decide +kernel) fun K hK =>?_;simp only[vR,bG,simprocAttr]
  try simp only[mJ,CG,bG,simprocAttr]
  refine .done (hK _ ?_);clear hK K;refine ae.seq ?_;refine ae.js ?_;simp only[aC,bG,simprocAttr];refine ⟨fun h =>?_,fun h =>?_⟩
  case refine_1=>cases h
  refine ae.exit ?_;try simp only[ef,jL,simprocAttr]
  rw[hno];have R:=aH
  repeat' ((first |refine ae.aJ (by decide +kernel) rfl fun K hK =>?_|(refine .aA [0,1,4,6,11,13,21] hK ?_;clear hK K)|(with_reducible refine .done (hK _ ?_);clear hK K)|refine ae.of rfl ?_|(with_reducible refine aC.aI (fun h =>?_) (fun h =>?_) <;>try simp only[h])) <;>try simp only[aK,R,simprocAttr])
  all_goals clear R
 ·refine .gq (by decide +kernel) fun K hK =>?_;simp only[vR,bG,simprocAttr]
  try simp only[mJ,bG,simprocAttr]
  refine aR.ig ao fun i hi =>?_;have hib:i<s.aQ.length:=zx0.1 (hC.mem_iff.1 (by simp[hi]));obtain ⟨hm,hC2⟩:=Cd hC hi;have hk1:(s.bE.map (enc (α:=Int)))[i]?=some (enc (((s.aQ[i]:Nat):Int)+1)):=by simp[aB.bE,hib]
  have hk2:(s.aQ.map fun i=>I.ref (enc (s.bJ i)))[i]?=some (.ref (enc (s.bJ s.aQ[i]))):=by simp[hib]
  refine ⟨_,_,hk1,hk2,?_⟩;have hent:mA (s.bE.map enc) (s.aQ.map fun i=>I.ref (enc (s.bJ i))) (some i)=some (.tuple [enc (((s.aQ[i]:Nat):Int)+1),.ref (enc (s.bJ s.aQ[i]))]):=by
   simp only[mA,hk1,hk2]
  have hx:s.aQ.getD i 0=s.aQ[i]:=by simp[Z0,hib]
  try simp only[bG,simprocAttr]
  refine .done (hK _ ?_);clear hK K;refine ae.seq ?_;refine ae.js ?_;simp only[aC,bG,simprocAttr];refine ⟨fun h =>?_,fun h =>?_⟩
  case refine_2=>cases h
  refine ae.skip ?_;try simp only[ef,simprocAttr]
  refine ae.block ?_;rcases q:((s.bJ s.aQ[i]).aD==b)
  ·have R:=y6 @hent (y6 @q aH)
   repeat' ((first |refine ae.aJ (by decide +kernel) rfl fun K hK =>?_|(refine .aA [0,1,4,6,11,13,21] hK ?_;clear hK K)|(with_reducible refine .done (hK _ ?_);clear hK K)|refine ae.of rfl ?_|(with_reducible refine aC.aI (fun h =>?_) (fun h =>?_) <;>try simp only[h])) <;>try simp only[aK,R,simprocAttr])
   all_goals clear R
   refine ⟨(aA++[i],left.filter (· != i),some i),⟨hC2,fun j hj =>?_⟩,hm,?_⟩
   ·rcases zy0.1 hj with hj | hj
    ·exact hA j hj
    ·rw[zz7.1 hj,hx];simpa using q
   ·simp only[];refine bB.slots ?_ (fun n =>?_)
    ·simp[cC,cz]
    ·simp only[dX,qL];(repeat' split) <;>simp_all
  ·have hyes:s.fg b=true:=by
    simp only[aB.fg,aB.bF,List.any_map,List.any_eq_true,Function.comp,decide_eq_true_eq];exact ⟨s.aQ[i],List.getElem_mem hib,by simpa using q⟩
   rw[hyes];have R:=y6 @hent (y6 @q aH)
   repeat' ((first |refine ae.aJ (by decide +kernel) rfl fun K hK =>?_|(refine .aA [0,1,4,6,11,13,21] hK ?_;clear hK K)|(with_reducible refine .done (hK _ ?_);clear hK K)|refine ae.of rfl ?_|(with_reducible refine aC.aI (fun h =>?_) (fun h =>?_) <;>try simp only[h])) <;>try simp only[aK,R,simprocAttr])
   all_goals clear R
theorem VX(s:aB)(x:bg):∃ v:I,v.bU=true∧b7 (some 4) v=true∧v.aX=.eG [.one,.one,.one,.one]∧fu (.a8 [.i .i64,.i .i64]) (.agg [.int .i64 0,.int .i64 0,.int .i64 0,.int .i64 0]) (.agg [.int .i64 x.other,.int .i64 x.no]) (s.dU.map enc) (s.bn.map enc)=some (v,decide (fI x∈s.dU)):=by
 have h:=sY vk (.agg [.int .i64 0,.int .i64 0,.int .i64 0,.int .i64 0]) (fI x) s.dU (s.bn.map enc);have hm:=qm (k:=fI x) (ks:=s.dU);have e:(enc (fI x):I)=.agg [.int .i64 x.other,.int .i64 x.no]:=rfl;rw[e] at h;rw[h,←hm];cases hf:s.dU.findIdx? fun y=>decide (fI x=y) with
 |none=>exact ⟨_,rfl,rfl,rfl,rfl⟩
 |some i =>
  have hi:=(List.findIdx?_eq_some_iff_getElem.1 hf).1;have hi2:i<s.bn.length:=by simpa[aB.dU] using hi
  refine ⟨enc s.bn[i],ev _,by rw[fq];rfl,eQ _,?_⟩;simp[hi2]
theorem rZ(s:aB)(x:bg):bf Tryz.prog 152 [dD s,enc x] (enc (s.unknown x)):=by
 refine bf.b9 Tryz.func152 Ie Je Kp (u8 rfl) (fun hwf W0 bH E1 =>?_);simp only[yQ,DE,bN,Z1];clear hwf;obtain ⟨v,hv1,hv2,hv3,hlk⟩:=VX s x;have hbld:(dO [.int .i64 0,.int .i64 0] [(0,.int .i64 x.other),(1,.int .i64 x.no)]).map I.agg=some (.agg [.int .i64 x.other,.int .i64 x.no]):=by simp[dO,I.bU,I.size]
 have hst:∀ A rest b,dp A (some 4) 5 [] b v rest (some (.agg [.int .i64 0,.int .i64 0,.int .i64 0,.int .i64 0]))=az rest (A.aV 5 (.box v)):=fun A rest b=>dP hv1 hv2 hv3;simp only[aB.unknown];rcases q:(x.other != s.av) <;>rcases q2:decide (fI x∈s.dU)
 all_goals
  rw[q2] at hlk;have R:=y6 @q (y6 @hv1 (y6 @hv2 (y6 @hbld (y6 @hst (y6 @hlk (y6 @ea (y6 @bp aH)))))))
  repeat' ((first |(with_reducible refine .guard (fun hb =>?_) (fun hb =>?_) <;>try simp only[hb])|refine ae.aJ (by decide +kernel) rfl fun K hK =>?_|(refine .aA [0,1,3,4,6] hK ?_;clear hK K)|(with_reducible refine .done (hK _ ?_);clear hK K)|refine ae.of rfl ?_|(with_reducible refine aC.aI (fun h =>?_) (fun h =>?_) <;>try simp only[h])) <;>try simp only[aK,R,simprocAttr])
  all_goals clear R
  rfl
theorem AI{α β:Type}(f:α→β):∀ (l:List α) (k:Nat),(l.map f).eraseIdx k=(l.eraseIdx k).map f
 | [],_=>rfl
 |_::_,0=>rfl
 |x::l,k+1=>by simp only[Z4,List.eraseIdx_cons_succ,AI f l k]
section
variable {α ι:Type} [Enc α] [DecidableEq α] [DecidableEq ι] {ty:cE}
omit [Enc α] [DecidableEq ι] in
theorem A1(f:ι→α)(g:ι→I)(z:I)(k:α):∀ l:List ι,(match (l.map f).findIdx? fun x=>decide (k=x) with
   |some i=>((l.map g)[i]?).map fun v=>(v,true)
   |none=>some (z,false))=(match l.find? fun i=>decide (k=f i) with
   |some i=>some (g i,true)
   |none=>some (z,false))
 | []=>rfl
 |x::l=>by
  have ih:=A1 f g z k l;simp only[Z4,List.findIdx?_cons,List.find?_cons];by_cases h:k=f x
  ·simp[h]
  ·simp only[h,decide_false,Z2,if_false];rw[←ih];cases (l.map f).findIdx? fun x=>decide (k=x) with
   |none=>rfl
   |some i=>simp
omit [DecidableEq ι] in
theorem Cg(ay:∀ x y:α,bZ ty (enc x) (enc y)=some (decide (x=y)))(f:ι→α)(g:ι→I)(z:I)(k:α)(l:List ι) :
  fu ty z (enc k) ((l.map f).map enc) (l.map g)=match l.find? fun i=>decide (k=f i) with
   |some i=>some (g i,true)
   |none=>some (z,false):=by
 exact (sY ay z k _ _).trans (A1 f g z k l)
theorem Cu(ay:∀ x y:α,bZ ty (enc x) (enc y)=some (decide (x=y)))(f:ι→α)(g:ι→I)(hf:∀ a b,f a=f b→a=b){l:List ι}{i:ι}(hi:i∈l) :
  lS ty (enc (f i)) ((l.map f).map enc) (l.map g)=some (((l.erase i).map f).map enc,(l.erase i).map g):=by
 have hf2:∀ a,(f i=f a)=(i=a):=fun a=>propext ⟨hf i a,fun e=>by rw[e]⟩;have key:∀ l:List ι,i∈l→∃ k,(l.map f).findIdx? (fun x=>decide (f i=x))=some k∧l.eraseIdx k=l.erase i:=by
  intro l
  induction l with
  |nil=>intro h;cases h
  |cons x l ih =>
   intro h;simp only[Z4,List.findIdx?_cons,hf2];by_cases e:i=x
   ·subst e;exact ⟨0,by simp,by simp⟩
   ·obtain ⟨k,J,U⟩:=ih (by simpa[e] using h);refine ⟨k+1,?_,?_⟩
    ·simp only[e,decide_false,Z2,if_false,J,Z7]
    ·rw[List.eraseIdx_cons_succ,U,List.erase_cons_tail (by simpa using fun h=>e h.symm)]
 obtain ⟨k,J,U⟩:=key l hi;simp only[lS,ay,Option.isSome_some,if_true,sH ay,J,Z7,Nat.add_zero];rw[←U];simp only[AI]
end
theorem EI(l:List Int):List.replicate l.length (I.bool true)=l.map fun _=>.bool true:=by
 induction l with
 |nil=>rfl
 |cons x l ih=>simp[List.replicate_succ,ih]
theorem Cv{l:List Int}{b:Int}(h:b∈l):lS (.i .i64) (.int .i64 b) (l.map enc) (List.replicate l.length (.bool true))=some ((l.erase b).map enc,List.replicate (l.erase b).length (.bool true)):=by
 have:=Cu eS (fun x:Int=>x) (fun _=>.bool true) (fun _ _ h=>h) h;simp only[List.map_id',eE] at this;rw[EI,EI];exact this
theorem h3{s:aB}{no:Int}{i:Nat}(h:s.at no=some i):i∈s.aQ∧no=(i:Int)+1 :=
 ⟨List.mem_of_find?_eq_some h,by simpa using List.find?_some h⟩
theorem sZ{s:aB}(g:Nat→I)(no:Int):fu (.i .i64) .nilp (.int .i64 no) (s.bE.map enc) (s.aQ.map g)=match s.at no with
   |some i=>some (g i,true)
   |none=>some (.nilp,false):=by
 have h:=Cg eS (fun i:Nat=>(i:Int)+1) g .nilp no s.aQ;rw[eE] at h;refine h.trans ?_;unfold aB.at;generalize s.aQ.find? (fun i:Nat=>decide (no=(i:Int)+1))=q;cases q <;>rfl
theorem Cw{s:aB}(g:Nat→I){i:Nat}(h:i∈s.aQ):lS (.i .i64) (.int .i64 ((i:Int)+1)) (s.bE.map enc) (s.aQ.map g)=some (({ s with aQ:=s.aQ.erase i } : aB).bE.map enc,(s.aQ.erase i).map g) :=
 Cu eS (fun i:Nat=>(i:Int)+1) g (fun a b h=>by omega) h
theorem mM{s:aB}{x:bg}{i:Nat}(h:s.on x=some i):s.at x.no=some i∧(s.bJ i).to=x.other∧(s.bJ i).aD=x.aD:=by
 simp only[aB.on] at h;split at h
 ·rename_i j hj;split at h
  ·rename_i bC;cases h;exact ⟨hj,bC⟩
  ·cases h
 ·cases h
def di(s:aB)(x:bg):Option aB :=
 if x.kind=1 then if x.aD∈s.here∨s.fg x.aD=true then none else some { s with here:=gw s.here x.aD }
 else if x.kind=2 then if x.aD∈s.here then some { s with here:=s.here.erase x.aD } else none
 else if x.kind=3 then if x.aD∈s.here∧x.other≠s.av∧x.no=(s.all.length:Int)+1 then
  some { s with here:=s.here.erase x.aD,all:=s.all++[⟨x.no,x.other,x.aD,false⟩],aQ:=s.aQ++[s.all.length] } else none
 else if x.kind=4 then match s.on x with
  |some i=>if (s.bJ i).c9 then none else some { s with all:=s.all.set i { s.bJ i with c9:=true } }
  |none=>none
 else if x.kind=5 then match s.on x with
  |some i=>some { s with aQ:=s.aQ.erase i }
  |none=>none
 else if x.kind=6 then match s.on x with
  |some i=>if (s.bJ i).c9 then some { s with aQ:=s.aQ.erase i,here:=gw s.here x.aD } else none
  |none=>none
 else if x.kind=7 then if s.unknown x=true∧x.aD∉s.here∧s.fg x.aD=false then some { s with bn:=s.bn++[x],here:=gw s.here x.aD } else none
 else if x.kind=8 then if s.unknown x=true then some { s with bn:=s.bn++[x] } else none
 else none
def fh(s:aB)(x:bg):Option aB:=if eJ x then di s x else none
structure cu (s:aB):Prop where
 cv:∀ i∈s.aQ,i<s.all.length
 ic:s.aQ.Nodup
 af:s.here.Nodup
theorem nu{l:List Int}{b:Int}(h:l.Nodup):(gw l b).Nodup:=by
 unfold gw;split
 ·exact h
 ·rename_i hb;exact List.nodup_append.2 ⟨h,by simp,fun a ha c hc e=>by rw[zz7.1 hc] at e;exact hb (e▸ha)⟩
theorem cu.next{s s':aB}{x:bg}(h:cu s)(hn:di s x=some s'):cu s'∧s'.av=s.av∧s'.all.length≤s.all.length+1∧(x.kind≠3→s'.all.length=s.all.length):=by
 obtain ⟨J,U,ah⟩:=h;simp only[di] at hn;split at hn
 ·split at hn <;>cases hn
  exact ⟨⟨J,U,nu ah⟩,rfl,by simp,fun _=>rfl⟩
 split at hn
 ·split at hn <;>cases hn
  exact ⟨⟨J,U,ah.erase _⟩,rfl,by simp,fun _=>rfl⟩
 split at hn
 ·rename_i hk;split at hn <;>cases hn
  refine ⟨⟨fun i hi =>?_,?_,ah.erase _⟩,rfl,by simp,fun h=>absurd hk h⟩
  ·simp only[zy0,zz7] at hi;simp only[Z6,List.length_singleton];rcases hi with hi | hi
   ·have:=J i hi;omega
   ·omega
  ·exact List.nodup_append.2 ⟨U,by simp,fun a ha c hc e=>by rw[zz7.1 hc] at e;have:=J a ha;omega⟩
 split at hn
 ·split at hn
  ·split at hn <;>cases hn
   exact ⟨⟨fun i hi=>by simpa using J i hi,U,ah⟩,rfl,by simp,fun _=>by simp⟩
  ·cases hn
 split at hn
 ·split at hn <;>cases hn
  exact ⟨⟨fun i hi=>J i (List.mem_of_mem_erase hi),U.erase _,ah⟩,rfl,by simp,fun _=>rfl⟩
 split at hn
 ·split at hn
  ·split at hn <;>cases hn
   exact ⟨⟨fun i hi=>J i (List.mem_of_mem_erase hi),U.erase _,nu ah⟩,rfl,by simp,fun _=>rfl⟩
  ·cases hn
 split at hn
 ·split at hn <;>cases hn
  exact ⟨⟨J,U,nu ah⟩,rfl,by simp,fun _=>rfl⟩
 split at hn
 ·split at hn <;>cases hn
  exact ⟨⟨J,U,ah⟩,rfl,by simp,fun _=>rfl⟩
 cases hn
theorem gS{ts:List (Nat×I)}{os:List (Nat×aq)}{B:Nat}{ν:Nat→Nat}{s:aB}(hg:gu B ν s.all.length)(ao:∀ i∈s.aQ,i<s.all.length)(h:∀ n,aw (ed B ν s) n=true→aj os n=aj (ed B ν s) n):x7 (au ts os) B ν s:=by
 have go:∀ n x,aj (ed B ν s) n=some x→(au ts os).o n=some x:=fun n x hx=>(h n (by simp[aw,hx])).trans hx;refine ⟨go _ _ fA,go _ _ fW,go _ _ gi,go _ _ gj,go _ _ oy,fun i hi =>?_,ao⟩;rw[go _ _ (ji hg hi)];simp[aB.bJ,Z0,hi]
def fC:List PanicEntry:=[{ v:=.iface 144 (.agg #[]),recovered:=false }]
theorem V6(w:World):Calls Tryz.prog 114 #[.bool false] w fun e w'=>e=.panicked fC∧w'=w:=by
 go_enter Tryz.func114,Tryz.ntmps114
 go_wp2
 exact ⟨rfl,rfl,rfl⟩
theorem FH:fi Tryz.prog 114 fC [enc false] [] (fun os'=>os'=[]) :=
 fi.Xq zH (fun w D vs hv=>by
  have hv':aF w D c4 [.bool false] vs:=hv;simp only[aF] at hv';obtain ⟨v,rest,cs,rfl,J,U,rfl⟩:=hv';have:v=.bool false:=kq (ju J U);subst this;exact V6 w) rfl
theorem kB:bf Tryz.prog 114 [enc true] (.tuple []):=by
 refine bf.b9 Tryz.func114 zH Jb Kd (u8 rfl) (fun hwf W0 bH E1 =>?_);simp only[yN,Dq,bN];have R:=y6 @kv @bG
 repeat' ((first |refine ae.aJ (by decide +kernel) rfl fun K hK =>?_|(refine .aA [0,3] hK ?_;clear hK K)|(with_reducible refine .done (hK _ ?_);clear hK K)|refine ae.of rfl ?_|(with_reducible refine aC.aI (fun h =>?_) (fun h =>?_) <;>try simp only[h])) <;>try simp only[aK,R,simprocAttr])
 all_goals clear R
 all_goals rfl
theorem XP:r3 Tryz.prog 113:=⟨zG,fun b T w x hb=>by
 refine callsDIn_of_wpSIn Tryz.func113 rfl trivial fun c₀ cs hu =>?_;apply wpSIn_seq;apply wpSIn_region;simp[wpOpsSIn,go_sem,recoverD,hu,Tryz.ntmps113,Exit.thenS];apply wpSIn_seq;apply wpSIn_region;simp[wpOpsSIn,go_sem,Exit.thenS];refine wpSIn_cond (t:=false) (by simp[Act.eval,Array.replicate]) ?_;simp only[Z2,if_false];refine wpSIn_of_wpIn rfl (wpIn_skip ?_);cases c₀
 simp_all[bodyPostS,results,Tryz.results113]⟩
theorem XO:rW Tryz.prog 113 fC:=⟨zG,fun b T w x hb=>by
 have hc:w.cell? ⟨b,0,none⟩=some (.bool x):=by simp[World.cell?,hb]
 have hz:w.frozen? ⟨b,0,none⟩=false:=by simp[World.frozen?,hb]
 have hta:∀ W,(Instr.typeAssert (.iface 144 (.agg #[])) 20 144 true).run Tryz.prog W=.ok (.tuple #[.agg #[],.bool true]) W:=fun W=>by
  simp[Instr.typeAssert,run_underlying Tryz.underlying144]
 refine callsDIn_of_wpSIn Tryz.func113 rfl trivial fun c₀ cs hu =>?_;apply wpSIn_seq;apply wpSIn_region;simp[wpOpsSIn,go_sem,recoverD,hu,Tryz.ntmps113,Exit.thenS,fC];apply wpSIn_seq;apply wpSIn_region;simp[wpOpsSIn,go_sem,Exit.thenS];refine wpSIn_cond (t:=true) (by simp[Act.eval,Array.replicate]) ?_;simp only[if_true];apply wpSIn_seq;apply wpSIn_seq;apply wpSIn_region;simp[wpOpsSIn,go_sem,Exit.thenS,hta];apply wpSIn_seq;apply wpSIn_region;simp[wpOpsSIn,go_sem,Exit.thenS];refine wpSIn_cond (t:=false) (by simp[Act.eval,Array.replicate]) ?_;simp only[Z2,if_false];refine wpSIn_of_wpIn rfl (wpIn_skip ?_);simp only[Exit.thenS];have hb2:(w.alloc (.cells #[] 144)).heap[b]?=some (.cells #[.bool x] T (0,0)):=(RowKit.Below.heap_alloc _ _ _ (fM hb)).trans hb;have hc2:(w.alloc (.cells #[] 144)).cell? ⟨b,0,none⟩=some (.bool x):=by simp[World.cell?,hb2]
 have hz2:(w.alloc (.cells #[] 144)).frozen? ⟨b,0,none⟩=false:=by simp[World.frozen?,hb2]
 apply wpSIn_region;simp[wpOpsSIn,go_sem,hc2,hz2,bodyPostS,results,Tryz.results113];exact ⟨rfl,_,p7 _ _,rfl⟩⟩
abbrev aL(s:aB):List (Nat×aq):=ed 1000000 (bD 1000000) s
def mO(s:aB):cF:=fun r os'=>r=.tuple []∧os'=aL s
def jY(s:aB)(os':List (Nat×aq)):Prop:=os'=aL s
theorem dE(k:Nat):gu 1000000 (bD 1000000) k:=gu.bD _ _
theorem dx{s:aB} : ∀ m,aw (aL s) m=true→1000000≤m:=YE (dE _) fun i _=>by simp[bD];omega
theorem iw{s:aB}(hk:cu s){n:Nat}{x:aq}(h:aj (aL s) n=some x):x.only (aw (aL s))=true∧x.eh=true:=lv (dE _) hk.cv h
theorem l7{ts:List (Nat×I)}{os os':List (Nat×aq)}{post:cF}(ho:∀ n,aw os' n=true→aj os n=aj os' n)(hg:∀ n x,aj os' n=some x→x.only (aw os')=true∧x.eh=true)(hp:post (jX []) os'):iW [] post (au ts os) :=
 ⟨os',[],fun n x hx=>⟨by show aj os n=some x;rw[ho n (by simp[aw,hx])];exact hx,hg n x hx⟩,trivial,hp⟩
theorem l8(rs post)(A:ai):oa rs post .normal A=iW rs post A:=rfl
theorem iq{Q:Exit→ai→Prop}{ts:List (Nat×I)}{os0:List (Nat×aq)}(hq:Q (.panic fC) (au ts os0)):nr Tryz.prog Q 114 [.bool false] (au ts os0) :=
 .mk false [] [] [enc false] fC _ FH ⟨fun m x h=>by simp[aj] at h,fun m m' h=>by simp[aw,aj] at h⟩ ⟨.inl ⟨rfl,rfl,rfl⟩,trivial⟩
  (fun os' h=>by subst h;exact ⟨fun m x h=>by simp[aj] at h,fun m m' h=>by simp[aw,aj] at h,fun m h=>h,fun m h=>by simp[aw,aj] at h,rfl,fun h=>by cases h⟩) (fun os' h=>by subst h;exact hq)
theorem gZ{s:aB}(hk:cu s){ts:List (Nat×I)}{z:aq} : wX fC (jY s) (.panic fC) (au ts ((3,z)::aL s)) :=
 ⟨rfl,l7 (fun n hn=>by have:=dx n hn;simp only[aj];rw[if_neg (by omega)]) (fun _ _ h=>iw hk h) ⟨rfl,rfl⟩⟩
theorem bu:(∀ (a b:Int) v,dm [.int .i64 a,.mref 1000001,.mref 1000002,.int .i64 b,.mref 1000003,.mref 1000004] 0 0 v=some v)∧(∀ (a b:Int) v,dm [.int .i64 a,.mref 1000001,.mref 1000002,.int .i64 b,.mref 1000003,.mref 1000004] 1 1 v=some v)∧(∀ (a b:Int) v,dm [.int .i64 a,.mref 1000001,.mref 1000002,.int .i64 b,.mref 1000003,.mref 1000004] 2 2 v=some v)∧(∀ (a b:Int) v,dm [.int .i64 a,.mref 1000001,.mref 1000002,.int .i64 b,.mref 1000003,.mref 1000004] 3 3 v=some v)∧(∀ (a b:Int) v,dm [.int .i64 a,.mref 1000001,.mref 1000002,.int .i64 b,.mref 1000003,.mref 1000004] 4 4 v=some v)∧(∀ (a b:Int) v,dm [.int .i64 a,.mref 1000001,.mref 1000002,.int .i64 b,.mref 1000003,.mref 1000004] 5 5 v=some v)∧(∀ a b c d e:I,(I.agg [a,.mref 1000001,b,c,d,e]).bw=false) :=
 ⟨fun _ _ _=>rfl,fun _ _ _=>rfl,fun _ _ _=>rfl,fun _ _ _=>rfl,fun _ _ _=>rfl,fun _ _ _=>rfl,fun a b c d e=>by simp[I.bw,I.cg]⟩
theorem FK(s:aB)(hk:cu s)(x:bg)(hy:x.aD∉s.here∧s.fg x.aD=false):cU Tryz.prog 125 [.ptr 1000000 [],enc x] (aL s) (mO { s with here:=gw s.here x.aD }):=by
 refine cU.b9 Tryz.func125 zI zZ Kf (u8 rfl) (u8 rfl) dx (fun hwf W0 bH E1 =>?_);simp only[uK,Ds,bN,Z1];clear hwf;have n3:aj (aL s) 3=none:=eH (.inl (by omega)) fun i _=>by simp[bD];omega
 have aW:aj (aL s) 1000000=some (.box (.agg [.int .i64 s.av,.mref 1000001,.mref 1000002,.int .i64 s.all.length,.mref 1000003,.mref 1000004])):=fA;have J:aj (aL s) 1000001=some (.bt (s.here.map enc) (List.replicate s.here.length (.bool true))):=fW;have U:aj (aL s) 1000002=some (.bt (s.bE.map enc) (dS (bD 1000000) s.aQ)):=gi;have ah:aj (aL s) 1000003=some (.bt (s.dU.map enc) (s.bn.map enc)):=gj;have hfin:∀ ts,cY (au ts ((3,.box (enc x))::aL s)) 9 (.agg [.int .i64 s.av,.mref 1000001,.mref 1000002,.int .i64 s.all.length,.mref 1000003,.mref 1000004])=some (fV s):=fun ts =>
  gQ (gS (dE _) hk.cv fun n hn=>by have:=dx n hn;simp only[aj];rw[if_neg (by omega)]) 4
 have hlk:=ga eS x.aD s.here;rw[eE] at hlk;have q1:decide (x.aD∈s.here)=false:=decide_eq_false hy.1;have hF:=pW s x.aD;rw[hy.2] at hF;have hup:=wE eS x.aD s.here;rw[eE] at hup;have R:=y6 @n3 (y6 @aW (y6 @J (y6 @hfin (y6 @hlk (y6 @q1 (y6 @hup (y6 @bu (y6 @bp aH))))))))
 repeat' ((first |(with_reducible refine .guard (fun hb =>?_) (fun hb =>?_) <;>try simp only[hb])|refine ae.aJ (by decide +kernel) rfl fun K hK =>?_|refine .flat _ (hF) rfl ?_|refine .flat _ (kB) rfl ?_|(refine .aA [0,1,3] hK ?_;clear hK K)|(with_reducible refine .done (hK _ ?_);clear hK K)|refine ae.of rfl ?_|(with_reducible refine aC.aI (fun h =>?_) (fun h =>?_) <;>try simp only[h])) <;>try simp only[aK,R,simprocAttr])
 all_goals clear R
 rw[l8];refine l7 (fun n hn =>?_) (fun _ _ h=>iw (s := { s with here:=gw s.here x.aD }) ⟨hk.cv,hk.ic,nu hk.af⟩ h) ⟨rfl,rfl⟩;have:=dx n hn;simp only[aL,ed,aj];rw[if_neg (show ¬ n=3 by omega)]
 (repeat' split) <;>first | rfl | omega
theorem FL(s:aB)(hk:cu s)(x:bg)(hy:x.aD∈s.here∨s.fg x.aD=true):fi Tryz.prog 125 fC [.ptr 1000000 [],enc x] (aL s) (jY s):=by
 refine fi.mk Tryz.func125 zI zZ (u8 rfl) (u8 rfl) dx (fun hwf W0 bH E1 =>?_);simp only[uK,bN,Z1];clear hwf;have n3:aj (aL s) 3=none:=eH (.inl (by omega)) fun i _=>by simp[bD];omega
 have aW:aj (aL s) 1000000=some (.box (.agg [.int .i64 s.av,.mref 1000001,.mref 1000002,.int .i64 s.all.length,.mref 1000003,.mref 1000004])):=fA;have J:aj (aL s) 1000001=some (.bt (s.here.map enc) (List.replicate s.here.length (.bool true))):=fW;have U:aj (aL s) 1000002=some (.bt (s.bE.map enc) (dS (bD 1000000) s.aQ)):=gi;have ah:aj (aL s) 1000003=some (.bt (s.dU.map enc) (s.bn.map enc)):=gj;have hfin:∀ ts,cY (au ts ((3,.box (enc x))::aL s)) 9 (.agg [.int .i64 s.av,.mref 1000001,.mref 1000002,.int .i64 s.all.length,.mref 1000003,.mref 1000004])=some (fV s):=fun ts =>
  gQ (gS (dE _) hk.cv fun n hn=>by have:=dx n hn;simp only[aj];rw[if_neg (by omega)]) 4
 have hlk:=ga eS x.aD s.here;rw[eE] at hlk;have hF:=pW s x.aD;rcases q1:decide (x.aD∈s.here)
 ·have q2:s.fg x.aD=true:=hy.resolve_left (by simpa using q1);rw[q2] at hF;have R:=y6 @n3 (y6 @aW (y6 @J (y6 @hfin (y6 @hlk (y6 @q1 (y6 @bu (y6 @bp aH)))))))
  repeat' ((first |(with_reducible refine .guard (fun hb =>?_) (fun hb =>?_) <;>try simp only[hb])|(refine ae.jw (gs:=qt) 15 [] [] [0,1,2,3,4,5,6,7,8,9,10,11,12,13,14] (by decide +kernel) rfl (cW.of (by simp[ft])) fun K hK =>?_;simp only[fe,qt,gx,Z9,zz9,List.take_zero,Y9,zz0,R,simprocAttr])|refine ae.aJ (by decide +kernel) rfl fun K hK =>?_|refine .flat _ (hF) rfl ?_|(refine .aA [0,1,3] hK ?_;clear hK K)|(with_reducible refine .done (hK _ ?_);clear hK K)|refine ae.of rfl ?_|(with_reducible refine aC.aI (fun h =>?_) (fun h =>?_) <;>try simp only[h])) <;>try simp only[aK,R,simprocAttr])
  all_goals clear R
  exact .call (iq (gZ hk))
 ·have R:=y6 @n3 (y6 @aW (y6 @J (y6 @hfin (y6 @hlk (y6 @q1 (y6 @bu (y6 @bp aH)))))))
  repeat' ((first |(with_reducible refine .guard (fun hb =>?_) (fun hb =>?_) <;>try simp only[hb])|(refine ae.jw (gs:=qt) 15 [] [] [0,1,2,3,4,5,6,7,8,9,10,11,12,13,14] (by decide +kernel) rfl (cW.of (by simp[ft])) fun K hK =>?_;simp only[fe,qt,gx,Z9,zz9,List.take_zero,Y9,zz0,R,simprocAttr])|refine ae.aJ (by decide +kernel) rfl fun K hK =>?_|refine .flat _ (hF) rfl ?_|(refine .aA [0,1,3] hK ?_;clear hK K)|(with_reducible refine .done (hK _ ?_);clear hK K)|refine ae.of rfl ?_|(with_reducible refine aC.aI (fun h =>?_) (fun h =>?_) <;>try simp only[h])) <;>try simp only[aK,R,simprocAttr])
  all_goals clear R
  exact .call (iq (gZ hk))
theorem FM(s:aB)(hk:cu s)(x:bg)(hy:x.aD∈s.here):cU Tryz.prog 126 [.ptr 1000000 [],enc x] (aL s) (mO { s with here:=s.here.erase x.aD }):=by
 refine cU.b9 Tryz.func126 zJ z7 Kg (u8 rfl) (u8 rfl) dx (fun hwf W0 bH E1 =>?_);simp only[uL,Dt,bN,Z1];clear hwf;have n3:aj (aL s) 3=none:=eH (.inl (by omega)) fun i _=>by simp[bD];omega
 have aW:aj (aL s) 1000000=some (.box (.agg [.int .i64 s.av,.mref 1000001,.mref 1000002,.int .i64 s.all.length,.mref 1000003,.mref 1000004])):=fA;have J:aj (aL s) 1000001=some (.bt (s.here.map enc) (List.replicate s.here.length (.bool true))):=fW;have U:aj (aL s) 1000002=some (.bt (s.bE.map enc) (dS (bD 1000000) s.aQ)):=gi;have ah:aj (aL s) 1000003=some (.bt (s.dU.map enc) (s.bn.map enc)):=gj;have hfin:∀ ts,cY (au ts ((3,.box (enc x))::aL s)) 9 (.agg [.int .i64 s.av,.mref 1000001,.mref 1000002,.int .i64 s.all.length,.mref 1000003,.mref 1000004])=some (fV s):=fun ts =>
  gQ (gS (dE _) hk.cv fun n hn=>by have:=dx n hn;simp only[aj];rw[if_neg (by omega)]) 4
 have hlk:=ga eS x.aD s.here;rw[eE] at hlk;have q1:decide (x.aD∈s.here)=true:=decide_eq_true hy;have hdl:=Cv hy;have R:=y6 @n3 (y6 @aW (y6 @J (y6 @hfin (y6 @hlk (y6 @q1 (y6 @hdl (y6 @bu (y6 @bp aH))))))))
 repeat' ((first |refine ae.aJ (by decide +kernel) rfl fun K hK =>?_|refine .flat _ (kB) rfl ?_|(refine .aA [0,1,3] hK ?_;clear hK K)|(with_reducible refine .done (hK _ ?_);clear hK K)|refine ae.of rfl ?_|(with_reducible refine aC.aI (fun h =>?_) (fun h =>?_) <;>try simp only[h])) <;>try simp only[aK,R,simprocAttr])
 all_goals clear R
 rw[l8];refine l7 (fun n hn =>?_) (fun _ _ h=>iw (s := { s with here:=s.here.erase x.aD }) ⟨hk.cv,hk.ic,hk.af.erase _⟩ h) ⟨rfl,rfl⟩;have:=dx n hn;simp only[aL,ed,aj];rw[if_neg (show ¬ n=3 by omega)]
 (repeat' split) <;>first | rfl | omega
theorem FN(s:aB)(hk:cu s)(x:bg)(hy:x.aD∉s.here):fi Tryz.prog 126 fC [.ptr 1000000 [],enc x] (aL s) (jY s):=by
 refine fi.mk Tryz.func126 zJ z7 (u8 rfl) (u8 rfl) dx (fun hwf W0 bH E1 =>?_);simp only[uL,bN,Z1];clear hwf;have n3:aj (aL s) 3=none:=eH (.inl (by omega)) fun i _=>by simp[bD];omega
 have aW:aj (aL s) 1000000=some (.box (.agg [.int .i64 s.av,.mref 1000001,.mref 1000002,.int .i64 s.all.length,.mref 1000003,.mref 1000004])):=fA;have J:aj (aL s) 1000001=some (.bt (s.here.map enc) (List.replicate s.here.length (.bool true))):=fW;have U:aj (aL s) 1000002=some (.bt (s.bE.map enc) (dS (bD 1000000) s.aQ)):=gi;have ah:aj (aL s) 1000003=some (.bt (s.dU.map enc) (s.bn.map enc)):=gj;have hfin:∀ ts,cY (au ts ((3,.box (enc x))::aL s)) 9 (.agg [.int .i64 s.av,.mref 1000001,.mref 1000002,.int .i64 s.all.length,.mref 1000003,.mref 1000004])=some (fV s):=fun ts =>
  gQ (gS (dE _) hk.cv fun n hn=>by have:=dx n hn;simp only[aj];rw[if_neg (by omega)]) 4
 have hlk:=ga eS x.aD s.here;rw[eE] at hlk;have q1:decide (x.aD∈s.here)=false:=decide_eq_false hy;have R:=y6 @n3 (y6 @aW (y6 @J (y6 @hfin (y6 @hlk (y6 @q1 (y6 @bu (y6 @bp aH)))))))
 repeat' ((first |(refine ae.jw (gs:=vM) 7 [] [] [0,1,2,3,4,5,6] (by decide +kernel) rfl (cW.of (by simp[ft])) fun K hK =>?_;simp only[fe,vM,gx,Z9,zz9,List.take_zero,Y9,zz0,R,simprocAttr])|refine ae.aJ (by decide +kernel) rfl fun K hK =>?_|(refine .aA [0,1,3] hK ?_;clear hK K)|(with_reducible refine .done (hK _ ?_);clear hK K)|refine ae.of rfl ?_|(with_reducible refine aC.aI (fun h =>?_) (fun h =>?_) <;>try simp only[h])) <;>try simp only[aK,R,simprocAttr])
 all_goals clear R
 exact .call (iq (gZ hk))
def C6(s:aB)(i:Nat):cF:=fun r os'=>r=.ptr (bD 1000000 i) []∧os'=aL s
theorem jU:(∀ i,(3=bD 1000000 i)=False)∧(∀ i,(bD 1000000 i=3)=False):=⟨fun i=>by simp[bD];omega,fun i=>by simp[bD];omega⟩
theorem pV(s:aB)(hk:cu s)(x:bg)(i:Nat)(hy:s.on x=some i):cU Tryz.prog 151 [.ptr 1000000 [],enc x] (aL s) (C6 s i):=by
 refine cU.b9 Tryz.func151 zQ Af Ko (u8 rfl) (u8 rfl) dx (fun hwf W0 bH E1 =>?_);simp only[uS,DC,bN,Z1];clear hwf;have n3:aj (aL s) 3=none:=eH (.inl (by omega)) fun i _=>by simp[bD];omega
 have aW:aj (aL s) 1000000=some (.box (.agg [.int .i64 s.av,.mref 1000001,.mref 1000002,.int .i64 s.all.length,.mref 1000003,.mref 1000004])):=fA;have J:aj (aL s) 1000001=some (.bt (s.here.map enc) (List.replicate s.here.length (.bool true))):=fW;have U:aj (aL s) 1000002=some (.bt (s.bE.map enc) (dS (bD 1000000) s.aQ)):=gi;have ah:aj (aL s) 1000003=some (.bt (s.dU.map enc) (s.bn.map enc)):=gj;have hfin:∀ ts,cY (au ts ((3,.box (enc x))::aL s)) 9 (.agg [.int .i64 s.av,.mref 1000001,.mref 1000002,.int .i64 s.all.length,.mref 1000003,.mref 1000004])=some (fV s):=fun ts =>
  gQ (gS (dE _) hk.cv fun n hn=>by have:=dx n hn;simp only[aj];rw[if_neg (by omega)]) 4
 have hlk:=ga eS x.aD s.here;rw[eE] at hlk;obtain ⟨ha,hb1,hb2⟩:=mM hy;have hil:=(h3 ha).1;have hlt:=hk.cv i hil;have hlr:=sZ (s:=s) (fun i=>.ptr (bD 1000000 i) []) x.no;have hpt:(s.aQ.map fun i=>I.ptr (bD 1000000 i) [])=dS (bD 1000000) s.aQ:=rfl;rw[hpt] at hlr;rw[ha] at hlr;simp only at hlr;have hb:aj (aL s) (bD 1000000 i)=some (.box (enc (s.bJ i))):=by
  have:=ji (dE s.all.length) (B:=1000000) hlt;rw[this];simp[aB.bJ,Z0,hlt]
 have q1:((s.bJ i).to==x.other)=true:=by simpa using hb1
 have q2:((s.bJ i).aD==x.aD)=true:=by simpa using hb2
 have R:=y6 @n3 (y6 @aW (y6 @U (y6 @hb (y6 @hlr (y6 @q1 (y6 @q2 (y6 @jU (y6 @bu (y6 @bp aH)))))))))
 repeat' ((first |(with_reducible refine .guard (fun hb =>?_) (fun hb =>?_) <;>try simp only[hb])|refine ae.aJ (by decide +kernel) rfl fun K hK =>?_|refine .flat _ (kB) rfl ?_|(refine .aA [0,1,3,4,5,6] hK ?_;clear hK K)|(with_reducible refine .done (hK _ ?_);clear hK K)|refine ae.of rfl ?_|(with_reducible refine aC.aI (fun h =>?_) (fun h =>?_) <;>try simp only[h])) <;>try simp only[aK,R,simprocAttr])
 all_goals clear R
 refine ⟨aL s,[.ptr (bD 1000000 i) []],fun n y hy=>⟨?_,iw hk hy⟩,⟨⟨_,rfl,.inl ⟨rfl,rfl,?_⟩⟩,trivial⟩,rfl,rfl⟩
 ·have:=dx (s:=s) n (by simp[aw,hy])
  show aj ((3,_)::aL s) n=_
  simp only[aj];rw[if_neg (by omega)];exact hy
 ·exact (dL (dE _)).2 (.inr ⟨i,hlt,rfl⟩)
theorem FZ(s:aB)(hk:cu s)(x:bg)(hy:s.on x=none):fi Tryz.prog 151 fC [.ptr 1000000 [],enc x] (aL s) (jY s):=by
 refine fi.mk Tryz.func151 zQ Af (u8 rfl) (u8 rfl) dx (fun hwf W0 bH E1 =>?_);simp only[uS,bN,Z1];clear hwf;have n3:aj (aL s) 3=none:=eH (.inl (by omega)) fun i _=>by simp[bD];omega
 have aW:aj (aL s) 1000000=some (.box (.agg [.int .i64 s.av,.mref 1000001,.mref 1000002,.int .i64 s.all.length,.mref 1000003,.mref 1000004])):=fA;have J:aj (aL s) 1000001=some (.bt (s.here.map enc) (List.replicate s.here.length (.bool true))):=fW;have U:aj (aL s) 1000002=some (.bt (s.bE.map enc) (dS (bD 1000000) s.aQ)):=gi;have ah:aj (aL s) 1000003=some (.bt (s.dU.map enc) (s.bn.map enc)):=gj;have hfin:∀ ts,cY (au ts ((3,.box (enc x))::aL s)) 9 (.agg [.int .i64 s.av,.mref 1000001,.mref 1000002,.int .i64 s.all.length,.mref 1000003,.mref 1000004])=some (fV s):=fun ts =>
  gQ (gS (dE _) hk.cv fun n hn=>by have:=dx n hn;simp only[aj];rw[if_neg (by omega)]) 4
 have hlk:=ga eS x.aD s.here;rw[eE] at hlk;have hlr:=sZ (s:=s) (fun i=>.ptr (bD 1000000 i) []) x.no;have hpt:(s.aQ.map fun i=>I.ptr (bD 1000000 i) [])=dS (bD 1000000) s.aQ:=rfl;rw[hpt] at hlr;cases ha:s.at x.no with
 |none =>
  rw[ha] at hlr;simp only at hlr;have R:=y6 @n3 (y6 @aW (y6 @U (y6 @hlr (y6 @jU (y6 @bu (y6 @bp aH))))))
  repeat' ((first |(with_reducible refine .guard (fun hb =>?_) (fun hb =>?_) <;>try simp only[hb])|(refine ae.jw (gs:=nJ) 19 [] [] [0,1,2,3,4,5,6,7,8,9,10,11,12,13,14,15,16,17,18] (by decide +kernel) rfl (cW.of (by simp[ft])) fun K hK =>?_;simp only[fe,nJ,gx,Z9,zz9,List.take_zero,Y9,zz0,R,simprocAttr])|refine ae.aJ (by decide +kernel) rfl fun K hK =>?_|(refine .aA [0,1,3,4,5,6] hK ?_;clear hK K)|(with_reducible refine .done (hK _ ?_);clear hK K)|refine ae.of rfl ?_|(with_reducible refine aC.aI (fun h =>?_) (fun h =>?_) <;>try simp only[h])) <;>try simp only[aK,R,simprocAttr])
  all_goals clear R
  exact .call (iq (gZ hk))
 |some i =>
  have hil:=(h3 ha).1;have hlt:=hk.cv i hil;rw[ha] at hlr;simp only at hlr;have hb:aj (aL s) (bD 1000000 i)=some (.box (enc (s.bJ i))):=by
   have:=ji (dE s.all.length) (B:=1000000) hlt;rw[this];simp[aB.bJ,Z0,hlt]
  rcases q1:((s.bJ i).to==x.other)
  ·have R:=y6 @n3 (y6 @aW (y6 @U (y6 @hb (y6 @hlr (y6 @q1 (y6 @jU (y6 @bu (y6 @bp aH))))))))
   repeat' ((first |(with_reducible refine .guard (fun hb =>?_) (fun hb =>?_) <;>try simp only[hb])|(refine ae.jw (gs:=nJ) 19 [] [] [0,1,2,3,4,5,6,7,8,9,10,11,12,13,14,15,16,17,18] (by decide +kernel) rfl (cW.of (by simp[ft])) fun K hK =>?_;simp only[fe,nJ,gx,Z9,zz9,List.take_zero,Y9,zz0,R,simprocAttr])|refine ae.aJ (by decide +kernel) rfl fun K hK =>?_|(refine .aA [0,1,3,4,5,6] hK ?_;clear hK K)|(with_reducible refine .done (hK _ ?_);clear hK K)|refine ae.of rfl ?_|(with_reducible refine aC.aI (fun h =>?_) (fun h =>?_) <;>try simp only[h])) <;>try simp only[aK,R,simprocAttr])
   all_goals clear R
   exact .call (iq (gZ hk))
  ·have q2:((s.bJ i).aD==x.aD)=false:=by
    simp only[aB.on,ha] at hy;split at hy
    ·cases hy
    ·rename_i h;simp only[beq_iff_eq] at q1;simp only[beq_eq_false_iff_ne,ne_eq];exact fun e=>h ⟨q1,e⟩
   have R:=y6 @n3 (y6 @aW (y6 @U (y6 @hb (y6 @hlr (y6 @q1 (y6 @q2 (y6 @jU (y6 @bu (y6 @bp aH)))))))))
   repeat' ((first |(with_reducible refine .guard (fun hb =>?_) (fun hb =>?_) <;>try simp only[hb])|(refine ae.jw (gs:=nJ) 19 [] [] [0,1,2,3,4,5,6,7,8,9,10,11,12,13,14,15,16,17,18] (by decide +kernel) rfl (cW.of (by simp[ft])) fun K hK =>?_;simp only[fe,nJ,gx,Z9,zz9,List.take_zero,Y9,zz0,R,simprocAttr])|refine ae.aJ (by decide +kernel) rfl fun K hK =>?_|(refine .aA [0,1,3,4,5,6] hK ?_;clear hK K)|(with_reducible refine .done (hK _ ?_);clear hK K)|refine ae.of rfl ?_|(with_reducible refine aC.aI (fun h =>?_) (fun h =>?_) <;>try simp only[h])) <;>try simp only[aK,R,simprocAttr])
   all_goals clear R
   exact .call (iq (gZ hk))
theorem yp{ts:List (Nat×I)}{s:aB}{z:aq} : au ts (aL s++((3,z)::aL s))=au ts ((3,z)::aL s):=by
 simp only[au,ai.mk.injEq,true_and]
 funext n
 rw[fN];cases h:aj (aL s) n with
 |none=>rfl
 |some y =>
  have:=dx (s:=s) n (by simp[aw,h]);simp only[aj];rw[if_neg (by omega),h]
theorem BP{s:aB}(hk:cu s){z:aq} : gn [] (aL s) ((3,z)::aL s):=by
 refine ⟨fun m y hy=>⟨?_,iw hk hy⟩,fun m m' _ _ h=>h⟩;have hm:=dx (s:=s) m (by simp[aw,hy]);rw[aq.km (ρ:=bI []) (fun n=>rfl)]
 show aj ((3,z)::aL s) m=some y
 simp only[aj];rw[if_neg (by omega)];exact hy
theorem uG{s:aB}(hk:cu s){os0:List (Nat×aq)}{r:I}(hr:r.only (aw (aL s))=true):gC false [] (aL s) os0 r (aL s) :=
 ⟨fun _ _ hy=>⟨(iw hk hy).1,(iw hk hy).2,fun h=>by cases h⟩,fun m m' _ _ h=>h,fun m hm=>hm,(fun m a b=>by rw[a] at b;cases b),hr,(fun h=>by cases h)⟩
theorem sh{s:aB}{x:bg}{A:ai} : gN false A [] (aL s) [.ptr 1000000 [],enc x] [.ptr 1000000 [],enc x] :=
 ⟨.inl ⟨rfl,(dL (dE _)).2 (.inl (by omega)),rfl⟩,.inl ⟨(kR _ _).symm,cJ _ _,ev _⟩,trivial⟩
theorem aR.rC{K:ai→Prop}{s:aB}{x:bg}{i:Nat}{avs:List I}{a1 a2:Option (List I)}{dst:Option Nat}{rest:List aE}{ts:List (Nat×I)}{z:aq}(hk:cu s)(hil:i<s.all.length)(hc:cU Tryz.prog 151 [.ptr 1000000 [],enc x] (aL s) (C6 s i))(hav:avs=[.ptr 1000000 [],enc x])
  (h:aR Tryz.prog dj false K (az rest ((au ts ((3,z)::aL s)).aT dst (.ptr (bD 1000000 i) [])))):aR Tryz.prog dj false K (.call 151 avs a1 a2 dst rest (au ts ((3,z)::aL s))):=by
 subst hav;refine .bP false [] (aL s) [.ptr 1000000 [],enc x] _ rfl hc (BP hk) sh ?_ ?_
 ·rintro r os' ⟨rfl,rfl⟩;exact uG hk ((dL (dE _)).2 (.inr ⟨i,hil,rfl⟩))
 ·rintro r os' ⟨rfl,rfl⟩;rw[l4,yp];exact h
theorem wY{Q:Exit→ai→Prop}{s:aB}(hk:cu s){x:bg}(hy:s.on x=none){ts:List (Nat×I)}{z:aq}(hq:Q (.panic fC) (au ts ((3,z)::aL s))):nr Tryz.prog Q 151 [.ptr 1000000 [],enc x] (au ts ((3,z)::aL s)) :=
 .mk false [] (aL s) [.ptr 1000000 [],enc x] fC _ (FZ s hk x hy) (BP hk) sh (fun os' h=>by cases h;exact uG hk rfl) (fun os' h=>by cases h;rw[l4,yp];exact hq)
theorem FR(s:aB)(hk:cu s)(x:bg)(i:Nat)(hy:s.on x=some i):cU Tryz.prog 129 [.ptr 1000000 [],enc x] (aL s) (mO { s with aQ:=s.aQ.erase i }):=by
 refine cU.b9 Tryz.func129 zM Ab Kj (u8 rfl) (u8 rfl) dx (fun hwf W0 bH E1 =>?_);simp only[uO,Dw,bN,Z1];clear hwf;have n3:aj (aL s) 3=none:=eH (.inl (by omega)) fun i _=>by simp[bD];omega
 have aW:aj (aL s) 1000000=some (.box (.agg [.int .i64 s.av,.mref 1000001,.mref 1000002,.int .i64 s.all.length,.mref 1000003,.mref 1000004])):=fA;have J:aj (aL s) 1000001=some (.bt (s.here.map enc) (List.replicate s.here.length (.bool true))):=fW;have U:aj (aL s) 1000002=some (.bt (s.bE.map enc) (dS (bD 1000000) s.aQ)):=gi;have ah:aj (aL s) 1000003=some (.bt (s.dU.map enc) (s.bn.map enc)):=gj;have hfin:∀ ts,cY (au ts ((3,.box (enc x))::aL s)) 9 (.agg [.int .i64 s.av,.mref 1000001,.mref 1000002,.int .i64 s.all.length,.mref 1000003,.mref 1000004])=some (fV s):=fun ts =>
  gQ (gS (dE _) hk.cv fun n hn=>by have:=dx n hn;simp only[aj];rw[if_neg (by omega)]) 4
 have hlk:=ga eS x.aD s.here;rw[eE] at hlk;obtain ⟨ha,hb1,hb2⟩:=mM hy;have hil:=(h3 ha).1;have hno:=(h3 ha).2;have hlt:=hk.cv i hil;have hb:aj (aL s) (bD 1000000 i)=some (.box (enc (s.bJ i))):=by
  have:=ji (dE s.all.length) (B:=1000000) hlt;rw[this];simp[aB.bJ,Z0,hlt]
 have hdl:=Cw (s:=s) (fun i=>.ptr (bD 1000000 i) []) hil;rw[←hno] at hdl;have hpt:(s.aQ.map fun i=>I.ptr (bD 1000000 i) [])=dS (bD 1000000) s.aQ:=rfl;rw[hpt] at hdl;have R:=y6 @n3 (y6 @aW (y6 @U (y6 @hb (y6 @hdl (y6 @jU (y6 @bu (y6 @bp aH)))))))
 repeat' ((first |refine ae.aJ (by decide +kernel) rfl fun K hK =>?_|refine aR.rC hk hlt (pV s hk x i hy) rfl ?_|(refine .aA [0,1,3] hK ?_;clear hK K)|(with_reducible refine .done (hK _ ?_);clear hK K)|refine ae.of rfl ?_|(with_reducible refine aC.aI (fun h =>?_) (fun h =>?_) <;>try simp only[h])) <;>try simp only[aK,R,simprocAttr])
 all_goals clear R
 rw[l8];refine l7 (fun n hn =>?_) (fun _ _ h=>iw (s := { s with aQ:=s.aQ.erase i }) ⟨fun j hj=>hk.cv j (List.mem_of_mem_erase hj),hk.ic.erase _,hk.af⟩ h) ⟨rfl,rfl⟩;have:=dx n hn;simp only[aL,ed,aj];rw[if_neg (show ¬ n=3 by omega)]
 (repeat' split) <;>first | rfl | omega
theorem FT(s:aB)(hk:cu s)(x:bg)(hy:s.on x=none):fi Tryz.prog 129 fC [.ptr 1000000 [],enc x] (aL s) (jY s):=by
 refine fi.mk Tryz.func129 zM Ab (u8 rfl) (u8 rfl) dx (fun hwf W0 bH E1 =>?_);simp only[uO,bN,Z1];clear hwf;have n3:aj (aL s) 3=none:=eH (.inl (by omega)) fun i _=>by simp[bD];omega
 have aW:aj (aL s) 1000000=some (.box (.agg [.int .i64 s.av,.mref 1000001,.mref 1000002,.int .i64 s.all.length,.mref 1000003,.mref 1000004])):=fA;have J:aj (aL s) 1000001=some (.bt (s.here.map enc) (List.replicate s.here.length (.bool true))):=fW;have U:aj (aL s) 1000002=some (.bt (s.bE.map enc) (dS (bD 1000000) s.aQ)):=gi;have ah:aj (aL s) 1000003=some (.bt (s.dU.map enc) (s.bn.map enc)):=gj;have hfin:∀ ts,cY (au ts ((3,.box (enc x))::aL s)) 9 (.agg [.int .i64 s.av,.mref 1000001,.mref 1000002,.int .i64 s.all.length,.mref 1000003,.mref 1000004])=some (fV s):=fun ts =>
  gQ (gS (dE _) hk.cv fun n hn=>by have:=dx n hn;simp only[aj];rw[if_neg (by omega)]) 4
 have hlk:=ga eS x.aD s.here;rw[eE] at hlk;have R:=y6 @n3 (y6 @aW (y6 @U (y6 @jU (y6 @bu (y6 @bp aH)))))
 repeat' ((first |(refine ae.n2 (gs:=A9) (gs1:=[_,_]) rfl fun K hK =>?_)|refine ae.aJ (by decide +kernel) rfl fun K hK =>?_|(refine .aA [0,1,3] hK ?_;clear hK K)|(with_reducible refine .done (hK _ ?_);clear hK K)|refine ae.of rfl ?_|(with_reducible refine aC.aI (fun h =>?_) (fun h =>?_) <;>try simp only[h])) <;>try simp only[aK,R,simprocAttr])
 all_goals clear R
 exact .call (wY hk hy (gZ hk))
theorem IX{s:aB}{i:Nat}(hlt:i<s.all.length)(r:dh){z:aq} : ∀ n,1000000≤n→aj ((bD 1000000 i,.box (enc r))::(3,z)::aL s) n=aj (aL { s with all:=s.all.set i r }) n:=by
 intro n hn;have hlen:(s.all.set i r).length=s.all.length:=List.length_set;simp only[aj];rw[if_neg (show ¬ n=3 by omega)];rcases xH 1000000 (bD 1000000) s.all.length n with h | h | h | h | h | ⟨h,j,hj,e⟩ | ⟨h,hno⟩
 ·subst h;rw[if_neg (by simp[bD];omega)];simp only[aL,fA,hlen]
 ·subst h;rw[if_neg (by simp[bD];omega)];simp only[aL,fW]
 ·subst h;rw[if_neg (by simp[bD];omega)];simp only[aL,gi];rfl
 ·subst h;rw[if_neg (by simp[bD];omega)];simp only[aL,gj];rfl
 ·subst h;rw[if_neg (by simp[bD];omega)];simp only[aL,oy]
 ·subst e;have J:=ji (B:=1000000) (ν:=bD 1000000) (s:=s) (dE _) hj;have U:=ji (B:=1000000) (ν:=bD 1000000) (s := { s with all:=s.all.set i r }) (dE _) (i:=j) (by simpa using hj);simp only[aL,J,U];by_cases e:j=i
  ·subst e;simp
  ·have:¬ bD 1000000 j=bD 1000000 i:=by simp[bD];omega
   rw[if_neg this];simp[Ne.symm e]
 ·have J:=eH (B:=1000000) (ν:=bD 1000000) (s:=s) h hno;have U:=eH (B:=1000000) (ν:=bD 1000000) (s := { s with all:=s.all.set i r }) h (by simpa using hno);simp only[aL,J,U];rw[if_neg (hno i hlt)]
theorem FQ(s:aB)(hk:cu s)(x:bg)(i:Nat)(hy:s.on x=some i)(hc:(s.bJ i).c9=false):cU Tryz.prog 128 [.ptr 1000000 [],enc x] (aL s) (mO { s with all:=s.all.set i { s.bJ i with c9:=true } }):=by
 refine cU.b9 Tryz.func128 zL Aa Ki (u8 rfl) (u8 rfl) dx (fun hwf W0 bH E1 =>?_);simp only[uN,Dv,bN,Z1];clear hwf;have n3:aj (aL s) 3=none:=eH (.inl (by omega)) fun i _=>by simp[bD];omega
 have aW:aj (aL s) 1000000=some (.box (.agg [.int .i64 s.av,.mref 1000001,.mref 1000002,.int .i64 s.all.length,.mref 1000003,.mref 1000004])):=fA;have J:aj (aL s) 1000001=some (.bt (s.here.map enc) (List.replicate s.here.length (.bool true))):=fW;have U:aj (aL s) 1000002=some (.bt (s.bE.map enc) (dS (bD 1000000) s.aQ)):=gi;have ah:aj (aL s) 1000003=some (.bt (s.dU.map enc) (s.bn.map enc)):=gj;have hfin:∀ ts,cY (au ts ((3,.box (enc x))::aL s)) 9 (.agg [.int .i64 s.av,.mref 1000001,.mref 1000002,.int .i64 s.all.length,.mref 1000003,.mref 1000004])=some (fV s):=fun ts =>
  gQ (gS (dE _) hk.cv fun n hn=>by have:=dx n hn;simp only[aj];rw[if_neg (by omega)]) 4
 have hlk:=ga eS x.aD s.here;rw[eE] at hlk;obtain ⟨ha,hb1,hb2⟩:=mM hy;have hil:=(h3 ha).1;have hno:=(h3 ha).2;have hlt:=hk.cv i hil;have hb:aj (aL s) (bD 1000000 i)=some (.box (enc (s.bJ i))):=by
  have:=ji (dE s.all.length) (B:=1000000) hlt;rw[this];simp[aB.bJ,Z0,hlt]
 have hst:∀ A rest,dp A none (bD 1000000 i) [3] (enc (s.bJ i)) (.bool true) rest (some (.bool false))=az rest (A.aV (bD 1000000 i) (.box (enc { s.bJ i with c9:=true }))):=fun A rest=>dP rfl rfl rfl;have R:=y6 @n3 (y6 @aW (y6 @U (y6 @hb (y6 @hc (y6 @hst (y6 @jU (y6 @bu (y6 @bp aH))))))))
 repeat' ((first |refine ae.aJ (by decide +kernel) rfl fun K hK =>?_|refine aR.rC hk hlt (pV s hk x i hy) rfl ?_|refine .flat _ (kB) rfl ?_|(refine .aA [0,1,3,4] hK ?_;clear hK K)|(with_reducible refine .done (hK _ ?_);clear hK K)|refine ae.of rfl ?_|(with_reducible refine aC.aI (fun h =>?_) (fun h =>?_) <;>try simp only[h])) <;>try simp only[aK,R,simprocAttr])
 all_goals clear R
 rw[l8];exact l7 (fun n hn=>IX hlt _ n (dx n hn)) (fun _ _ h=>iw (s := { s with all:=s.all.set i { s.bJ i with c9:=true } }) ⟨fun j hj=>by simpa using hk.cv j hj,hk.ic,hk.af⟩ h) ⟨rfl,rfl⟩
theorem xR(s:aB)(hk:cu s)(x:bg)(hy:∀ i,s.on x=some i→(s.bJ i).c9=true):fi Tryz.prog 128 fC [.ptr 1000000 [],enc x] (aL s) (jY s):=by
 refine fi.mk Tryz.func128 zL Aa (u8 rfl) (u8 rfl) dx (fun hwf W0 bH E1 =>?_);simp only[uN,bN,Z1];clear hwf;have n3:aj (aL s) 3=none:=eH (.inl (by omega)) fun i _=>by simp[bD];omega
 have aW:aj (aL s) 1000000=some (.box (.agg [.int .i64 s.av,.mref 1000001,.mref 1000002,.int .i64 s.all.length,.mref 1000003,.mref 1000004])):=fA;have J:aj (aL s) 1000001=some (.bt (s.here.map enc) (List.replicate s.here.length (.bool true))):=fW;have U:aj (aL s) 1000002=some (.bt (s.bE.map enc) (dS (bD 1000000) s.aQ)):=gi;have ah:aj (aL s) 1000003=some (.bt (s.dU.map enc) (s.bn.map enc)):=gj;have hfin:∀ ts,cY (au ts ((3,.box (enc x))::aL s)) 9 (.agg [.int .i64 s.av,.mref 1000001,.mref 1000002,.int .i64 s.all.length,.mref 1000003,.mref 1000004])=some (fV s):=fun ts =>
  gQ (gS (dE _) hk.cv fun n hn=>by have:=dx n hn;simp only[aj];rw[if_neg (by omega)]) 4
 have hlk:=ga eS x.aD s.here;rw[eE] at hlk;cases hy2:s.on x with
 |none =>
  have R:=y6 @n3 (y6 @aW (y6 @U (y6 @jU (y6 @bu (y6 @bp aH)))))
  repeat' ((first |(refine ae.n2 (gs:=A7) (gs1:=[_,_]) rfl fun K hK =>?_)|refine ae.aJ (by decide +kernel) rfl fun K hK =>?_|(refine .aA [0,1,3,4] hK ?_;clear hK K)|(with_reducible refine .done (hK _ ?_);clear hK K)|refine ae.of rfl ?_|(with_reducible refine aC.aI (fun h =>?_) (fun h =>?_) <;>try simp only[h])) <;>try simp only[aK,R,simprocAttr])
  all_goals clear R
  exact .call (wY hk hy2 (gZ hk))
 |some i =>
  have hc:=hy i hy2;have hy:=hy2;obtain ⟨ha,hb1,hb2⟩:=mM hy;have hil:=(h3 ha).1;have hno:=(h3 ha).2;have hlt:=hk.cv i hil;have hb:aj (aL s) (bD 1000000 i)=some (.box (enc (s.bJ i))):=by
   have:=ji (dE s.all.length) (B:=1000000) hlt;rw[this];simp[aB.bJ,Z0,hlt]
  have R:=y6 @n3 (y6 @aW (y6 @U (y6 @hb (y6 @hc (y6 @jU (y6 @bu (y6 @bp aH)))))))
  repeat' ((first |(refine ae.n2 (gs:=A8) (gs1:=[_,_,_,_,_]) rfl fun K hK =>?_)|refine ae.aJ (by decide +kernel) rfl fun K hK =>?_|refine aR.rC hk hlt (pV s hk x i hy) rfl ?_|(refine .aA [0,1,3,4] hK ?_;clear hK K)|(with_reducible refine .done (hK _ ?_);clear hK K)|refine ae.of rfl ?_|(with_reducible refine aC.aI (fun h =>?_) (fun h =>?_) <;>try simp only[h])) <;>try simp only[aK,R,simprocAttr])
  all_goals clear R
  exact .call (iq (gZ hk))
theorem FU(s:aB)(hk:cu s)(x:bg)(i:Nat)(hy:s.on x=some i)(hc:(s.bJ i).c9=true):cU Tryz.prog 130 [.ptr 1000000 [],enc x] (aL s) (mO { s with aQ:=s.aQ.erase i,here:=gw s.here x.aD }):=by
 refine cU.b9 Tryz.func130 zN Ac Kk (u8 rfl) (u8 rfl) dx (fun hwf W0 bH E1 =>?_);simp only[uP,Dy,bN,Z1];clear hwf;have n3:aj (aL s) 3=none:=eH (.inl (by omega)) fun i _=>by simp[bD];omega
 have aW:aj (aL s) 1000000=some (.box (.agg [.int .i64 s.av,.mref 1000001,.mref 1000002,.int .i64 s.all.length,.mref 1000003,.mref 1000004])):=fA;have J:aj (aL s) 1000001=some (.bt (s.here.map enc) (List.replicate s.here.length (.bool true))):=fW;have U:aj (aL s) 1000002=some (.bt (s.bE.map enc) (dS (bD 1000000) s.aQ)):=gi;have ah:aj (aL s) 1000003=some (.bt (s.dU.map enc) (s.bn.map enc)):=gj;have hfin:∀ ts,cY (au ts ((3,.box (enc x))::aL s)) 9 (.agg [.int .i64 s.av,.mref 1000001,.mref 1000002,.int .i64 s.all.length,.mref 1000003,.mref 1000004])=some (fV s):=fun ts =>
  gQ (gS (dE _) hk.cv fun n hn=>by have:=dx n hn;simp only[aj];rw[if_neg (by omega)]) 4
 have hlk:=ga eS x.aD s.here;rw[eE] at hlk;obtain ⟨ha,hb1,hb2⟩:=mM hy;have hil:=(h3 ha).1;have hno:=(h3 ha).2;have hlt:=hk.cv i hil;have hb:aj (aL s) (bD 1000000 i)=some (.box (enc (s.bJ i))):=by
  have:=ji (dE s.all.length) (B:=1000000) hlt;rw[this];simp[aB.bJ,Z0,hlt]
 have hdl:=Cw (s:=s) (fun i=>.ptr (bD 1000000 i) []) hil;rw[←hno] at hdl;have hpt:(s.aQ.map fun i=>I.ptr (bD 1000000 i) [])=dS (bD 1000000) s.aQ:=rfl;rw[hpt] at hdl;have hup:=wE eS x.aD s.here;rw[eE] at hup;have R:=y6 @n3 (y6 @aW (y6 @J (y6 @U (y6 @hb (y6 @hc (y6 @hdl (y6 @hup (y6 @jU (y6 @bu (y6 @bp aH))))))))))
 repeat' ((first |refine ae.aJ (by decide +kernel) rfl fun K hK =>?_|refine aR.rC hk hlt (pV s hk x i hy) rfl ?_|refine .flat _ (kB) rfl ?_|(refine .aA [0,1,3] hK ?_;clear hK K)|(with_reducible refine .done (hK _ ?_);clear hK K)|refine ae.of rfl ?_|(with_reducible refine aC.aI (fun h =>?_) (fun h =>?_) <;>try simp only[h])) <;>try simp only[aK,R,simprocAttr])
 all_goals clear R
 rw[l8];refine l7 (fun n hn =>?_) (fun _ _ h=>iw (s := { s with aQ:=s.aQ.erase i,here:=gw s.here x.aD }) ⟨fun j hj=>hk.cv j (List.mem_of_mem_erase hj),hk.ic.erase _,nu hk.af⟩ h) ⟨rfl,rfl⟩;have:=dx n hn;simp only[aL,ed,aj];rw[if_neg (show ¬ n=3 by omega)]
 (repeat' split) <;>first | rfl | omega
theorem xS(s:aB)(hk:cu s)(x:bg)(hy:∀ i,s.on x=some i→(s.bJ i).c9=false):fi Tryz.prog 130 fC [.ptr 1000000 [],enc x] (aL s) (jY s):=by
 refine fi.mk Tryz.func130 zN Ac (u8 rfl) (u8 rfl) dx (fun hwf W0 bH E1 =>?_);simp only[uP,bN,Z1];clear hwf;have n3:aj (aL s) 3=none:=eH (.inl (by omega)) fun i _=>by simp[bD];omega
 have aW:aj (aL s) 1000000=some (.box (.agg [.int .i64 s.av,.mref 1000001,.mref 1000002,.int .i64 s.all.length,.mref 1000003,.mref 1000004])):=fA;have J:aj (aL s) 1000001=some (.bt (s.here.map enc) (List.replicate s.here.length (.bool true))):=fW;have U:aj (aL s) 1000002=some (.bt (s.bE.map enc) (dS (bD 1000000) s.aQ)):=gi;have ah:aj (aL s) 1000003=some (.bt (s.dU.map enc) (s.bn.map enc)):=gj;have hfin:∀ ts,cY (au ts ((3,.box (enc x))::aL s)) 9 (.agg [.int .i64 s.av,.mref 1000001,.mref 1000002,.int .i64 s.all.length,.mref 1000003,.mref 1000004])=some (fV s):=fun ts =>
  gQ (gS (dE _) hk.cv fun n hn=>by have:=dx n hn;simp only[aj];rw[if_neg (by omega)]) 4
 have hlk:=ga eS x.aD s.here;rw[eE] at hlk;cases hy2:s.on x with
 |none =>
  have R:=y6 @n3 (y6 @aW (y6 @U (y6 @jU (y6 @bu (y6 @bp aH)))))
  repeat' ((first |(refine ae.n2 (gs:=vN) (gs1:=[_,_]) rfl fun K hK =>?_)|refine ae.aJ (by decide +kernel) rfl fun K hK =>?_|(refine .aA [0,1,3] hK ?_;clear hK K)|(with_reducible refine .done (hK _ ?_);clear hK K)|refine ae.of rfl ?_|(with_reducible refine aC.aI (fun h =>?_) (fun h =>?_) <;>try simp only[h])) <;>try simp only[aK,R,simprocAttr])
  all_goals clear R
  exact .call (wY hk hy2 (gZ hk))
 |some i =>
  have hc:=hy i hy2;have hy:=hy2;obtain ⟨ha,hb1,hb2⟩:=mM hy;have hil:=(h3 ha).1;have hno:=(h3 ha).2;have hlt:=hk.cv i hil;have hb:aj (aL s) (bD 1000000 i)=some (.box (enc (s.bJ i))):=by
   have:=ji (dE s.all.length) (B:=1000000) hlt;rw[this];simp[aB.bJ,Z0,hlt]
  have R:=y6 @n3 (y6 @aW (y6 @U (y6 @hb (y6 @hc (y6 @jU (y6 @bu (y6 @bp aH)))))))
  repeat' ((first |(refine ae.n2 (gs:=vN) (gs1:=[_,_,_,_,_,_]) rfl fun K hK =>?_)|refine ae.aJ (by decide +kernel) rfl fun K hK =>?_|refine aR.rC hk hlt (pV s hk x i hy) rfl ?_|(refine .aA [0,1,3] hK ?_;clear hK K)|(with_reducible refine .done (hK _ ?_);clear hK K)|refine ae.of rfl ?_|(with_reducible refine aC.aI (fun h =>?_) (fun h =>?_) <;>try simp only[h])) <;>try simp only[aK,R,simprocAttr])
  all_goals clear R
  exact .call (iq (gZ hk))
theorem CE{s:aB}{x:bg}(h:fI x∉s.dU):fw (.a8 [.i .i64,.i .i64]) (.agg [.int .i64 x.other,.int .i64 x.no]) (enc x) (s.dU.map enc) (s.bn.map enc)=some ((({ s with bn:=s.bn++[x] } : aB).dU).map enc,(s.bn++[x]).map enc):=by
 have hm:=wD vk (fI x) (enc x) (ev x) s.dU (s.bn.map enc);have hf:=qm (k:=fI x) (ks:=s.dU);rw[decide_eq_false h] at hf;have e:(enc (fI x):I)=.agg [.int .i64 x.other,.int .i64 x.no]:=rfl;rw[e] at hm;rw[hm];cases hq:s.dU.findIdx? fun y=>decide (fI x=y) with
 |none=>simp[aB.dU]
 |some i=>rw[hq] at hf;cases hf
theorem Fv{s:aB}{x:bg}(h:s.unknown x=true):fI x∉s.dU:=by
 simp only[aB.unknown,t8,Bool.not_eq_true',decide_eq_false_iff_not] at h;exact h.2
theorem yz(x:bg):(dO [.int .i64 0,.int .i64 0] [(0,.int .i64 x.other),(1,.int .i64 x.no)]).map I.agg=some (.agg [.int .i64 x.other,.int .i64 x.no]):=by simp[dO,I.bU,I.size]
theorem FX(s:aB)(hk:cu s)(x:bg)(hy:s.unknown x=true):cU Tryz.prog 132 [.ptr 1000000 [],enc x] (aL s) (mO { s with bn:=s.bn++[x] }):=by
 refine cU.b9 Tryz.func132 zP Ae Km (u8 rfl) (u8 rfl) dx (fun hwf W0 bH E1 =>?_);simp only[uR,DA,bN,Z1];clear hwf;have n3:aj (aL s) 3=none:=eH (.inl (by omega)) fun i _=>by simp[bD];omega
 have aW:aj (aL s) 1000000=some (.box (.agg [.int .i64 s.av,.mref 1000001,.mref 1000002,.int .i64 s.all.length,.mref 1000003,.mref 1000004])):=fA;have J:aj (aL s) 1000001=some (.bt (s.here.map enc) (List.replicate s.here.length (.bool true))):=fW;have U:aj (aL s) 1000002=some (.bt (s.bE.map enc) (dS (bD 1000000) s.aQ)):=gi;have ah:aj (aL s) 1000003=some (.bt (s.dU.map enc) (s.bn.map enc)):=gj;have hfin:∀ ts,cY (au ts ((3,.box (enc x))::aL s)) 9 (.agg [.int .i64 s.av,.mref 1000001,.mref 1000002,.int .i64 s.all.length,.mref 1000003,.mref 1000004])=some (fV s):=fun ts =>
  gQ (gS (dE _) hk.cv fun n hn=>by have:=dx n hn;simp only[aj];rw[if_neg (by omega)]) 4
 have hlk:=ga eS x.aD s.here;rw[eE] at hlk;have hF:=rZ s x;rw[hy] at hF;have hup:=CE (Fv hy);have R:=y6 @n3 (y6 @aW (y6 @ah (y6 @hfin (y6 @hup (y6 @yz (y6 @bu (y6 @bp aH)))))))
 repeat' ((first |refine ae.aJ (by decide +kernel) rfl fun K hK =>?_|refine .flat _ (hF) rfl ?_|refine .flat _ (kB) rfl ?_|(refine .aA [0,1,3] hK ?_;clear hK K)|(with_reducible refine .done (hK _ ?_);clear hK K)|refine ae.of rfl ?_|(with_reducible refine aC.aI (fun h =>?_) (fun h =>?_) <;>try simp only[h])) <;>try simp only[aK,R,simprocAttr])
 all_goals clear R
 rw[l8];refine l7 (fun n hn =>?_) (fun _ _ h=>iw (s := { s with bn:=s.bn++[x] }) ⟨hk.cv,hk.ic,hk.af⟩ h) ⟨rfl,rfl⟩;have:=dx n hn;simp only[aL,ed,aj];rw[if_neg (show ¬ n=3 by omega)]
 (repeat' split) <;>first | rfl | omega
theorem FY(s:aB)(hk:cu s)(x:bg)(hy:s.unknown x=false):fi Tryz.prog 132 fC [.ptr 1000000 [],enc x] (aL s) (jY s):=by
 refine fi.mk Tryz.func132 zP Ae (u8 rfl) (u8 rfl) dx (fun hwf W0 bH E1 =>?_);simp only[uR,bN,Z1];clear hwf;have n3:aj (aL s) 3=none:=eH (.inl (by omega)) fun i _=>by simp[bD];omega
 have aW:aj (aL s) 1000000=some (.box (.agg [.int .i64 s.av,.mref 1000001,.mref 1000002,.int .i64 s.all.length,.mref 1000003,.mref 1000004])):=fA;have J:aj (aL s) 1000001=some (.bt (s.here.map enc) (List.replicate s.here.length (.bool true))):=fW;have U:aj (aL s) 1000002=some (.bt (s.bE.map enc) (dS (bD 1000000) s.aQ)):=gi;have ah:aj (aL s) 1000003=some (.bt (s.dU.map enc) (s.bn.map enc)):=gj;have hfin:∀ ts,cY (au ts ((3,.box (enc x))::aL s)) 9 (.agg [.int .i64 s.av,.mref 1000001,.mref 1000002,.int .i64 s.all.length,.mref 1000003,.mref 1000004])=some (fV s):=fun ts =>
  gQ (gS (dE _) hk.cv fun n hn=>by have:=dx n hn;simp only[aj];rw[if_neg (by omega)]) 4
 have hlk:=ga eS x.aD s.here;rw[eE] at hlk;have hF:=rZ s x;rw[hy] at hF;have R:=y6 @n3 (y6 @aW (y6 @ah (y6 @hfin (y6 @bu (y6 @bp aH)))))
 repeat' ((first |(refine ae.n2 (gs:=Ba) (gs1:=[_,_,_]) rfl fun K hK =>?_)|refine ae.aJ (by decide +kernel) rfl fun K hK =>?_|refine .flat _ (hF) rfl ?_|(refine .aA [0,1,3] hK ?_;clear hK K)|(with_reducible refine .done (hK _ ?_);clear hK K)|refine ae.of rfl ?_|(with_reducible refine aC.aI (fun h =>?_) (fun h =>?_) <;>try simp only[h])) <;>try simp only[aK,R,simprocAttr])
 all_goals clear R
 exact .call (iq (gZ hk))
theorem FV(s:aB)(hk:cu s)(x:bg)(hy:s.unknown x=true∧x.aD∉s.here∧s.fg x.aD=false):cU Tryz.prog 131 [.ptr 1000000 [],enc x] (aL s) (mO { s with bn:=s.bn++[x],here:=gw s.here x.aD }):=by
 refine cU.b9 Tryz.func131 zO Ad Kl (u8 rfl) (u8 rfl) dx (fun hwf W0 bH E1 =>?_);simp only[uQ,Dz,bN,Z1];clear hwf;have n3:aj (aL s) 3=none:=eH (.inl (by omega)) fun i _=>by simp[bD];omega
 have aW:aj (aL s) 1000000=some (.box (.agg [.int .i64 s.av,.mref 1000001,.mref 1000002,.int .i64 s.all.length,.mref 1000003,.mref 1000004])):=fA;have J:aj (aL s) 1000001=some (.bt (s.here.map enc) (List.replicate s.here.length (.bool true))):=fW;have U:aj (aL s) 1000002=some (.bt (s.bE.map enc) (dS (bD 1000000) s.aQ)):=gi;have ah:aj (aL s) 1000003=some (.bt (s.dU.map enc) (s.bn.map enc)):=gj;have hfin:∀ ts,cY (au ts ((3,.box (enc x))::aL s)) 9 (.agg [.int .i64 s.av,.mref 1000001,.mref 1000002,.int .i64 s.all.length,.mref 1000003,.mref 1000004])=some (fV s):=fun ts =>
  gQ (gS (dE _) hk.cv fun n hn=>by have:=dx n hn;simp only[aj];rw[if_neg (by omega)]) 4
 have hlk:=ga eS x.aD s.here;rw[eE] at hlk;have hF:=rZ s x;rw[hy.1] at hF;have hF2:=pW s x.aD;rw[hy.2.2] at hF2;have q1:decide (x.aD∈s.here)=false:=decide_eq_false hy.2.1;have hup:=CE (Fv hy.1);have hup2:=wE eS x.aD s.here;rw[eE] at hup2;have R:=y6 @n3 (y6 @aW (y6 @J (y6 @ah (y6 @hfin (y6 @hlk (y6 @q1 (y6 @hup (y6 @hup2 (y6 @yz (y6 @bu (y6 @bp aH)))))))))))
 repeat' ((first |(with_reducible refine .guard (fun hb =>?_) (fun hb =>?_) <;>try simp only[hb])|refine ae.aJ (by decide +kernel) rfl fun K hK =>?_|refine .flat _ (hF) rfl ?_|refine .flat _ (hF2) rfl ?_|refine .flat _ (kB) rfl ?_|(refine .aA [0,1,3] hK ?_;clear hK K)|(with_reducible refine .done (hK _ ?_);clear hK K)|refine ae.of rfl ?_|(with_reducible refine aC.aI (fun h =>?_) (fun h =>?_) <;>try simp only[h])) <;>try simp only[aK,R,simprocAttr])
 all_goals clear R
 rw[l8];refine l7 (fun n hn =>?_) (fun _ _ h=>iw (s := { s with bn:=s.bn++[x],here:=gw s.here x.aD }) ⟨hk.cv,hk.ic,nu hk.af⟩ h) ⟨rfl,rfl⟩;have:=dx n hn;simp only[aL,ed,aj];rw[if_neg (show ¬ n=3 by omega)]
 (repeat' split) <;>first | rfl | omega
theorem FW(s:aB)(hk:cu s)(x:bg)(hy:¬ (s.unknown x=true∧x.aD∉s.here∧s.fg x.aD=false)):fi Tryz.prog 131 fC [.ptr 1000000 [],enc x] (aL s) (jY s):=by
 refine fi.mk Tryz.func131 zO Ad (u8 rfl) (u8 rfl) dx (fun hwf W0 bH E1 =>?_);simp only[uQ,bN,Z1];clear hwf;have n3:aj (aL s) 3=none:=eH (.inl (by omega)) fun i _=>by simp[bD];omega
 have aW:aj (aL s) 1000000=some (.box (.agg [.int .i64 s.av,.mref 1000001,.mref 1000002,.int .i64 s.all.length,.mref 1000003,.mref 1000004])):=fA;have J:aj (aL s) 1000001=some (.bt (s.here.map enc) (List.replicate s.here.length (.bool true))):=fW;have U:aj (aL s) 1000002=some (.bt (s.bE.map enc) (dS (bD 1000000) s.aQ)):=gi;have ah:aj (aL s) 1000003=some (.bt (s.dU.map enc) (s.bn.map enc)):=gj;have hfin:∀ ts,cY (au ts ((3,.box (enc x))::aL s)) 9 (.agg [.int .i64 s.av,.mref 1000001,.mref 1000002,.int .i64 s.all.length,.mref 1000003,.mref 1000004])=some (fV s):=fun ts =>
  gQ (gS (dE _) hk.cv fun n hn=>by have:=dx n hn;simp only[aj];rw[if_neg (by omega)]) 4
 have hlk:=ga eS x.aD s.here;rw[eE] at hlk;have hF:=rZ s x;have hF2:=pW s x.aD;rcases q0:s.unknown x
 ·rw[q0] at hF;have R:=y6 @n3 (y6 @aW (y6 @J (y6 @ah (y6 @hfin (y6 @hlk (y6 @bu (y6 @bp aH)))))))
  repeat' ((first |(with_reducible refine .guard (fun hb =>?_) (fun hb =>?_) <;>try simp only[hb])|(refine ae.jw (gs:=nI) 20 [] [] [0,1,2,3,4,5,6,7,8,9,10,11,12,13,14,15,16,17,18,19] (by decide +kernel) rfl (cW.of (by simp[ft])) fun K hK =>?_;simp only[fe,nI,gx,Z9,zz9,List.take_zero,Y9,zz0,R,simprocAttr])|refine ae.aJ (by decide +kernel) rfl fun K hK =>?_|refine .flat _ (hF) rfl ?_|(refine .aA [0,1,3] hK ?_;clear hK K)|(with_reducible refine .done (hK _ ?_);clear hK K)|refine ae.of rfl ?_|(with_reducible refine aC.aI (fun h =>?_) (fun h =>?_) <;>try simp only[h])) <;>try simp only[aK,R,simprocAttr])
  all_goals clear R
  exact .call (iq (gZ hk))
 rw[q0] at hF;rcases q1:decide (x.aD∈s.here)
 ·have q2:s.fg x.aD=true:=by
   rcases q2:s.fg x.aD
   ·exact absurd ⟨q0,of_decide_eq_false q1,q2⟩ hy
   ·rfl
  rw[q2] at hF2;have R:=y6 @n3 (y6 @aW (y6 @J (y6 @ah (y6 @hfin (y6 @hlk (y6 @q1 (y6 @bu (y6 @bp aH))))))))
  repeat' ((first |(with_reducible refine .guard (fun hb =>?_) (fun hb =>?_) <;>try simp only[hb])|(refine ae.jw (gs:=nI) 20 [] [] [0,1,2,3,4,5,6,7,8,9,10,11,12,13,14,15,16,17,18,19] (by decide +kernel) rfl (cW.of (by simp[ft])) fun K hK =>?_;simp only[fe,nI,gx,Z9,zz9,List.take_zero,Y9,zz0,R,simprocAttr])|refine ae.aJ (by decide +kernel) rfl fun K hK =>?_|refine .flat _ (hF) rfl ?_|refine .flat _ (hF2) rfl ?_|(refine .aA [0,1,3] hK ?_;clear hK K)|(with_reducible refine .done (hK _ ?_);clear hK K)|refine ae.of rfl ?_|(with_reducible refine aC.aI (fun h =>?_) (fun h =>?_) <;>try simp only[h])) <;>try simp only[aK,R,simprocAttr])
  all_goals clear R
  exact .call (iq (gZ hk))
 ·have R:=y6 @n3 (y6 @aW (y6 @J (y6 @ah (y6 @hfin (y6 @hlk (y6 @q1 (y6 @bu (y6 @bp aH))))))))
  repeat' ((first |(with_reducible refine .guard (fun hb =>?_) (fun hb =>?_) <;>try simp only[hb])|(refine ae.jw (gs:=nI) 20 [] [] [0,1,2,3,4,5,6,7,8,9,10,11,12,13,14,15,16,17,18,19] (by decide +kernel) rfl (cW.of (by simp[ft])) fun K hK =>?_;simp only[fe,nI,gx,Z9,zz9,List.take_zero,Y9,zz0,R,simprocAttr])|refine ae.aJ (by decide +kernel) rfl fun K hK =>?_|refine .flat _ (hF) rfl ?_|(refine .aA [0,1,3] hK ?_;clear hK K)|(with_reducible refine .done (hK _ ?_);clear hK K)|refine ae.of rfl ?_|(with_reducible refine aC.aI (fun h =>?_) (fun h =>?_) <;>try simp only[h])) <;>try simp only[aK,R,simprocAttr])
  all_goals clear R
  exact .call (iq (gZ hk))
abbrev gA(k:Nat)(s:aB):List (Nat×aq):=ed 1000000 (fU 1000000 57 k) s
def tv(k:Nat)(s:aB):cF:=fun r os'=>r=.tuple []∧os'=gA k s
theorem gG{k m:Nat}(h:m≤k+1):gu 1000000 (fU 1000000 57 k) m:=gu.fU (by omega) h
theorem tR{s:aB}(hk:cu s){k:Nat}(h:s.all.length≤k):gA k s=aL s:=YD hk.cv fun i hi=>lU (by omega)
def iQ(s:aB)(x:bg):aB := { s with here:=s.here.erase x.aD,all:=s.all++[⟨x.no,x.other,x.aD,false⟩],aQ:=s.aQ++[s.all.length] }
theorem Yk{s:aB}(hk:cu s)(x:bg):cu (iQ s x):=by
 refine ⟨fun i hi =>?_,?_,hk.af.erase _⟩
 ·simp only[iQ,zy0,zz7] at hi;simp only[iQ,Z6,List.length_singleton];rcases hi with hi | hi
  ·have:=hk.cv i hi;omega
  ·omega
 ·exact List.nodup_append.2 ⟨hk.ic,by simp,fun a ha c hc e=>by rw[zz7.1 hc] at e;have:=hk.cv a ha;omega⟩
theorem Wd{s:aB}(hk:cu s){no:Int}(hno:no=(s.all.length:Int)+1)(v:I)(hv:v.bU=true):fw (.i .i64) (.int .i64 no) v (s.bE.map enc) (dS (bD 1000000) s.aQ)=some ((s.bE++[no]).map enc,dS (bD 1000000) s.aQ++[v]):=by
 have hm:=wD eS no v hv s.bE (dS (bD 1000000) s.aQ);rw[eE] at hm;rw[hm];have hf:=qm (k:=no) (ks:=s.bE);have:no∉s.bE:=fun h=>by
  obtain ⟨i,hi,e⟩:=zz5.1 h;have:=hk.cv i hi;omega
 rw[decide_eq_false this] at hf;cases hq:s.bE.findIdx? fun y=>decide (no=y) with
 |none=>rfl
 |some i=>rw[hq] at hf;cases hf
theorem FO(s:aB)(hk:cu s)(hlen:s.all.length≤100000)(x:bg)(hy:x.aD∈s.here∧x.other≠s.av∧x.no=(s.all.length:Int)+1):cU Tryz.prog 127 [.ptr 1000000 [],enc x] (aL s) (tv s.all.length (iQ s x)):=by
 refine cU.b9 Tryz.func127 zK z8 Kh (u8 rfl) (u8 rfl) dx (fun hwf W0 bH E1 =>?_);simp only[uM,Du,bN,Z1];clear hwf;have n3:aj (aL s) 3=none:=eH (.inl (by omega)) fun i _=>by simp[bD];omega
 have n57:aj (aL s) 57=none:=eH (.inl (by omega)) fun i _=>by simp[bD];omega
 have aW:aj (aL s) 1000000=some (.box (.agg [.int .i64 s.av,.mref 1000001,.mref 1000002,.int .i64 s.all.length,.mref 1000003,.mref 1000004])):=fA;have J:aj (aL s) 1000001=some (.bt (s.here.map enc) (List.replicate s.here.length (.bool true))):=fW;have U:aj (aL s) 1000002=some (.bt (s.bE.map enc) (dS (bD 1000000) s.aQ)):=gi;have hlk:=ga eS x.aD s.here;rw[eE] at hlk;have q1:decide (x.aD∈s.here)=true:=decide_eq_true hy.1;have q2:(x.other != s.av)=true:=by simpa using hy.2.1
 have hw:IntKind.i64.wrap ((s.all.length:Int)+1)=(s.all.length:Int)+1:=jG _ (by omega) (by omega);have q3:(x.no==(s.all.length:Int)+1)=true:=by simpa using hy.2.2
 have hdl:=Cv hy.1;have hup:=Wd hk hy.2.2 (.ptr 57 []) rfl;have hst:∀ A rest,dp A none 1000000 [3] (.agg [.int .i64 s.av,.mref 1000001,.mref 1000002,.int .i64 s.all.length,.mref 1000003,.mref 1000004]) (.int .i64 ((s.all.length:Int)+1)) rest (some (.int .i64 s.all.length)) =
   az rest (A.aV 1000000 (.box (.agg [.int .i64 s.av,.mref 1000001,.mref 1000002,.int .i64 ((s.all.length:Int)+1),.mref 1000003,.mref 1000004]))):=fun A rest=>dP rfl rfl rfl
 have hbld:(dO [.int .i64 0,.int .i64 0,.int .i64 0,.bool false] [(0,.int .i64 x.no),(1,.int .i64 x.other),(2,.int .i64 x.aD)]).map I.agg=some (enc (⟨x.no,x.other,x.aD,false⟩:dh)):=by simp[dO,I.bU,I.size];rfl
 have offT:∀ (a b:Int) v,dm [.int .i64 a,.mref 1000001,.mref 1000002,.int .i64 (b+1),.mref 1000003,.mref 1000004] 2 2 v=some v:=fun a b v=>rfl;have R:=y6 @n3 (y6 @n57 (y6 @aW (y6 @J (y6 @U (y6 @hlk (y6 @q1 (y6 @q2 (y6 @hw (y6 @q3 (y6 @hdl (y6 @hup (y6 @hst (y6 @hbld (y6 @offT (y6 @bu (y6 @bp aH))))))))))))))))
 repeat' ((first |(with_reducible refine .guard (fun hb =>?_) (fun hb =>?_) <;>try simp only[hb])|refine ae.aJ (by decide +kernel) rfl fun K hK =>?_|refine .flat _ (kB) rfl ?_|(refine .aA [0,1,3] hK ?_;clear hK K)|(with_reducible refine .done (hK _ ?_);clear hK K)|refine ae.of rfl ?_|(with_reducible refine aC.aI (fun h =>?_) (fun h =>?_) <;>try simp only[h])) <;>try simp only[aK,R,simprocAttr])
 all_goals clear R
 rw[l8];have hg:=gG (k:=s.all.length) (m:=(iQ s x).all.length) (by simp[iQ]);refine l7 (fun n hn =>?_) (fun _ _ h=>lv hg (Yk hk x).cv h) ⟨rfl,rfl⟩;have hl1:(iQ s x).all.length=s.all.length+1:=by simp[iQ]
 have hp:dS (fU 1000000 57 s.all.length) (s.aQ++[s.all.length])=dS (bD 1000000) s.aQ++[.ptr 57 []]:=by
  simp only[dS,Y6,Z4,zy1]
  congr 1
  ·exact List.map_congr_left fun i hi=>by rw[lU (hk.cv i hi)]
  ·simp[fU]
 have hnu:(iQ s x).bE=s.bE++[x.no]:=by simp[aB.bE,iQ,hy.2.2]
 rcases (dL hg).1 hn with hb | ⟨j,hj,rfl⟩
 ·have hc:n=1000000∨n=1000001∨n=1000002∨n=1000003∨n=1000004:=by omega
  rcases hc with rfl | rfl | rfl | rfl | rfl
  ·rw[fA];simp[aj,ng,iQ]
  ·rw[show (1000001:Nat)=1000000+1 from rfl,fW];simp[aj,o9,iQ]
  ·rw[show (1000002:Nat)=1000000+2 from rfl,gi];simp only[oe,hnu];simp only[iQ,hp];simp[aj]
  ·rw[show (1000003:Nat)=1000000+3 from rfl,gj];have:=gj (B:=1000000) (ν:=bD 1000000) (s:=s);simp only[aj,Nat.reduceAdd,Nat.reduceEqDiff,if_false];exact this
  ·rw[show (1000004:Nat)=1000000+4 from rfl,oy];have:=oy (B:=1000000) (ν:=bD 1000000) (s:=s);simp only[aj,Nat.reduceAdd,Nat.reduceEqDiff,if_false];exact this
 ·rw[ji hg hj];by_cases e:j=s.all.length
  ·subst e;simp[aj,fU,iQ]
  ·have hj2:j<s.all.length:=by omega
   rw[lU hj2];have:=ji (B:=1000000) (ν:=bD 1000000) (s:=s) (dE _) hj2;simp only[aj];rw[if_neg (by simp[bD];omega),if_neg (by simp[bD];omega),if_neg (by simp[bD];omega),if_neg (by simp[bD];omega),if_neg (by simp[bD];omega),this];simp[iQ,List.getElem_append_left hj2]
theorem FP(s:aB)(hk:cu s)(hlen:s.all.length≤100000)(x:bg)(hy:¬ (x.aD∈s.here∧x.other≠s.av∧x.no=(s.all.length:Int)+1)):fi Tryz.prog 127 fC [.ptr 1000000 [],enc x] (aL s) (jY s):=by
 refine fi.mk Tryz.func127 zK z8 (u8 rfl) (u8 rfl) dx (fun hwf W0 bH E1 =>?_);simp only[uM,bN,Z1];clear hwf;have n3:aj (aL s) 3=none:=eH (.inl (by omega)) fun i _=>by simp[bD];omega
 have aW:aj (aL s) 1000000=some (.box (.agg [.int .i64 s.av,.mref 1000001,.mref 1000002,.int .i64 s.all.length,.mref 1000003,.mref 1000004])):=fA;have J:aj (aL s) 1000001=some (.bt (s.here.map enc) (List.replicate s.here.length (.bool true))):=fW;have hlk:=ga eS x.aD s.here;rw[eE] at hlk;have hw:IntKind.i64.wrap ((s.all.length:Int)+1)=(s.all.length:Int)+1:=jG _ (by omega) (by omega);rcases q1:decide (x.aD∈s.here)
 ·have R:=y6 @n3 (y6 @aW (y6 @J (y6 @hlk (y6 @q1 (y6 @bu (y6 @bp aH))))))
  repeat' ((first |(with_reducible refine .guard (fun hb =>?_) (fun hb =>?_) <;>try simp only[hb])|(refine ae.jw (gs:=nH) 26 [] [] [0,1,2,3,4,5,6,7,8,9,10,11,12,13,14,15,16,17,18,19,20,21,22,23,24,25] (by decide +kernel) rfl (cW.of (by simp[ft])) fun K hK =>?_;simp only[fe,nH,gx,Z9,zz9,List.take_zero,Y9,zz0,R,simprocAttr])|refine ae.aJ (by decide +kernel) rfl fun K hK =>?_|(refine .aA [0,1,3] hK ?_;clear hK K)|(with_reducible refine .done (hK _ ?_);clear hK K)|refine ae.of rfl ?_|(with_reducible refine aC.aI (fun h =>?_) (fun h =>?_) <;>try simp only[h])) <;>try simp only[aK,R,simprocAttr])
  all_goals clear R
  exact .call (iq (gZ hk))
 rcases q2:(x.other != s.av)
 ·have R:=y6 @n3 (y6 @aW (y6 @J (y6 @hlk (y6 @q1 (y6 @q2 (y6 @bu (y6 @bp aH)))))))
  repeat' ((first |(with_reducible refine .guard (fun hb =>?_) (fun hb =>?_) <;>try simp only[hb])|(refine ae.jw (gs:=nH) 26 [] [] [0,1,2,3,4,5,6,7,8,9,10,11,12,13,14,15,16,17,18,19,20,21,22,23,24,25] (by decide +kernel) rfl (cW.of (by simp[ft])) fun K hK =>?_;simp only[fe,nH,gx,Z9,zz9,List.take_zero,Y9,zz0,R,simprocAttr])|refine ae.aJ (by decide +kernel) rfl fun K hK =>?_|(refine .aA [0,1,3] hK ?_;clear hK K)|(with_reducible refine .done (hK _ ?_);clear hK K)|refine ae.of rfl ?_|(with_reducible refine aC.aI (fun h =>?_) (fun h =>?_) <;>try simp only[h])) <;>try simp only[aK,R,simprocAttr])
  all_goals clear R
  exact .call (iq (gZ hk))
 have q3:(x.no==(s.all.length:Int)+1)=false:=by
  rcases q3:(x.no==(s.all.length:Int)+1)
  ·rfl
  ·exact absurd ⟨of_decide_eq_true q1,by simpa using q2,by simpa using q3⟩ hy
 have R:=y6 @n3 (y6 @aW (y6 @J (y6 @hlk (y6 @q1 (y6 @q2 (y6 @hw (y6 @q3 (y6 @bu (y6 @bp aH)))))))))
 repeat' ((first |(with_reducible refine .guard (fun hb =>?_) (fun hb =>?_) <;>try simp only[hb])|(refine ae.jw (gs:=nH) 26 [] [] [0,1,2,3,4,5,6,7,8,9,10,11,12,13,14,15,16,17,18,19,20,21,22,23,24,25] (by decide +kernel) rfl (cW.of (by simp[ft])) fun K hK =>?_;simp only[fe,nH,gx,Z9,zz9,List.take_zero,Y9,zz0,R,simprocAttr])|refine ae.aJ (by decide +kernel) rfl fun K hK =>?_|(refine .aA [0,1,3] hK ?_;clear hK K)|(with_reducible refine .done (hK _ ?_);clear hK K)|refine ae.of rfl ?_|(with_reducible refine aC.aI (fun h =>?_) (fun h =>?_) <;>try simp only[h])) <;>try simp only[aK,R,simprocAttr])
 all_goals clear R
 exact .call (iq (gZ hk))
def ee(s:aB)(x:bg):aB×Bool:=match fh s x with
 |some s'=>(s',true)
 |none=>(s,false)
def C7(s:aB)(x:bg):cF:=fun r os'=>r=.bool (ee s x).2∧os'=gA s.all.length (ee s x).1
def jn(B:Nat):List I:=[.func 1000125 [.ptr B []],.func 1000126 [.ptr B []],.func 1000127 [.ptr B []],.func 1000128 [.ptr B []],.func 1000129 [.ptr B []],.func 1000130 [.ptr B []],.func 1000131 [.ptr B []],.func 1000132 [.ptr B []]]
def kA(s:aB)(x:bg)(f:FuncId):Prop:=match di s x with
 |some s'=>cU Tryz.prog f [.ptr 1000000 [],enc x] (aL s) (tv s.all.length s')
 |none=>fi Tryz.prog f fC [.ptr 1000000 [],enc x] (aL s) (jY s)
theorem cU.post{P:Program}{f:FuncId}{args:List I}{os:List (Nat×aq)}{post post':cF}(h:cU P f args os post)(hp:∀ r os',post r os'→post' r os'):cU P f args os post' :=
 ⟨h.1,fun w D E vs ab hD ho hv=>(h.2 w D E vs ab hD ho hv).mono fun _ _ ⟨v,D',E',r,os',k1,k2,k⟩=>⟨v,D',E',r,os',k1,hp _ _ k2,k⟩⟩
theorem nX{s s':aB}{x:bg}(hk:cu s)(hn:di s x=some s')(hx:x.kind≠3):∀ r os',mO s' r os'→tv s.all.length s' r os':=by
 rintro r os' ⟨rfl,rfl⟩;obtain ⟨J,_,_,ar⟩:=hk.next hn
 exact ⟨rfl,(tR J (Nat.le_of_eq (ar hx))).symm⟩
theorem wy{s:aB}(hk:cu s)(hlen:s.all.length≤100000){x:bg}(hx:eJ x=true) :
  ∃ f:Nat,fu (.i .i64) .dA (.int .i64 x.kind) gI (jn 1000000)=some (.func (f+1000000) [.ptr 1000000 []],true)∧[125,126,127,128,129,130,131,132].contains f=true∧kA s x f:=by
 have ar:x.kind=1∨x.kind=2∨x.kind=3∨x.kind=4∨x.kind=5∨x.kind=6∨x.kind=7∨x.kind=8:=by
  simp only[eJ] at hx;split at hx
  ·omega
  ·split at hx
   ·omega
   ·cases hx
 have lk:∀ n:Int,x.kind=n→fu (.i .i64) .dA (.int .i64 x.kind) gI (jn 1000000)=fu (.i .i64) .dA (.int .i64 n) gI (jn 1000000):=fun n h=>by rw[h]
 rcases ar with h | h | h | h | h | h | h | h
 ·refine ⟨125,by rw[h];simp[fu,eF,bZ,gI,jn],rfl,?_⟩;simp only[kA,di,h,if_true];split
  ·rename_i s' ab;split at ab
   ·cases ab
   ·rename_i bC;cases ab;have hy:x.aD∉s.here∧s.fg x.aD=false:=⟨fun h=>bC (.inl h),by rcases q:s.fg x.aD;rfl;exact absurd (.inr q) bC⟩
    exact cU.post (FK s hk x hy) (nX (x:=x) hk (by simp[di,h,hy.1,hy.2]) (by omega))
  ·rename_i ab;split at ab
   ·rename_i bC;exact FL s hk x bC
   ·cases ab
 ·refine ⟨126,by rw[h];simp[fu,eF,bZ,gI,jn],rfl,?_⟩;simp only[kA,di,h,Int.reduceEq,if_false,if_true];split
  ·rename_i s' ab;split at ab
   ·rename_i bC;cases ab;exact cU.post (FM s hk x bC) (nX (x:=x) hk (by simp[di,h,bC]) (by omega))
   ·cases ab
  ·rename_i ab;split at ab
   ·cases ab
   ·rename_i bC;exact FN s hk x bC
 ·refine ⟨127,by rw[h];simp[fu,eF,bZ,gI,jn],rfl,?_⟩;simp only[kA,di,h,Int.reduceEq,if_false,if_true];split
  ·rename_i s' ab;split at ab
   ·rename_i bC;cases ab;exact FO s hk hlen x bC
   ·cases ab
  ·rename_i ab;split at ab
   ·cases ab
   ·rename_i bC;exact FP s hk hlen x bC
 ·refine ⟨128,by rw[h];simp[fu,eF,bZ,gI,jn],rfl,?_⟩;simp only[kA,di,h,Int.reduceEq,if_false,if_true];cases ho:s.on x with
  |none=>exact xR s hk x fun i hi=>by rw[ho] at hi;cases hi
  |some i =>
   cases hc:(s.bJ i).c9 with
   |true =>
    simp only[hc,if_true];exact xR s hk x fun j hj=>by rw[ho] at hj;cases hj;exact hc
   |false =>
    simp only[hc,Z2,if_false];exact cU.post (FQ s hk x i ho hc) (nX (x:=x) hk (by simp[di,h,ho,hc]) (by omega))
 ·refine ⟨129,by rw[h];simp[fu,eF,bZ,gI,jn],rfl,?_⟩;simp only[kA,di,h,Int.reduceEq,if_false,if_true];cases ho:s.on x with
  |none=>exact FT s hk x ho
  |some i=>exact cU.post (FR s hk x i ho) (nX (x:=x) hk (by simp[di,h,ho]) (by omega))
 ·refine ⟨130,by rw[h];simp[fu,eF,bZ,gI,jn],rfl,?_⟩;simp only[kA,di,h,Int.reduceEq,if_false,if_true];cases ho:s.on x with
  |none=>exact xS s hk x fun i hi=>by rw[ho] at hi;cases hi
  |some i =>
   cases hc:(s.bJ i).c9 with
   |false =>
    simp only[hc,Z2,if_false];exact xS s hk x fun j hj=>by rw[ho] at hj;cases hj;exact hc
   |true =>
    simp only[hc,if_true];exact cU.post (FU s hk x i ho hc) (nX (x:=x) hk (by simp[di,h,ho,hc]) (by omega))
 ·refine ⟨131,by rw[h];simp[fu,eF,bZ,gI,jn],rfl,?_⟩;simp only[kA,di,h,Int.reduceEq,if_false,if_true];split
  ·rename_i s' ab;split at ab
   ·rename_i bC;cases ab;exact cU.post (FV s hk x bC) (nX (x:=x) hk (by simp[di,h,bC.1,bC.2.1,bC.2.2]) (by omega))
   ·cases ab
  ·rename_i ab;split at ab
   ·cases ab
   ·rename_i bC;exact FW s hk x bC
 ·refine ⟨132,by rw[h];simp[fu,eF,bZ,gI,jn],rfl,?_⟩;simp only[kA,di,h,Int.reduceEq,if_false,if_true];cases hu:s.unknown x with
  |true =>
   simp only[if_true];exact cU.post (FX s hk x hu) (nX (x:=x) hk (by simp[di,h,hu]) (by omega))
  |false =>
   simp only[Z2,if_false];exact FY s hk x hu
def dK(x:bg)(b:Bool)(l:List (Nat×aq)):List (Nat×aq):=(1900004,.box (.bool b))::(1900003,.box (enc x))::l
def lW(s:aB)(x:bg):cF:=fun r os'=>r=.bool (ee s x).2∧os'=dK x (ee s x).2 (gA s.all.length (ee s x).1)
def lh:List (Nat×Nat):=[(1900003,3),(1900004,4)]
theorem rJ{s:aB}(hk:cu s)(x:bg):cu (ee s x).1∧(ee s x).1.av=s.av∧s.all.length≤(ee s x).1.all.length∧(ee s x).1.all.length≤s.all.length+1:=by
 simp only[ee];cases h:fh s x with
 |none=>exact ⟨hk,rfl,Z3 _,by simp⟩
 |some s' =>
  simp only[fh] at h;split at h
  ·obtain ⟨J,U,ah,ar⟩:=hk.next h
   refine ⟨J,U,?_,ah⟩;by_cases hk3:x.kind=3
   ·simp only[di,hk3,Int.reduceEq,if_false,if_true] at h;split at h <;>cases h
    simp
   ·exact Nat.le_of_eq (ar hk3).symm
  ·cases h
theorem tQ{s:aB}{k:Nat}(h:s.all.length≤k+1){n:Nat}(hn:aw (gA k s) n=true):n=57∨(1000000≤n∧n<1000006+k):=by
 rcases (dL (gG h)).1 hn with U | ⟨i,hi,rfl⟩
 ·omega
 ·simp only[fU];split <;>omega
theorem lr{s:aB}{n:Nat}(hn:aw (aL s) n=true):1000000≤n∧n<1000005+s.all.length:=by
 rcases (dL (dE _)).1 hn with U | ⟨i,hi,rfl⟩
 ·omega
 ·simp only[bD];omega
theorem jv{x:bg}{b:Bool}{l:List (Nat×aq)}{n:Nat} : aw (dK x b l) n=true↔n=1900004∨n=1900003∨aw l n=true:=by
 simp only[aw,dK,aj];by_cases J:n=1900004
 ·simp[J]
 by_cases U:n=1900003
 ·simp[U]
 simp[J,U]
theorem re{x:bg}{b:Bool}{l:List (Nat×aq)}(ao:∀ m y,aj l m=some y→y.only (aw l)=true∧y.eh=true){n:Nat}{y:aq}(h:aj (dK x b l) n=some y):y.only (aw (dK x b l))=true∧y.eh=true:=by
 simp only[dK,aj] at h;split at h
 ·cases h;exact ⟨rfl,rfl⟩
 split at h
 ·cases h;exact ⟨cJ _ _,rfl⟩
 obtain ⟨J,U⟩:=ao n y h;refine ⟨aq.iL (fun m hm=>jv.2 (.inr (.inr hm))) y J,U⟩
theorem xe(ρ:List (Nat×Nat))(k:Nat)(v:aq)(os:List (Nat×aq)):dB ρ ((k,v)::os)=(bI ρ k,v.bl (bI ρ))::dB ρ os:=rfl
theorem EC{ρ:List (Nat×Nat)}{ν ν':Nat→Nat} : ∀ (l:List dh) (i:Nat),(∀ k,k<i+l.length→bI ρ (ν k)=ν' k)→dB ρ (jl ν i l)=jl ν' i l
 | [],_,_=>rfl
 |r::l,i,h=>by
  simp only[zy5] at h;simp only[jl,xe,h i (by omega),aq.bl,kR,EC l (i+1) fun k hk=>h k (by omega)]
theorem EF{ρ:Nat→Nat}{ν ν':Nat→Nat} : ∀ l:List Nat,(∀ i∈l,ρ (ν i)=ν' i)→I.dT ρ (dS ν l)=dS ν' l
 | [],_=>rfl
 |i::l,h=>by
  have ih:=EF (ρ:=ρ) l fun j hj=>h j (by simp[hj]);simp only[dS] at ih;simp only[dS,Z4,I.dT,I.bl,h i (by simp),ih]
theorem EE{ρ:List (Nat×Nat)}{B B':Nat}{ν ν':Nat→Nat}{s:aB}(ao:∀ i∈s.aQ,i<s.all.length)(aW:∀ j,j<5→bI ρ (B+j)=B'+j)(h:∀ k,k<s.all.length→bI ρ (ν k)=ν' k):dB ρ (ed B ν s)=ed B' ν' s:=by
 have hB:bI ρ B=B':=aW 0 (by omega);have J:=aW 1 (by omega);have U:=aW 2 (by omega);have ah:=aW 3 (by omega);have ar:=aW 4 (by omega);have hp:=EF (ρ:=bI ρ) s.aQ fun i hi=>h i (ao i hi);have hr:I.dT (bI ρ) (List.replicate s.here.length (.bool true))=List.replicate s.here.length (.bool true):=mT _ _ (qd _);simp only[ed,xe,hB,J,U,ah,ar,EC s.all 0 (by simpa using h),ng,o9,oe,qF,oO,gI,aq.bl,I.bl,I.dT,tG,hp,hr]
theorem Co{ρ:List (Nat×Nat)}{os:List (Nat×aq)}{m:Nat}{y:aq}(inj:∀ m',aw os m'=true→bI ρ m'=bI ρ m→m'=m)(h:aj os m=some y):aj (dB ρ os) (bI ρ m)=some (y.bl (bI ρ)):=by
 have J:=qM ρ os [] (bI ρ m);rw[List.append_nil] at J;rw[J];cases hp:pre ρ os (bI ρ m) with
 |none=>exact absurd rfl (w0 hp (by simp[aw,h]))
 |some m' =>
  obtain ⟨k1,k2⟩:=kZ hp;have:=inj m' k1 k2;subst this;simp only[h,Z7]
theorem ma(m:Nat):bI lh m=if m=1900003 then 3 else if m=1900004 then 4 else m:=rfl
theorem EB{s:aB}(hk:cu s){k:Nat}(h:s.all.length≤k+1)(hlen:k≤100000):dB lh (gA k s)=gA k s :=
 EE hk.cv (fun j hj=>by rw[ma,if_neg (by omega),if_neg (by omega)]) fun i hi=>by
  have:fU 1000000 57 k i=57∨(1000000≤fU 1000000 57 k i∧fU 1000000 57 k i<1000006+k):=by simp only[fU];split <;>omega
  rw[ma,if_neg (by omega),if_neg (by omega)]
theorem XW{s:aB}(hk:cu s)(hlen:s.all.length≤100000):dB lh (aL s)=aL s:=by
 rw[←tR hk (Z3 _)];exact EB hk (by omega) hlen
def xi:bx:=.seq (.b8 none Bt) (.seq (.b8 LQ qw) (.seq (.b8 none TQ) .ret))
theorem LV:Tryz.f81.body.bind (u9 Tryz.prog Tryz.f81.ntmps)=some (.b8 none Br,113,4,5,xi):=by kernel_rfl
def pF(s:aB)(x:bg):List (Nat×aq):=(4,.box (.bool false))::(3,.box (enc x))::aL s
theorem Vf{s:aB}(hk:cu s)(hlen:s.all.length≤100000)(x:bg):gn lh (dK x false (aL s)) (pF s x):=by
 refine ⟨fun m y hy=>⟨?_,re (fun _ _ h=>iw hk h) hy⟩,fun m m' hm hm' e =>?_⟩
 ·simp only[dK,aj] at hy;split at hy
  ·rename_i h;subst h;cases hy;rfl
  split at hy
  ·rename_i h;subst h;cases hy;simp only[aq.bl,kR];rfl
  ·have hm:=lr (s:=s) (n:=m) (by simp[aw,hy]);have e:bI lh m=m:=by rw[ma,if_neg (by omega),if_neg (by omega)]
   have:=Co (ρ:=lh) (os:=aL s) (m:=m) (fun m' hm' he=>by
    have:=lr hm';rw[e,ma,if_neg (by omega),if_neg (by omega)] at he;exact he) hy
   rw[XW hk hlen] at this;rw[e] at this ⊢;simp only[pF,aj];rw[if_neg (by omega),if_neg (by omega)];exact this
 ·have key:∀ m,aw (dK x false (aL s)) m=true→m=1900004∨m=1900003∨(1000000≤m∧m<1900000):=fun m hm=>by
   rcases jv.1 hm with h | h | h
   ·exact .inl h
   ·exact .inr (.inl h)
   ·have:=lr h;exact .inr (.inr (by omega))
  have k1:=key m hm;have k2:=key m' hm';rw[ma,ma] at e
  (repeat' split at e) <;>omega
theorem Hl{s:aB}(hk:cu s)(hlen:s.all.length≤100000)(x:bg):∀ r os',lW s x r os'→gC false lh (dK x false (aL s)) (pF s x) r os':=by
 rintro r os' ⟨rfl,rfl⟩;obtain ⟨J,U,ah,ar⟩:=rJ hk x;have hon:∀ m y,aj (gA s.all.length (ee s x).1) m=some y→y.only (aw (gA s.all.length (ee s x).1))=true∧y.eh=true:=fun m y h=>lv (gG ar) J.cv h;have key:∀ m,aw (dK x (ee s x).2 (gA s.all.length (ee s x).1)) m=true→m=1900004∨m=1900003∨m=57∨(1000000≤m∧m<1900000):=fun m hm=>by
  rcases jv.1 hm with h | h | h
  ·exact .inl h
  ·exact .inr (.inl h)
  ·have:=tQ ar h;omega
 refine ⟨fun m y hy=>⟨(re hon hy).1,(re hon hy).2,fun h=>by cases h⟩,fun m m' hm hm' e =>?_,fun m hm =>?_,fun m hm hno =>?_,rfl,fun h=>by cases h⟩
 ·have k1:=key m hm;have k2:=key m' hm';rw[ma,ma] at e
  (repeat' split at e) <;>omega
 ·rcases jv.1 hm with h | h | h
  ·exact jv.2 (.inl h)
  ·exact jv.2 (.inr (.inl h))
  ·refine jv.2 (.inr (.inr ?_));rcases (dL (dE _)).1 h with h5 | ⟨i,hi,rfl⟩
   ·exact (dL (gG ar)).2 (.inl h5)
   ·exact (dL (gG ar)).2 (.inr ⟨i,by omega,(lU hi).symm⟩)
 ·have hno2:¬ (m=1900004∨m=1900003∨aw (aL s) m=true):=fun h=>by
   rw[jv.2 h] at hno;cases hno
  rcases jv.1 hm with h | h | h
  ·exact absurd (.inl h) hno2
  ·exact absurd (.inr (.inl h)) hno2
  ·have h57:m=57:=by
    rcases (dL (gG ar)).1 h with h5 | ⟨i,hi,e⟩
    ·exact absurd (.inr (.inr ((dL (dE _)).2 (.inl h5)))) hno2
    ·by_cases hi2:i=s.all.length
     ·subst hi2;simpa[fU] using e
     ·exact absurd (.inr (.inr ((dL (dE _)).2 (.inr ⟨i,by omega,by rw[e,lU (by omega)]⟩)))) hno2
   subst h57;refine ⟨?_,by decide⟩
   show aj (pF s x) 57=none
   simp only[pF,aj,Nat.reduceEqDiff,if_false];exact eH (.inl (by omega)) fun i _=>by simp[bD];omega
theorem Hk{s:aB}(hk:cu s)(hlen:s.all.length≤100000)(x:bg):∀ r os',lW s x r os'→∃ osF,r.flat=true∧r.bl (bI lh)=r∧(∀ m z,aj osF m=some z→aj (dB lh os'++pF s x) m=some z∧z.only (aw osF)=true∧z.eh=true)∧C7 s x r osF:=by
 rintro r os' ⟨rfl,rfl⟩;obtain ⟨J,U,ah,ar⟩:=rJ hk x;refine ⟨gA s.all.length (ee s x).1,rfl,rfl,fun m z hz=>⟨?_,lv (gG ar) J.cv hz⟩,rfl,rfl⟩;have hm:=tQ ar (n:=m) (by simp[aw,hz]);simp only[dK,xe,EB J ar hlen,Z9,aj,ma];rw[if_neg (by simp only[Nat.reduceEqDiff,if_false,if_true];omega),if_neg (by simp only[if_true];omega),fN,hz]
theorem VY(f:Nat):(f+1000000<1000000)=False:=by simp
theorem BO{s:aB}(hk:cu s)(hlen:s.all.length≤100000)(x:bg)(b:Bool):gn [] (aL s) (dK x b (aL s)):=by
 refine ⟨fun m y hy=>⟨?_,iw hk hy⟩,fun m m' _ _ h=>h⟩;have hm:=lr (s:=s) (n:=m) (by simp[aw,hy]);rw[aq.km (ρ:=bI []) (fun n=>rfl)]
 show aj (dK x b (aL s)) m=some y
 simp only[dK,aj];rw[if_neg (by omega),if_neg (by omega)];exact hy
theorem Yx{s s':aB}(hk':cu s')(ah:s.all.length≤s'.all.length)(ar:s'.all.length≤s.all.length+1)(x:bg):gC false [] (aL s) (dK x false (aL s)) (.tuple []) (gA s.all.length s'):=by
 refine ⟨fun m y hy=>⟨(lv (gG ar) hk'.cv hy).1,(lv (gG ar) hk'.cv hy).2,fun h=>by cases h⟩,fun m m' _ _ h=>h,fun m hm =>?_,fun m hm hno =>?_,rfl,fun h=>by cases h⟩
 ·rcases (dL (dE _)).1 hm with h5 | ⟨i,hi,rfl⟩
  ·exact (dL (gG ar)).2 (.inl h5)
  ·exact (dL (gG ar)).2 (.inr ⟨i,by omega,(lU hi).symm⟩)
 ·have h57:m=57:=by
   rcases (dL (gG ar)).1 hm with h5 | ⟨i,hi,e⟩
   ·rw[(dL (dE _)).2 (.inl h5)] at hno;cases hno
   ·by_cases hi2:i=s.all.length
    ·subst hi2;simpa[fU] using e
    ·rw[(dL (dE _)).2 (.inr ⟨i,by omega,by rw[e,lU (by omega)]⟩)] at hno;cases hno
  subst h57;refine ⟨?_,by decide⟩
  show aj (dK x false (aL s)) 57=none
  simp only[dK,aj,Nat.reduceEqDiff,if_false];exact eH (.inl (by omega)) fun i _=>by simp[bD];omega
theorem bO.wy{ab:List FuncId}{K:ai→Prop}{f:FuncId}{s s':aB}{x:bg}{avs:List I}{a1 a2:Option (List I)}{dst:Option Nat}{rest:List aE}{ts:List (Nat×I)}(hk:cu s)(hlen:s.all.length≤100000)(hk':cu s')(ah:s.all.length≤s'.all.length)(ar:s'.all.length≤s.all.length+1)
  (hf:ab.contains f=true) (hc:cU Tryz.prog f [.ptr 1000000 [],enc x] (aL s) (tv s.all.length s')) (hav:avs=[.ptr 1000000 [],enc x])
  (h:bO Tryz.prog dj ab K (az rest ((au ts (gA s.all.length s'++dK x false (aL s))).aT dst (.tuple [])))):bO Tryz.prog dj ab K (.call f avs a1 a2 dst rest (au ts (dK x false (aL s)))):=by
 subst hav;refine .wK false [] (aL s) [.ptr 1000000 [],enc x] _ hf hc (BO hk hlen x false) sh ?_ ?_
 ·rintro r os' ⟨rfl,rfl⟩;exact Yx hk' ah ar x
 ·rintro r os' ⟨rfl,rfl⟩;rw[l4];exact h
theorem Xl{Q:Exit→ai→Prop}{f:FuncId}{s:aB}{x:bg}(hk:cu s)(hlen:s.all.length≤100000)(hc:fi Tryz.prog f fC [.ptr 1000000 [],enc x] (aL s) (jY s)){ts:List (Nat×I)}(hq:Q (.panic fC) (au ts (aL s++dK x false (aL s)))):nr Tryz.prog Q f [.ptr 1000000 [],enc x] (au ts (dK x false (aL s))) :=
 .mk false [] (aL s) [.ptr 1000000 [],enc x] fC _ hc (BO hk hlen x false) sh (fun os' h=>by cases h;exact uG hk rfl) (fun os' h=>by cases h;rw[l4];exact hq)
theorem Hj{ts:List (Nat×I)}{s:aB}{x:bg}(hlen:s.all.length≤100000):au ts (aL s++dK x false (aL s))=au ts (dK x false (aL s)):=by
 simp only[au,ai.mk.injEq,true_and]
 funext n
 rw[fN];cases h:aj (aL s) n with
 |none=>rfl
 |some y =>
  have:=lr (s:=s) (n:=n) (by simp[aw,h]);simp only[dK,aj];rw[if_neg (by omega),if_neg (by omega),h]
theorem Ew{s:aB}{x:bg}(hk:cu s)(hlen:s.all.length≤100000)(hn:ee s x=(s,false)){ts:List (Nat×I)}(ht:Abs.bW ts 4=.ptr 1900004 []):rn [.cell 4 none] (lW s x) fC 1900004 (.panic fC) (au ts (dK x false (aL s))):=by
 refine ⟨rfl,⟨false,rfl⟩,dK x false (aL s),[.bool false],fun m z hz=>⟨?_,re (fun _ _ h=>iw hk h) hz⟩,⟨⟨.bool false,?_,.inl ⟨rfl,rfl,rfl⟩⟩,trivial⟩,?_⟩
 ·show aj ((1900004,.box (.bool false))::dK x false (aL s)) m=some z
  simp only[aj];split
  ·rename_i h;subst h;exact hz
  ·exact hz
 ·show (match cK _ (Abs.bW ts 4) with | some x=>if b7 none x=true then some x else none | none=>none)=some (I.bool false)
  rw[ht];rfl
 ·show lW s x (.bool false) (dK x false (aL s))
  simp only[lW];rw[hn];exact ⟨rfl,congrArg _ (tR hk (Z3 _)).symm⟩
theorem X3{s:aB}(hk:cu s)(hlen:s.all.length≤100000)(x:bg)(W:World)(D:aP)(E:aY)(n:Nat)(d:Deferred) :
  ae ⟨Tryz.prog,W,D,n,cI E,E,dj,none,some [d]⟩ xi (rn [.cell 4 none] (lW s x) fC 1900004) (au [(0,.ptr 1000000 []),(3,.ptr 1900003 []),(4,.ptr 1900004 [])] (dK x false (aL s))):=by
 have aW:aj (dK x false (aL s)) 1000000=some (.box (.agg [.int .i64 s.av,.mref 1000001,.mref 1000002,.int .i64 s.all.length,.mref 1000003,.mref 1000004])):=by
  simp only[dK,aj,Nat.reduceEqDiff,if_false];exact fA
 have ar:aj (dK x false (aL s)) 1000004=some (.bt gI (jn 1000000)):=by
  simp only[dK,aj,Nat.reduceEqDiff,if_false];exact oy
 have hb3:aj (dK x false (aL s)) 1900003=some (.box (enc x)):=rfl;have hb4:aj (dK x false (aL s)) 1900004=some (.box (.bool false)):=rfl;have hF:=Gh x;simp only[xi];rcases hx:eJ x
 ·rw[hx] at hF;have hn:ee s x=(s,false):=by simp[ee,fh,hx]
  have R:=y6 @aW (y6 @ar (y6 @hb3 (y6 @hb4 (y6 @bu (y6 @bp aH)))))
  repeat' ((first |(with_reducible refine .guard (fun hb =>?_) (fun hb =>?_) <;>try simp only[hb])|(refine ae.n2 (gs:=Bt) (gs1:=[_,_]) rfl fun K hK =>?_)|refine ae.aJ (by decide +kernel) rfl fun K hK =>?_|refine .flat _ (hF) rfl ?_|(refine .aA [0,1,3,4] hK ?_;clear hK K)|(with_reducible refine .done (hK _ ?_);clear hK K)|refine ae.of rfl ?_|(with_reducible refine aC.aI (fun h =>?_) (fun h =>?_) <;>try simp only[h])) <;>try simp only[aK,R,simprocAttr])
  all_goals clear R
  exact .call (iq (Ew hk hlen hn rfl))
 rw[hx] at hF;obtain ⟨f,hlk,hfc,hdo⟩:=wy hk hlen hx;have hfl:=sD f;have hlm:=VY f;have hkd:(enc x:I).dJ=some [.int .i64 x.kind,.int .i64 x.aD,.int .i64 x.other,.int .i64 x.no]:=rfl;simp only[kA] at hdo;cases hn:di s x with
 |none =>
  rw[hn] at hdo;have hn2:ee s x=(s,false):=by simp[ee,fh,hx,hn]
  have R:=y6 @aW (y6 @ar (y6 @hb3 (y6 @hb4 (y6 @hlk (y6 @hfl (y6 @hlm (y6 @bu (y6 @bp aH))))))))
  repeat' ((first |(with_reducible refine .guard (fun hb =>?_) (fun hb =>?_) <;>try simp only[hb])|(refine ae.jw (gs:=qw) 8 [] [] [0,1,2,3,4,5,6,7] (by decide +kernel) rfl (cW.of (by simp[ft])) fun K hK =>?_;simp only[fe,qw,gx,Z9,zz9,List.take_zero,Y9,zz0,R,simprocAttr])|refine ae.aJ (by decide +kernel) rfl fun K hK =>?_|refine .flat _ (hF) rfl ?_|refine .flat _ (kB) rfl ?_|(refine .aA [0,1,3,4] hK ?_;clear hK K)|(with_reducible refine .done (hK _ ?_);clear hK K)|refine ae.of rfl ?_|(with_reducible refine aC.aI (fun h =>?_) (fun h =>?_) <;>try simp only[h])) <;>try simp only[aK,R,simprocAttr])
  all_goals clear R
  refine .fQ (f:=f+1000000) (caps:=[.ptr 1000000 []]) rfl ?_;rw[sD,vv];exact Xl hk hlen hdo (by rw[Hj hlen];exact Ew hk hlen hn2 rfl)
 |some s' =>
  rw[hn] at hdo;have hn2:ee s x=(s',true):=by simp[ee,fh,hx,hn]
  have hso:=rJ hk x;rw[hn2] at hso;simp only at hso;obtain ⟨k1,k2,k3,k4⟩:=hso;have e4:∀ n,n=1900004∨n=1900003→aj (gA s.all.length s') n=none:=fun n hn=>by
   rcases hn with rfl | rfl <;>exact eH (.inr (by omega)) fun i hi=>by simp only[fU];split <;>omega
  have hb4':aj (gA s.all.length s'++dK x false (aL s)) 1900004=some (.box (.bool false)):=by
   rw[fN,e4 _ (.inl rfl)];exact hb4
  have hst:∀ A rest,dp A none 1900004 [] (.bool false) (.bool true) rest (some (.bool false))=az rest (A.aV 1900004 (.box (.bool true))):=fun A rest=>dP rfl rfl rfl;have R:=y6 @aW (y6 @ar (y6 @hb3 (y6 @hb4 (y6 @hb4' (y6 @hst (y6 @hlk (y6 @hfl (y6 @hlm (y6 @bu (y6 @bp aH))))))))))
  repeat' ((first |(with_reducible refine .guard (fun hb =>?_) (fun hb =>?_) <;>try simp only[hb])|(refine ae.rp (gs:=qw) [125,126,127,128,129,130,131,132] [] [0,1,2,3,4,5,6,7,8] (by decide +kernel) (cW.of (by simp[ft])) fun K hK =>?_;simp only[fe,qw,Y9,zz0,R,simprocAttr])|refine ae.aJ (by decide +kernel) rfl fun K hK =>?_|refine .flat _ (hF) rfl ?_|refine .flat _ (kB) rfl ?_|refine bO.wy hk hlen k1 k3 k4 hfc hdo rfl ?_|(refine .aA [0,1,3,4] hK ?_;clear hK K)|(with_reducible refine .done (hK _ ?_);clear hK K)|refine ae.of rfl ?_|(with_reducible refine aC.aI (fun h =>?_) (fun h =>?_) <;>try simp only[h])) <;>try simp only[aK,R,simprocAttr])
  all_goals clear R
  refine ⟨⟨true,rfl⟩,dK x true (gA s.all.length s'),[.bool true],fun m z hz=>⟨?_,re (fun _ _ h=>lv (gG k4) k1.cv h) hz⟩,⟨⟨.bool true,rfl,.inl ⟨rfl,rfl,rfl⟩⟩,trivial⟩,?_⟩
  ·show aj ((1900004,.box (.bool true))::(gA s.all.length s'++dK x false (aL s))) m=some z
   simp only[dK,aj] at hz ⊢;split
   ·rename_i h;rw[if_pos h] at hz;exact hz
   rename_i h;rw[if_neg h] at hz;rw[fN];split at hz
   ·rename_i U;rw[U,e4 _ (.inr rfl),←U];simp only[aj,if_neg h];exact hz
   ·rw[hz]
  ·show lW s x (.bool true) (dK x true (gA s.all.length s'))
   simp only[lW];rw[hn2];exact ⟨rfl,rfl⟩
theorem Gy(s:aB)(hk:cu s)(hlen:s.all.length≤100000)(x:bg):cU Tryz.prog 81 [.ptr 1000000 [],enc x] (aL s) (C7 s x):=by
 refine cU.W8 Tryz.func81 IP LV KY (u8 rfl) (u8 rfl) dx XP XO (by decide) fun hwf W0 bH E1 =>?_;simp only[bN,Z1];clear hwf;have n3:aj (aL s) 3=none:=eH (.inl (by omega)) fun i _=>by simp[bD];omega
 have n4:aj (aL s) 4=none:=eH (.inl (by omega)) fun i _=>by simp[bD];omega
 refine .j0 (by decide +kernel) fun K hK =>?_
 try simp only[Br,n3,n4,aH,bG,simprocAttr]
 refine .done (hK _ ?_);simp only[ef];refine ⟨_,_,lh,dK x false (aL s),[0,3,4],[.ptr 1000000 [],.ptr 1900003 [],.ptr 1900004 []],1900004,false,lW s x,rfl,?_⟩;exact {
  fK:=rfl
  BN:=Vf hk hlen x
  arg:=⟨.inl ⟨rfl,jv.2 (.inr (.inr ((dL (dE _)).2 (.inl (by omega))))),rfl⟩,.inl ⟨rfl,jv.2 (.inr (.inl rfl)),rfl⟩,.inl ⟨rfl,jv.2 (.inl rfl),rfl⟩,trivial⟩
  yq:=Hl hk hlen x
  Fa:=rfl
  box:=rfl
  lP:=fun m hm=>by
   have:1000000≤m:=by
    rcases jv.1 hm with h | h | h
    ·omega
    ·omega
    ·exact (lr h).1
   exact ⟨zx4 (u8 rfl) this,this⟩
  rest:=fun W D E d=>X3 hk hlen x W D E _ d
  iA:=Hk hk hlen x }
end Go.Proofs.YthbdbocionnfgaaGreatDoor
namespace Go.Abs
open Go Go.RowKit
theorem bB.fn{ts ts':List (Nat×I)}{os os':List (Nat×aq)}(J:cC ts ts')(U:∀ n,aj os' n=none∨aj os' n=aj os n)(ah:cO (aw os') ts')(ar:∀ n x,aj os' n=some x→x.only (aw os')=true):bB (au ts os) (au ts' os'):=by
 rintro c a w ⟨D,E,ab⟩;have hp:∀ n,aw os' n=true→(if aw os' n then E n else none)=E n:=fun n hn=>by simp[hn]
 refine ⟨D,fun n=>if aw os' n then E n else none,ab.sz,ab.eD,fun t =>?_,ab.dM,ab.c6,ab.aQ,fun n =>?_,fun n m e e' b J U ah ar =>?_,fun n e hn =>?_,ab.eU,ab.cT,ab.eX,ab.fB⟩
 ·have:=tY J t;rcases this with h | h
  ·simp only[au];rw[h];simp[aZ]
  ·refine aZ.c8 (p:=aw os') hp (wR ah t) ?_;have:=ab.dQ t;simp only[au] at *;rw[h];exact this
 ·have ho:=ab.bP n;simp only[au] at *;rcases U n with h | h
  ·rw[h];simp[cZ,aw,h]
  ·rw[h];by_cases hin:aj os n=none
   ·rw[hin];simp[cZ,aw,h,hin]
   ·have ay:(if aw os' n then E n else none)=E n:=hp n (by simp[aw,h];cases bC:aj os n <;>simp_all);cases hx:aj os n with
    |none=>exact absurd hx hin
    |some x =>
     have hon:=ar n x (h.trans hx);rw[hx] at ho;cases x with
     |box x =>
      obtain ⟨b,cs,T,k1,k2,k3,k4,k5⟩:=ho;exact ⟨b,cs,T,ay.trans k1,k2,k3,al.c8 hp _ _ (by simpa[aq.only] using hon) k4,k5⟩
     |bY T sz es =>
      obtain ⟨aG,k1,k2,k3⟩:=ho;refine ⟨aG,ay.trans k1,k2,?_⟩;cases aG with
      |none=>exact k3
      |some bc =>
       obtain ⟨b,cap⟩:=bc;obtain ⟨cs,pre,rest,q1,q2,q3,q4,q5⟩:=k3;exact ⟨cs,pre,rest,q1,q2,q3,aM.c8 hp _ _ (by simpa[aq.only] using hon) q4,q5⟩
     |dH T xs =>
      obtain ⟨aG,k1,k2,k3⟩:=ho;exact ⟨aG,ay.trans k1,k2,k3⟩
     |dG x =>
      obtain ⟨b,k1,k2⟩:=ho;exact ⟨b,ay.trans k1,k2⟩
     |bt ks vs =>
      obtain ⟨b,es,ck,k1,k2,k3,k4,k5,k6,k7⟩:=ho;simp only[aq.only,t8] at hon;exact ⟨b,es,ck,ay.trans k1,k2,k3,k4,aF.c8 hp _ _ hon.1 k5,aF.c8 hp _ _ hon.2 k6,k7⟩
     |it ks vs left cur =>
      obtain ⟨r,b,es,ck,si,se,la,k1,k2,k3,k4,k5,k6,k7⟩:=ho;simp only[aq.only,t8] at hon;exact ⟨r,b,es,ck,si,se,la,ay.trans k1,k2,k3,k4,aF.c8 hp _ _ hon.1 k5,aF.c8 hp _ _ hon.2 k6,k7⟩
 ·refine ab.cN n m e e' b ?_ ?_ ah ar
  ·split at J
   ·exact J
   ·cases J
  ·split at U
   ·exact U
   ·cases U
 ·by_cases hi:aw os' n=true
  ·simp only[hi,if_true];exact ab.dR n e hn
  ·simp only[hi];exact .inl rfl
end Go.Abs
namespace Go.Proofs.YthbdbocionnfgaaGreatDoor
open Go Go.Abs
open Go.Abs.Enc (enc)
theorem CD:(∀ v:I,v.bU=true→fw (.i .i64) (.int .i64 1) v [] []=some ([.int .i64 1],[v]))∧(∀ a1 v:I,v.bU=true→fw (.i .i64) (.int .i64 2) v [.int .i64 1] [a1]=some ([.int .i64 1,.int .i64 2],[a1,v]))∧(∀ a1 a2 v:I,v.bU=true→fw (.i .i64) (.int .i64 3) v [.int .i64 1,.int .i64 2] [a1,a2]=some ([.int .i64 1,.int .i64 2,.int .i64 3],[a1,a2,v]))∧(∀ a1 a2 a3 v:I,v.bU=true→fw (.i .i64) (.int .i64 4) v [.int .i64 1,.int .i64 2,.int .i64 3] [a1,a2,a3]=some ([.int .i64 1,.int .i64 2,.int .i64 3,.int .i64 4],[a1,a2,a3,v]))∧(∀ a1 a2 a3 a4 v:I,v.bU=true→fw (.i .i64) (.int .i64 5) v [.int .i64 1,.int .i64 2,.int .i64 3,.int .i64 4] [a1,a2,a3,a4]=some ([.int .i64 1,.int .i64 2,.int .i64 3,.int .i64 4,.int .i64 5],[a1,a2,a3,a4,v]))∧(∀ a1 a2 a3 a4 a5 v:I,v.bU=true→fw (.i .i64) (.int .i64 6) v [.int .i64 1,.int .i64 2,.int .i64 3,.int .i64 4,.int .i64 5] [a1,a2,a3,a4,a5]=some ([.int .i64 1,.int .i64 2,.int .i64 3,.int .i64 4,.int .i64 5,.int .i64 6],[a1,a2,a3,a4,a5,v]))∧(∀ a1 a2 a3 a4 a5 a6 v:I,v.bU=true→fw (.i .i64) (.int .i64 7) v [.int .i64 1,.int .i64 2,.int .i64 3,.int .i64 4,.int .i64 5,.int .i64 6] [a1,a2,a3,a4,a5,a6]=some ([.int .i64 1,.int .i64 2,.int .i64 3,.int .i64 4,.int .i64 5,.int .i64 6,.int .i64 7],[a1,a2,a3,a4,a5,a6,v]))∧(∀ a1 a2 a3 a4 a5 a6 a7 v:I,v.bU=true→fw (.i .i64) (.int .i64 8) v [.int .i64 1,.int .i64 2,.int .i64 3,.int .i64 4,.int .i64 5,.int .i64 6,.int .i64 7] [a1,a2,a3,a4,a5,a6,a7]=some ([.int .i64 1,.int .i64 2,.int .i64 3,.int .i64 4,.int .i64 5,.int .i64 6,.int .i64 7,.int .i64 8],[a1,a2,a3,a4,a5,a6,a7,v])) :=
 ⟨fun  v h=>by simp[fw,eF,bZ,I.bU];try exact h,fun a1 v h=>by simp[fw,eF,bZ,I.bU];try exact h,fun a1 a2 v h=>by simp[fw,eF,bZ,I.bU];try exact h,fun a1 a2 a3 v h=>by simp[fw,eF,bZ,I.bU];try exact h,fun a1 a2 a3 a4 v h=>by simp[fw,eF,bZ,I.bU];try exact h,fun a1 a2 a3 a4 a5 v h=>by simp[fw,eF,bZ,I.bU];try exact h,fun a1 a2 a3 a4 a5 a6 v h=>by simp[fw,eF,bZ,I.bU];try exact h,fun a1 a2 a3 a4 a5 a6 a7 v h=>by simp[fw,eF,bZ,I.bU];try exact h⟩
theorem bS:(∀ f c,(I.func f c).bU=true)∧(∀ n,(I.mref n).bU=true)∧(∀ n p,(I.ptr n p).bU=true):=⟨fun _ _=>rfl,fun _=>rfl,fun _ _=>rfl⟩
def nR(av:Int):List (Nat×aq):=[(9,.box (.agg [.int .i64 av,.mref 5,.mref 6,.int .i64 0,.mref 7,.mref 11])),(5,.bt [] []),(6,.bt [] []),(7,.bt [] []),(11,.bt gI (jn 9))]
def eN(av:Int):aB:=⟨av,[],[],[],[]⟩
def Xu(av:Int):cF:=fun r os'=>r=.ptr 9 []∧os'=nR av
theorem FF(av:Int):cU Tryz.prog 106 [enc av] [] (Xu av):=by
 refine cU.b9 Tryz.func106 HX I4 J6 (u8 rfl) (u8 rfl) (fun m hm=>by simp[aw,aj] at hm) (fun hwf W0 bH E1 =>?_);simp only[yG,Di,bN];clear hwf;have hbld:(dO [.int .i64 0,.raw (.map none),.raw (.map none),.int .i64 0,.raw (.map none),.raw (.map none)] [(0,.int .i64 av),(1,.mref 5),(2,.mref 6),(4,.mref 7)]).map I.agg=some (.agg [.int .i64 av,.mref 5,.mref 6,.int .i64 0,.mref 7,.raw (.map none)]):=by simp[dO,I.bU,I.size]
 have hst:∀ A rest,dp A none 9 [5] (.agg [.int .i64 av,.mref 5,.mref 6,.int .i64 0,.mref 7,.raw (.map none)]) (.mref 11) rest (some (.raw (.map none)))=az rest (A.aV 9 (.box (.agg [.int .i64 av,.mref 5,.mref 6,.int .i64 0,.mref 7,.mref 11]))):=fun A rest=>dP rfl rfl rfl;have hval:∀ a b c d e f:I,(I.agg [a,b,c,d,e,f]).bU=true:=fun _ _ _ _ _ _=>rfl;have hoff:∀ v,dm [.int .i64 av,.mref 5,.mref 6,.int .i64 0,.mref 7,.raw (.map none)] 5 5 v=some v:=fun _=>rfl;have hall:([I.ptr 9 []].all fun y=>y.bU)=true:=rfl;have R:=y6 @hall (y6 @hbld (y6 @hst (y6 @hval (y6 @hoff (y6 @CD (y6 @bS (y6 @bu (y6 @bp aH))))))))
 repeat' ((first |refine ae.aJ (by decide +kernel) rfl fun K hK =>?_|(refine .aA [0,2,3] hK ?_;clear hK K)|(with_reducible refine .done (hK _ ?_);clear hK K)|refine ae.of rfl ?_|(with_reducible refine aC.aI (fun h =>?_) (fun h =>?_) <;>try simp only[h])) <;>try simp only[aK,R,simprocAttr])
 all_goals clear R
 refine ⟨nR av,[.ptr 9 []],fun n x hx =>?_,⟨⟨_,rfl,.inl ⟨rfl,rfl,rfl⟩⟩,trivial⟩,rfl,rfl⟩;simp only[nR,aj] at hx
 (repeat' split at hx) <;>first
  |(cases hx;done)
  |(rename_i h;subst h;cases hx;exact ⟨rfl,rfl,rfl⟩)
abbrev dn(s:aB):List (Nat×aq):=ed 2000 (bD 2000) s
def xj:List (Nat×Nat):=[(9,2000),(5,2001),(6,2002),(7,2003),(11,2004)]
theorem XY(av:Int):dB xj (nR av)=dn (eN av):=rfl
theorem kj(av:Int):cu (eN av):=⟨fun i hi=>by simp[eN] at hi,by simp[eN],by simp[eN]⟩
theorem aR.eN{K:ai→Prop}{av:Int}{avs:List I}{a1 a2:Option (List I)}{dst:Option Nat}{rest:List aE}{ts:List (Nat×I)}{os0:List (Nat×aq)}(hav:avs=[enc av])(hno:∀ m,2000≤m→m<1000000→aj os0 m=none)
  (h:aR Tryz.prog dj false K (az rest ((au ts (dn (Go.Proofs.YthbdbocionnfgaaGreatDoor.eN av)++os0)).aT dst (.ptr 2000 [])))):aR Tryz.prog dj false K (.call 106 avs a1 a2 dst rest (au ts os0)):=by
 subst hav;have key:∀ m,aw (nR av) m=true→m=9∨m=5∨m=6∨m=7∨m=11:=fun m hm=>by
  simp only[aw,nR,aj] at hm
  (repeat' split at hm) <;>first | omega | (simp at hm;done)
 refine .bP false xj [] [enc av] _ rfl (FF av) ⟨fun m x hx=>by simp[aj] at hx,fun m m' hm=>by simp[aw,aj] at hm⟩ ⟨.inl ⟨(kR _ _).symm,cJ _ _,ev _⟩,trivial⟩ ?_ ?_
 ·rintro r os' ⟨rfl,rfl⟩;refine ⟨fun m y hy =>?_,fun m m' hm hm' e =>?_,fun m hm=>by simp[aw,aj] at hm,fun m hm _ =>?_,rfl,fun h=>by cases h⟩
  ·simp only[nR,aj] at hy
   (repeat' split at hy) <;>first
    |(cases hy;done)
    |(rename_i h;subst h;cases hy;exact ⟨rfl,rfl,fun h=>by cases h⟩)
  ·rcases key m hm with rfl | rfl | rfl | rfl | rfl <;>rcases key m' hm' with rfl | rfl | rfl | rfl | rfl <;>first | rfl | (simp[xj,bI] at e;done)
  ·rcases key m hm with rfl | rfl | rfl | rfl | rfl <;>exact ⟨hno _ (by decide) (by decide),by decide⟩
 ·rintro r os' ⟨rfl,rfl⟩;rw[XY];exact h
def pK(k:Nat):List (Nat×Nat):=(57,2005+k)::(List.range' 0 400).map fun j=>(1000000+j,2000+j)
theorem EL(m:Nat):∀ k a,bI ((List.range' a k).map fun j=>(1000000+j,2000+j)) m=if 1000000+a≤m∧m<1000000+a+k then m-998000 else m
 |0,a=>by
  rw[if_neg (by omega)];rfl
 |k+1,a=>by
  rw[List.range'_succ,Z4,bI,EL m k (a+1)];by_cases h:m=1000000+a
  ·rw[if_pos h,if_pos (by omega)];omega
  ·rw[if_neg h];by_cases U:1000000+(a+1)≤m∧m<1000000+(a+1)+k
   ·rw[if_pos U,if_pos (by omega)]
   ·rw[if_neg U,if_neg (by omega)]
theorem j4(k m:Nat):bI (pK k) m=if m=57 then 2005+k else if 1000000≤m∧m<1000400 then m-998000 else m:=by
 simp only[pK,bI,EL,Nat.add_zero,Nat.reduceAdd]
theorem iG(k:Nat):gu 2000 (bD 2000) k:=gu.bD _ _
theorem lu{s:aB}(hk:cu s){n:Nat}{x:aq}(h:aj (dn s) n=some x):x.only (aw (dn s))=true∧x.eh=true:=lv (iG _) hk.cv h
theorem xF{s:aB}{n:Nat}(hn:aw (dn s) n=true):2000≤n∧n<2005+s.all.length:=by
 rcases (dL (iG _)).1 hn with U | ⟨i,hi,rfl⟩
 ·omega
 ·simp only[bD];omega
theorem EA{s:aB}(hk:cu s){k:Nat}(h:s.all.length≤k+1)(hlen:k≤300):dB (pK k) (gA k s)=dn s :=
 EE hk.cv (fun j hj=>by rw[j4,if_neg (by omega),if_pos (by omega)];omega) fun i hi=>by
  simp only[fU,bD];split
  ·rename_i e;rw[j4,if_pos rfl];omega
  ·rw[j4,if_neg (by omega),if_pos (by omega)];omega
theorem XV{s:aB}(hk:cu s){k:Nat}(h:s.all.length≤k)(hlen:k≤300):dB (pK k) (aL s)=dn s:=by
 rw[←tR hk h];exact EA hk (by omega) hlen
theorem aR.rN{K:ai→Prop}{s s2:aB}{b:Bool}{x:bg}{avs:List I}{a1 a2:Option (List I)}{dst:Option Nat}{rest:List aE}{ts:List (Nat×I)}{ow:List (Nat×aq)}(hk:cu s)(hlen:s.all.length≤300)(hav:avs=[.ptr 2000 [],enc x])(how:∀ m,2000≤m→aj ow m=none)(hst:ee s x=(s2,b))
  (h:aR Tryz.prog dj false K (az rest ((au ts (dn s2++(ow++dn s))).aT dst (.bool b)))):aR Tryz.prog dj false K (.call 81 avs a1 a2 dst rest (au ts (ow++dn s))):=by
 subst hav;obtain ⟨J,U,ah,ar⟩:=rJ hk x;refine .bP false (pK s.all.length) (aL s) [.ptr 1000000 [],enc x] _ rfl (Gy s hk (by omega) x) ⟨fun m y hy=>⟨?_,iw hk hy⟩,fun m m' hm hm' e =>?_⟩ ⟨.inl ⟨?_,(dL (dE _)).2 (.inl (by omega)),rfl⟩,.inl ⟨(kR _ _).symm,cJ _ _,ev _⟩,trivial⟩ ?_ ?_
 ·have hm:=lr (s:=s) (n:=m) (by simp[aw,hy]);have:=Co (ρ:=pK s.all.length) (os:=aL s) (m:=m) (fun m' hm' he=>by
   have:=lr hm';rw[j4,j4] at he
   (repeat' split at he) <;>omega) hy
  rw[XV hk (Z3 _) hlen] at this;rw[fN,how]
  ·exact this
  ·rw[j4,if_neg (by omega),if_pos (by omega)];omega
 ·have k1:=lr hm;have k2:=lr hm';rw[j4,j4] at e
  (repeat' split at e) <;>omega
 ·simp only[I.bl,j4];rfl
 ·rintro r os' ⟨rfl,rfl⟩;refine ⟨fun m y hy=>⟨(lv (gG ar) J.cv hy).1,(lv (gG ar) J.cv hy).2,fun h=>by cases h⟩,fun m m' hm hm' e =>?_,fun m hm =>?_,fun m hm hno =>?_,rfl,fun h=>by cases h⟩
  ·have k1:=tQ ar hm;have k2:=tQ ar hm';have e1:∀ m,m=57∨(1000000≤m∧m<1000005+s.all.length)→True:=fun _ _=>trivial;have key:∀ m,aw (gA s.all.length (ee s x).1) m=true→m=57∨(1000000≤m∧m<1000005+s.all.length):=fun m hm=>by
    rcases (dL (gG ar)).1 hm with h5 | ⟨i,hi,rfl⟩
    ·omega
    ·simp only[fU];split <;>omega
   have k1:=key m hm;have k2:=key m' hm';rw[j4,j4] at e
   (repeat' split at e) <;>omega
  ·rcases (dL (dE _)).1 hm with h5 | ⟨i,hi,rfl⟩
   ·exact (dL (gG ar)).2 (.inl h5)
   ·exact (dL (gG ar)).2 (.inr ⟨i,by omega,(lU hi).symm⟩)
  ·have h57:m=57:=by
    rcases (dL (gG ar)).1 hm with h5 | ⟨i,hi,e⟩
    ·rw[(dL (dE _)).2 (.inl h5)] at hno;cases hno
    ·by_cases hi2:i=s.all.length
     ·subst hi2;simpa[fU] using e
     ·rw[(dL (dE _)).2 (.inr ⟨i,by omega,by rw[e,lU (by omega)]⟩)] at hno;cases hno
   subst h57;rw[j4,if_pos rfl];refine ⟨?_,by omega⟩;rw[fN,how _ (by omega)];exact eH (.inr (by omega)) fun i hi=>by simp only[bD];omega
 ·rintro r os' ⟨rfl,rfl⟩;rw[EA J ar hlen,hst];exact h
def fG:aB→List bg→Option aB
 |s,[]=>some s
 |s,x::l=>match fh s x with
  |some s'=>fG s' l
  |none=>none
theorem oh:∀ (l:List bg) (s:aB) (l2:List bg),fG s (l++l2)=(fG s l).bind fun s'=>fG s' l2
 | [],s,l2=>rfl
 |x::l,s,l2=>by
  simp only[Z9,fG];cases fh s x with
  |none=>rfl
  |some s'=>exact oh l s' l2
theorem xK{s s':aB}{x:bg}(hk:cu s)(h:fh s x=some s'):cu s'∧s'.av=s.av∧s'.all.length≤s.all.length+1:=by
 simp only[fh] at h;split at h
 ·obtain ⟨J,U,ah,_⟩:=hk.next h
  exact ⟨J,U,ah⟩
 ·cases h
theorem mV:∀ {l:List bg} {s s':aB},cu s→fG s l=some s'→cu s'∧s'.av=s.av∧s'.all.length≤s.all.length+l.length
 | [],s,s',hk,h=>by cases h;exact ⟨hk,rfl,Z3 _⟩
 |x::l,s,s',hk,h=>by
  simp only[fG] at h;cases hx:fh s x with
  |none=>rw[hx] at h;cases h
  |some s2 =>
   rw[hx] at h;obtain ⟨J,U,ah⟩:=xK hk hx;obtain ⟨k1,k2,k3⟩:=mV J h;exact ⟨k1,k2.trans U,by simp only[zy5];omega⟩
def fk(av:Int)(l:List bg):Option aB:=fG (eN av) l
def rh(av:Int)(l:List bg):cF:=fun r os'=>match fk av l with
 |some s=>r=.tuple [.ptr 2000 [],.bool true]∧os'=dn s
 |none=>r=.tuple [.nilp,.bool false]∧os'=[]
def r6(l:List bg)(t:Nat×aB):ai:=au [(6,.ptr 2000 []),(11,enc l),(12,.int .i64 l.length),(13,.int .i64 t.1)] (dn t.2)
theorem Gd(av:Int)(l:List bg)(ao:l.length≤200):cU Tryz.prog 62 [enc av,enc l] [] (rh av l):=by
 refine cU.b9 Tryz.func62 zT Ai Aq (u8 rfl) (u8 rfl) (fun m hm=>by simp[aw,aj] at hm) (fun hwf W0 bH E1 =>?_);simp only[uV,w9,bN,Z1];clear hwf;have R:=y6 @bS (y6 @bu (y6 @bp aH))
 repeat' ((first |refine ae.aJ (by decide +kernel) rfl fun K hK =>?_|refine aR.eN rfl (fun _ _ _=>rfl) ?_|(refine .aA [0,1,4,5,6,8,11,12,13,14,20] hK ?_;clear hK K)|(with_reducible refine .done (hK _ ?_);clear hK K)|refine ae.of rfl ?_|(with_reducible refine aC.aI (fun h =>?_) (fun h =>?_) <;>try simp only[h])) <;>try simp only[aK,R,simprocAttr])
 all_goals clear R
 refine ae.loop (r6 l) (fun t=>t.1≤l.length∧fG (eN av) (l.take t.1)=some t.2) (fun t=>l.length-t.1) (0,eN av) ⟨zx1 _,rfl⟩ ?_ ?_
 ·rw[List.append_nil];refine bB.fn ?_ (fun n=>.inr rfl) ?_ (fun n x h=>(lu (kj av) h).1)
  ·simp[cC,cz]
  ·have:=(dL (iG (eN av).all.length) (n:=2000)).2 (.inl (by omega));simp[cO,I.only,cJ,this]
 rintro ⟨i,s⟩ ⟨hi,hrun⟩;simp only at hi hrun;obtain ⟨hk,hme,hln⟩:=mV (kj av) hrun;have hln2:s.all.length≤i:=by simpa[eN,hi] using hln
 have n8:aj (dn s) 8=none:=eH (.inl (by omega)) fun i _=>by simp[bD];omega
 simp only[r6];by_cases hlt:i<l.length
 ·have hc:=gX hlt;have he:=fun A=>fb (A:=A) 4 hlt rfl;have hw:=gK (i:=i) (by omega);have hst:∀ A rest,dp A (some 4) 8 [] (.agg [.int .i64 0,.int .i64 0,.int .i64 0,.int .i64 0]) (enc l[i]) rest (some (.agg [.int .i64 0,.int .i64 0,.int .i64 0,.int .i64 0]))=az rest (A.aV 8 (.box (enc l[i]))):=fun A rest=>dP (ev _) (by rw[fq];rfl) (eQ _);have how:∀ (a b:aq) m,2000≤m→aj [(8,a),(8,b)] m=none:=fun a b m hm=>by simp only[aj];rw[if_neg (by omega),if_neg (by omega)]
  have hsp:l=l.take i++l[i]::l.drop (i+1):=by simp
  cases hn:fh s l[i] with
  |none =>
   have ab:ee s l[i]=(s,false):=by simp[ee,hn]
   have R:=y6 @hc (y6 @he (y6 @hst (y6 @n8 (y6 @bS (y6 @bu (y6 @bp aH))))))
   repeat' ((first |refine ae.aJ (by decide +kernel) rfl fun K hK =>?_|refine aR.rN (ow:=[(8,_),(8,_)]) hk (by omega) rfl (how _ _) ab ?_|(refine .aA [0,1,4,5,6,8,11,12,13,14,20] hK ?_;clear hK K)|(with_reducible refine .done (hK _ ?_);clear hK K)|refine ae.of rfl ?_|(with_reducible refine aC.aI (fun h =>?_) (fun h =>?_) <;>try simp only[h])) <;>try simp only[aK,R,simprocAttr])
   all_goals clear R
   have hno:fk av l=none:=by
    rw[fk,hsp,oh,hrun];simp only[Option.bind_some,fG,hn]
   refine ⟨[],[.nilp,.bool false],fun n x hx=>by simp[aj] at hx,⟨⟨_,rfl,.inl ⟨rfl,rfl,rfl⟩⟩,⟨_,rfl,.inl ⟨rfl,rfl,rfl⟩⟩,trivial⟩,?_⟩;unfold rh;rw[hno];exact ⟨rfl,rfl⟩
  |some s2 =>
   have ab:ee s l[i]=(s2,true):=by simp[ee,hn]
   have R:=y6 @hc (y6 @he (y6 @hst (y6 @hw (y6 @n8 (y6 @bS (y6 @bu (y6 @bp aH)))))))
   repeat' ((first |refine ae.aJ (by decide +kernel) rfl fun K hK =>?_|refine aR.rN (ow:=[(8,_),(8,_)]) hk (by omega) rfl (how _ _) ab ?_|(refine .aA [0,1,4,5,6,8,11,12,13,14,20] hK ?_;clear hK K)|(with_reducible refine .done (hK _ ?_);clear hK K)|refine ae.of rfl ?_|(with_reducible refine aC.aI (fun h =>?_) (fun h =>?_) <;>try simp only[h])) <;>try simp only[aK,R,simprocAttr])
   all_goals clear R
   obtain ⟨hk2,hme2,hln3⟩:=xK hk hn;refine ⟨(i+1,s2),⟨by simp only;omega,?_⟩,by simp only;omega,?_⟩
   ·rw[zz1 hlt,oh,hrun];simp only[Option.bind_some,fG,hn]
   ·refine bB.fn ?_ (fun n =>?_) ?_ (fun n x h=>(lu hk2 h).1)
    ·simp[cC,cz]
    ·simp only[fN];cases aj (dn s2) n with
     |none=>exact .inl rfl
     |some y=>exact .inr rfl
    ·have:=(dL (iG s2.all.length) (n:=2000)).2 (.inl (by omega));simp[cO,I.only,cJ,this]
 ·have hge:i=l.length:=by omega
  have hc:=hP hlt;subst hge;rw[List.take_length] at hrun;have R:=y6 @hc (y6 @bS (y6 @bu (y6 @bp aH)))
  repeat' ((first |refine ae.aJ (by decide +kernel) rfl fun K hK =>?_|(refine .aA [0,1,4,5,6,8,11,12,13,14,20] hK ?_;clear hK K)|(with_reducible refine .done (hK _ ?_);clear hK K)|refine ae.of rfl ?_|(with_reducible refine aC.aI (fun h =>?_) (fun h =>?_) <;>try simp only[h])) <;>try simp only[aK,R,simprocAttr])
  all_goals clear R
  refine ⟨dn s,[.ptr 2000 [],.bool true],fun n x hx=>⟨hx,lu hk hx⟩,⟨⟨_,rfl,.inl ⟨rfl,rfl,?_⟩⟩,⟨_,rfl,.inl ⟨rfl,rfl,rfl⟩⟩,trivial⟩,?_⟩
  ·exact (dL (iG s.all.length) (n:=2000)).2 (.inl (by omega))
  ·unfold rh fk;rw[hrun];exact ⟨rfl,rfl⟩
end Go.Proofs.YthbdbocionnfgaaGreatDoor
namespace Go.Proofs.YthbdbocionnfgaaGreatDoor
open Go Go.Abs Go.ChangeShapes Go.WideShapes Go.RowKit
open Go.Abs.Enc (enc)
theorem Tryz.own:ownKnob Tryz.prog.godebug=none:=by kernel_rfl
theorem Tryz.VJ:laidOutB Tryz.prog=true:=by kernel_rfl
theorem jf:iy Tryz.prog 3 Int:=Xi (by kernel_rfl) (by kernel_rfl)
theorem Wn:iy Tryz.prog 37 bg:=⟨by kernel_rfl,by decide,fun h=>by
 obtain ⟨vs,hv,hr⟩:=CV [(3,0),(3,1),(3,2),(3,3)]
  [(1,fun v=>∃ a:Int,v=enc a),(1,fun v=>∃ a:Int,v=enc a),(1,fun v=>∃ a:Int,v=enc a),(1,fun v=>∃ a:Int,v=enc a)]
  (by kernel_rfl) (by simp only[pD];exact ⟨trivial,jf.aS,trivial,jf.aS,trivial,jf.aS,trivial,jf.aS,trivial⟩) (by kernel_rfl) h
 obtain ⟨v0,vs0,e0,aW,hv0⟩:=lC hv;obtain ⟨a0,kT⟩:∃ a:Int,v0=enc a:=aW;obtain ⟨v1,vs1,e1,J,hv1⟩:=lC hv0;obtain ⟨a1,f1⟩:∃ a:Int,v1=enc a:=J;obtain ⟨v2,vs2,e2,U,hv2⟩:=lC hv1;obtain ⟨a2,f2⟩:∃ a:Int,v2=enc a:=U;obtain ⟨v3,vs3,e3,ah,hv3⟩:=lC hv2;obtain ⟨a3,f3⟩:∃ a:Int,v3=enc a:=ah;have e4:=yh hv3;rw[e0,e1,e2,e3,e4,kT,f1,f2,f3] at hr;exact ⟨⟨a0,a1,a2,a3⟩,hr⟩⟩
theorem Wq:iy Tryz.prog 39 dv:=⟨by kernel_rfl,by decide,fun h=>by
 obtain ⟨vs,hv,hr⟩:=CV [(3,0),(3,1),(3,2),(3,3),(3,4)]
  [(1,fun v=>∃ a:Int,v=enc a),(1,fun v=>∃ a:Int,v=enc a),(1,fun v=>∃ a:Int,v=enc a),(1,fun v=>∃ a:Int,v=enc a),(1,fun v=>∃ a:Int,v=enc a)]
  (by kernel_rfl) (by simp only[pD];exact ⟨trivial,jf.aS,trivial,jf.aS,trivial,jf.aS,trivial,jf.aS,trivial,jf.aS,trivial⟩) (by kernel_rfl) h
 obtain ⟨v0,vs0,e0,aW,hv0⟩:=lC hv;obtain ⟨a0,kT⟩:∃ a:Int,v0=enc a:=aW;obtain ⟨v1,vs1,e1,J,hv1⟩:=lC hv0;obtain ⟨a1,f1⟩:∃ a:Int,v1=enc a:=J;obtain ⟨v2,vs2,e2,U,hv2⟩:=lC hv1;obtain ⟨a2,f2⟩:∃ a:Int,v2=enc a:=U;obtain ⟨v3,vs3,e3,ah,hv3⟩:=lC hv2;obtain ⟨a3,f3⟩:∃ a:Int,v3=enc a:=ah;obtain ⟨v4,vs4,e4,ar,hv4⟩:=lC hv3;obtain ⟨a4,f4⟩:∃ a:Int,v4=enc a:=ar;have e5:=yh hv4;rw[e0,e1,e2,e3,e4,e5,kT,f1,f2,f3,f4] at hr;exact ⟨⟨a0,a1,a2,a3,a4⟩,hr⟩⟩
theorem Wo:iy Tryz.prog 22 (List bg):=Xj (by kernel_rfl) Wn (by kernel_rfl)
theorem Wp:iy Tryz.prog 24 bo:=⟨by kernel_rfl,by decide,fun h=>by
 obtain ⟨a,b,c,hab⟩:=CW (α:=Int) (β:=List bg) (γ:=Int) (u0:=3) (u1:=22) (u2:=3) (by kernel_rfl) jf Wo jf (by kernel_rfl) h;exact ⟨⟨a,b,c⟩,hab⟩⟩
theorem Yh{w:World}{D:aP}{E:aY}{x y z:I}{a b c:Value}(hx:∃ cs,bA x a cs∧al w D E x cs)(hy:∃ cs,bA y b cs∧al w D E y cs)(hz:∃ cs,bA z c cs∧al w D E z cs):aF w D E [x,y,z] [a,b,c]:=by
 obtain ⟨c1,J,U⟩:=hx;obtain ⟨c2,ah,ar⟩:=hy;obtain ⟨c3,h5,h6⟩:=hz;simp only[aF];exact ⟨a,[b,c],c1,rfl,J,U,b,[c],c2,rfl,ah,ar,c,[],c3,rfl,h5,h6,rfl⟩
def pj : List (String × DataW Unit) := [("math/bits.deBruijn32tab", Rows.laid_math_bits_deBruijn32tab), ("math/bits.deBruijn64tab", Rows.laid_math_bits_deBruijn64tab), ("internal/strconv.uint64pow10", Rows.laid_internal_strconv_uint64pow10)]
def FE:List Int:=[1,10,100,1000,10000,100000,1000000,10000000,100000000,1000000000,10000000000,100000000000,1000000000000,10000000000000,100000000000000,1000000000000000,10000000000000000,100000000000000000,1000000000000000000,10000000000000000000]
theorem Ul : Tryz.prog.globalNamed "internal/strconv.uint64pow10" = some 3 := by kernel_rfl
theorem YH:(Tryz.prog.globals[3]?).map (·.type)=some 209:=by kernel_rfl
theorem W9{W:World}(h:laidMetH Tryz.prog pj W):gL Tryz.prog W (fun _=>False):=by
 rw[MakeChecks.laidMetH_plain _ _ _ (by kernel_rfl)] at h;obtain ⟨g', t', cs, fuel, p, hg', ht', hvar, af⟩ := Lib.laidMet.reads h (n := "internal/strconv.uint64pow10") (d := Rows.laid_internal_strconv_uint64pow10) (by simp [pj])
 obtain rfl:=Option.some.inj (Ul.symm.trans hg');obtain rfl:=Option.some.inj (YH.symm.trans ht');have hd':DataW.trod (fun _=>()) Tryz.prog W 0 (fun _=>true) false fuel 209 cs.toList=some (Lib.tabData .u64 FE,p):=af;have hc:=Lib.cells_of_tab (n:=20) (e:=171) (Vl (by kernel_rfl)) (by kernel_rfl) (by kernel_rfl) (by kernel_rfl) hd';intro g hg;refine ⟨id,?_⟩
 show W.var? Tryz.prog "internal/strconv.uint64pow10" = _
 rw[hvar];have:cs=(FE.map fun z=>Value.int .u64 z).toArray:=by rw[←hc]
 rw[this];rfl
end Go.Proofs.YthbdbocionnfgaaGreatDoor
namespace Go.Proofs.YthbdbocionnfgaaGreatDoor
open Go Go.Abs
open Go.Abs.Enc (enc)
theorem aR.Et{K:ai→Prop}{av:Int}{l:List bg}{avs:List I}{a1 a2:Option (List I)}{dst:Option Nat}{rest:List aE}{ts:List (Nat×I)}{os0:List (Nat×aq)}(ao:l.length≤200)(hav:avs=[enc av,enc l])(hno:∀ m,2000≤m→m<1000000→aj os0 m=none)
  (J:fk av l=none→aR Tryz.prog dj false K (az rest ((au ts os0).aT dst (.tuple [.nilp,.bool false]))))
  (U:∀ s,fk av l=some s→aR Tryz.prog dj false K (az rest ((au ts (dn s++os0)).aT dst (.tuple [.ptr 2000 [],.bool true])))):aR Tryz.prog dj false K (.call 62 avs a1 a2 dst rest (au ts os0)):=by
 subst hav;refine .bP false [] [] [enc av,enc l] _ rfl (Gd av l ao) ⟨fun m x hx=>by simp[aj] at hx,fun m m' hm=>by simp[aw,aj] at hm⟩ ⟨.inl ⟨(kR _ _).symm,cJ _ _,ev _⟩,.inl ⟨(kR _ _).symm,cJ _ _,ev _⟩,trivial⟩ ?_ ?_
 ·intro r os' hp;unfold rh at hp;cases hr:fk av l with
  |none =>
   rw[hr] at hp;obtain ⟨rfl,rfl⟩:=hp;exact ⟨fun m y hy=>by simp[aj] at hy,fun m m' hm=>by simp[aw,aj] at hm,fun m hm=>hm,fun m hm=>by simp[aw,aj] at hm,rfl,fun h=>by cases h⟩
  |some s =>
   rw[hr] at hp;obtain ⟨rfl,rfl⟩:=hp;obtain ⟨hk,hme,hln⟩:=mV (kj av) hr;have hln2:s.all.length≤200:=by have:(Go.Proofs.YthbdbocionnfgaaGreatDoor.eN av).all.length=0:=rfl;omega
   refine ⟨fun m y hy=>⟨(lu hk hy).1,(lu hk hy).2,fun h=>by cases h⟩,fun m m' _ _ h=>h,fun m hm=>by simp[aw,aj] at hm,fun m hm _ =>?_,?_,fun h=>by cases h⟩
   ·have:=xF hm;exact ⟨hno m (by omega) (by omega),by simp only[bI];omega⟩
   ·have:=(dL (iG s.all.length) (n:=2000)).2 (.inl (by omega));simp[I.only,I.ct,this]
 ·intro r os' hp;unfold rh at hp;cases hr:fk av l with
  |none =>
   rw[hr] at hp;obtain ⟨rfl,rfl⟩:=hp;exact J hr
  |some s =>
   rw[hr] at hp;obtain ⟨rfl,rfl⟩:=hp;rw[l4];exact U s hr
theorem aR.Eu{K:ai→Prop}{av:Int}{l:List bg}{avs:List I}{a1 a2:Option (List I)}{dst:Option Nat}{rest:List aE}{ts:List (Nat×I)}{os0:List (Nat×aq)}(ao:l.length≤200)(hr:fk av l=none)(hav:avs=[enc av,enc l])(hno:∀ m,2000≤m→m<1000000→aj os0 m=none)
  (J:aR Tryz.prog dj false K (az rest ((au ts os0).aT dst (.tuple [.nilp,.bool false])))):aR Tryz.prog dj false K (.call 62 avs a1 a2 dst rest (au ts os0)) :=
 aR.Et ao hav hno (fun _=>J) fun s h=>by rw[hr] at h;cases h
theorem aR.Ev{K:ai→Prop}{av:Int}{l:List bg}{s:aB}{avs:List I}{a1 a2:Option (List I)}{dst:Option Nat}{rest:List aE}{ts:List (Nat×I)}{os0:List (Nat×aq)}(ao:l.length≤200)(hr:fk av l=some s)(hav:avs=[enc av,enc l])(hno:∀ m,2000≤m→m<1000000→aj os0 m=none)
  (J:aR Tryz.prog dj false K (az rest ((au ts (dn s++os0)).aT dst (.tuple [.ptr 2000 [],.bool true])))):aR Tryz.prog dj false K (.call 62 avs a1 a2 dst rest (au ts os0)) :=
 aR.Et ao hav hno (fun h=>by rw[hr] at h;cases h) fun s' h=>by rw[hr] at h;cases h;exact J
theorem tf(k:Nat)(hk:k<2000)(z:aq):∀ m,2000≤m→m<1000000→aj [(k,z)] m=none:=fun m h _=>by simp only[aj];rw[if_neg (by omega)]
theorem bq:(∀ aN A,bh aN A .nilp=some .nilp)∧(∀ aN A (x:I),x.bw=true→bh aN A (.ref x)=some (.ref x)):=⟨fun _ _=>by simp only[bh],fun _ _ x h=>by simp only[bh,h,if_true]⟩
def ij(p:bo):Bool:=cG 0 5 p.av&&(decide (p.j.length≤200)&&cG 0 p.j.length p.cq)
def cS(p:bo):Option aB:=if ij p then fk p.av p.j else none
def iM(o:Option aB):I:=match o with
 |some s=>.tuple [dD s,.int .i64 0]
 |none=>.tuple [.nilp,.int .i64 91]
def mP(p:bo):cF:=fun r os'=>match cS p with
 |some s=>r=.tuple [.ptr 2000 [],.int .i64 0]∧os'=dn s
 |none=>r=.tuple [.nilp,.int .i64 91]∧os'=[]
theorem gf{p:bo}{s:aB}(h:cS p=some s):cu s∧s.av=p.av∧s.all.length≤p.j.length∧p.j.length≤200∧ij p=true∧fk p.av p.j=some s:=by
 simp only[cS] at h;split at h
 ·rename_i bC;obtain ⟨hk,hme,hln⟩:=mV (kj p.av) h;refine ⟨hk,hme,by simpa[eN] using hln,?_,bC,h⟩;simp only[ij,t8,decide_eq_true_eq] at bC;exact bC.2.1
 ·cases h
theorem MH{s:aB}(hk:cu s)(z:aq):∀ ts,cY (au ts (dn s++[(1,z)])) 9 (.agg [.int .i64 s.av,.mref 2001,.mref 2002,.int .i64 s.all.length,.mref 2003,.mref 2004])=some (fV s):=fun ts =>
 gQ (gS (iG _) hk.cv fun n hn=>by
  rw[fN];cases h:aj (dn s) n with
  |none=>simp[aw,h] at hn
  |some y=>rfl) 4
theorem wF:∀ a b c d e:I,(I.agg [a,.mref 2001,b,c,d,e]).bw=false:=fun a b c d e=>by simp[I.bw,I.cg]
theorem Cj(s:aB)(z:aq):aj (dn s++[(1,z)]) 2000=some (.box (.agg [.int .i64 s.av,.mref 2001,.mref 2002,.int .i64 s.all.length,.mref 2003,.mref 2004])):=by
 rw[fN,fA];rfl
theorem Ck(s:aB)(z:aq):aj (dn s++[(1,z)]) 1=some z:=by
 rw[fN,eH (.inl (by omega)) fun i _=>by simp only[bD];omega];rfl
theorem C5{p:bo}(h:I.gl [enc p]):p.j.length≤maxLen :=
 ((nj p.j).1 (by have:=h.1;simp only[enc,I.wf,I.gl] at this;exact this.2.1)).1
theorem nl(p:bo):bf Tryz.prog 69 [enc p] (iM (cS p)):=by
 refine bf.b9 Tryz.func69 zU Aj Ar (u8 rfl) (fun hwf W0 bH E1 =>?_);simp only[uW,xa,bN];have hlen:=C5 hwf;clear hwf;have hg:decide ((p.j.length:Int)>200) = !decide (p.j.length≤200):=by by_cases h:p.j.length≤200 <;>simp[h] <;>omega
 have hF1:=ml p.av;have hF2:=oE p.cq 0 p.j.length;rcases q1:cG 0 5 p.av <;>rcases q2:decide (p.j.length≤200) <;>rcases q3:cG 0 p.j.length p.cq
 case true.true.true =>
  have hok:ij p=true:=by simp[ij,q1,q2,q3]
  have ao:p.j.length≤200:=of_decide_eq_true q2;have hop:cS p=fk p.av p.j:=by simp[cS,hok]
  rw[q1] at hF1;rw[q3] at hF2;rw[q2] at hg;rw[hop];cases hr:fk p.av p.j with
  |none =>
   have R:=y6 @hg (y6 @bq (y6 @eL (y6 @bS (y6 @bu (y6 @bp aH)))))
   repeat' ((first |(with_reducible refine .guard (fun hb =>?_) (fun hb =>?_) <;>try simp only[hb])|refine ae.aJ (by decide +kernel) rfl fun K hK =>?_|refine .flat _ (hF1) rfl ?_|refine .flat _ (hF2) rfl ?_|refine aR.Eu ao hr rfl (tf 1 (by decide) _) ?_|(refine .aA [0,1,2,3,4,5,24,34] hK ?_;clear hK K)|(with_reducible refine .done (hK _ ?_);clear hK K)|refine ae.of rfl ?_|(with_reducible refine aC.aI (fun h =>?_) (fun h =>?_) <;>try simp only[h])) <;>try simp only[aK,R,simprocAttr])
   all_goals clear R
   rfl
  |some s =>
   have hfin:=MH (mV (kj p.av) hr).1 (.box (enc p));have hla:=Cj s (.box (enc p));have hlb:=Ck s (.box (enc p));have R:=y6 @hg (y6 @hfin (y6 @hla (y6 @hlb (y6 @wF (y6 @bq (y6 @eL (y6 @bS (y6 @bu (y6 @bp aH)))))))))
   repeat' ((first |(with_reducible refine .guard (fun hb =>?_) (fun hb =>?_) <;>try simp only[hb])|refine ae.aJ (by decide +kernel) rfl fun K hK =>?_|refine .flat _ (hF1) rfl ?_|refine .flat _ (hF2) rfl ?_|refine aR.Ev ao hr rfl (tf 1 (by decide) _) ?_|(refine .aA [0,1,2,3,4,5,24,34] hK ?_;clear hK K)|(with_reducible refine .done (hK _ ?_);clear hK K)|refine ae.of rfl ?_|(with_reducible refine aC.aI (fun h =>?_) (fun h =>?_) <;>try simp only[h])) <;>try simp only[aK,R,simprocAttr])
   all_goals clear R
   rfl
 all_goals
  have hop:cS p=none:=by simp[cS,ij,q1,q2,q3]
  rw[q1] at hF1;rw[q3] at hF2;rw[q2] at hg;rw[hop];have R:=y6 @hg (y6 @bq (y6 @eL (y6 @bS (y6 @bu (y6 @bp aH)))))
  repeat' ((first |(with_reducible refine .guard (fun hb =>?_) (fun hb =>?_) <;>try simp only[hb])|refine ae.aJ (by decide +kernel) rfl fun K hK =>?_|refine .flat _ (hF1) rfl ?_|refine .flat _ (hF2) rfl ?_|(refine .aA [0,1,2,3,4,5,24,34] hK ?_;clear hK K)|(with_reducible refine .done (hK _ ?_);clear hK K)|refine ae.of rfl ?_|(with_reducible refine aC.aI (fun h =>?_) (fun h =>?_) <;>try simp only[h])) <;>try simp only[aK,R,simprocAttr])
  all_goals clear R
  rfl
theorem x1(p:bo):cU Tryz.prog 69 [enc p] [] (mP p):=by
 refine cU.b9 Tryz.func69 zU Aj Ar (u8 rfl) (u8 rfl) (fun m hm=>by simp[aw,aj] at hm) (fun hwf W0 bH E1 =>?_);simp only[uW,xa,bN];have hlen:=C5 hwf;clear hwf;have hg:decide ((p.j.length:Int)>200) = !decide (p.j.length≤200):=by by_cases h:p.j.length≤200 <;>simp[h] <;>omega
 have hF1:=ml p.av;have hF2:=oE p.cq 0 p.j.length;have fail:∀ ts os,cS p=none→Abs.bW ts 2=.nilp→Abs.bW ts 3=.int .i64 91→iW [.tmp 2,.tmp 3] (mP p) (au ts os):=fun ts os hop U ah=>by
  refine ⟨[],[.nilp,.int .i64 91],fun n x hx=>by simp[aj] at hx,⟨⟨.nilp,congrArg some U,.inl ⟨rfl,rfl,rfl⟩⟩,⟨.int .i64 91,congrArg some ah,.inl ⟨rfl,rfl,rfl⟩⟩,trivial⟩,?_⟩;unfold mP;rw[hop];exact ⟨rfl,rfl⟩
 rcases q1:cG 0 5 p.av <;>rcases q2:decide (p.j.length≤200) <;>rcases q3:cG 0 p.j.length p.cq
 case true.true.true =>
  have hok:ij p=true:=by simp[ij,q1,q2,q3]
  have ao:p.j.length≤200:=of_decide_eq_true q2;have hop:cS p=fk p.av p.j:=by simp[cS,hok]
  rw[q1] at hF1;rw[q3] at hF2;rw[q2] at hg;cases hr:fk p.av p.j with
  |none =>
   rw[hr] at hop;have R:=y6 @hg (y6 @bq (y6 @eL (y6 @bS (y6 @bu (y6 @bp aH)))))
   repeat' ((first |(with_reducible refine .guard (fun hb =>?_) (fun hb =>?_) <;>try simp only[hb])|refine ae.aJ (by decide +kernel) rfl fun K hK =>?_|refine .flat _ (hF1) rfl ?_|refine .flat _ (hF2) rfl ?_|refine aR.Eu ao hr rfl (tf 1 (by decide) _) ?_|(refine .aA [0,1,2,3,4,5,24,34] hK ?_;clear hK K)|(with_reducible refine .done (hK _ ?_);clear hK K)|refine ae.of rfl ?_|(with_reducible refine aC.aI (fun h =>?_) (fun h =>?_) <;>try simp only[h])) <;>try simp only[aK,R,simprocAttr])
   all_goals clear R
   exact fail _ _ hop rfl rfl
  |some s =>
   have hk:=(mV (kj p.av) hr).1;rw[hr] at hop;have hla:=Cj s (.box (enc p));have hlb:=Ck s (.box (enc p));have R:=y6 @hg (y6 @hla (y6 @hlb (y6 @wF (y6 @bq (y6 @eL (y6 @bS (y6 @bu (y6 @bp aH))))))))
   repeat' ((first |(with_reducible refine .guard (fun hb =>?_) (fun hb =>?_) <;>try simp only[hb])|refine ae.aJ (by decide +kernel) rfl fun K hK =>?_|refine .flat _ (hF1) rfl ?_|refine .flat _ (hF2) rfl ?_|refine aR.Ev ao hr rfl (tf 1 (by decide) _) ?_|(refine .aA [0,1,2,3,4,5,24,34] hK ?_;clear hK K)|(with_reducible refine .done (hK _ ?_);clear hK K)|refine ae.of rfl ?_|(with_reducible refine aC.aI (fun h =>?_) (fun h =>?_) <;>try simp only[h])) <;>try simp only[aK,R,simprocAttr])
   all_goals clear R
   refine ⟨dn s,[.ptr 2000 [],.int .i64 0],fun n x hx=>⟨?_,lu hk hx⟩,⟨⟨_,rfl,.inl ⟨rfl,rfl,?_⟩⟩,⟨_,rfl,.inl ⟨rfl,rfl,rfl⟩⟩,trivial⟩,?_⟩
   ·show aj (dn s++_) n=some x
    rw[fN,hx]
   ·exact (dL (iG s.all.length) (n:=2000)).2 (.inl (by omega))
   ·unfold mP;rw[hop];exact ⟨rfl,rfl⟩
 all_goals
  have hop:cS p=none:=by simp[cS,ij,q1,q2,q3]
  rw[q1] at hF1;rw[q3] at hF2;rw[q2] at hg;have R:=y6 @hg (y6 @bq (y6 @eL (y6 @bS (y6 @bu (y6 @bp aH)))))
  repeat' ((first |(with_reducible refine .guard (fun hb =>?_) (fun hb =>?_) <;>try simp only[hb])|refine ae.aJ (by decide +kernel) rfl fun K hK =>?_|refine .flat _ (hF1) rfl ?_|refine .flat _ (hF2) rfl ?_|(refine .aA [0,1,2,3,4,5,24,34] hK ?_;clear hK K)|(with_reducible refine .done (hK _ ?_);clear hK K)|refine ae.of rfl ?_|(with_reducible refine aC.aI (fun h =>?_) (fun h =>?_) <;>try simp only[h])) <;>try simp only[aK,R,simprocAttr])
  all_goals clear R
  exact fail _ _ hop rfl rfl
def my(p:bo):Int:=match cS p with
 |some _=>0
 |none=>91
theorem oF(p:bo):bf Tryz.prog 23 [enc p] (enc (my p)):=by
 refine bf.b9 Tryz.func23 Ik Jk Kv (u8 rfl) (fun hwf W0 bH E1 =>?_);simp only[yW,DK,bN];have hF:=nl p;simp only[my];cases ho:cS p with
 |none =>
  rw[ho] at hF;simp only[iM] at hF;have R:=y6 @bq (y6 @eL (y6 @bS (y6 @bu (y6 @bp aH))))
  repeat' ((first |refine ae.aJ (by decide +kernel) rfl fun K hK =>?_|refine .lead _ (hF) ?_|(refine .aA [0,1,2,4] hK ?_;clear hK K)|(with_reducible refine .done (hK _ ?_);clear hK K)|refine ae.of rfl ?_|(with_reducible refine aC.aI (fun h =>?_) (fun h =>?_) <;>try simp only[h])) <;>try simp only[aK,R,simprocAttr])
  all_goals clear R
  all_goals rfl
 |some s =>
  rw[ho] at hF;simp only[iM] at hF;have R:=y6 @ea (y6 @bq (y6 @eL (y6 @bS (y6 @bu (y6 @bp aH)))))
  repeat' ((first |refine ae.aJ (by decide +kernel) rfl fun K hK =>?_|refine .lead _ (hF) ?_|(refine .aA [0,1,2,4] hK ?_;clear hK K)|(with_reducible refine .done (hK _ ?_);clear hK K)|refine ae.of rfl ?_|(with_reducible refine aC.aI (fun h =>?_) (fun h =>?_) <;>try simp only[h])) <;>try simp only[aK,R,simprocAttr])
  all_goals clear R
  all_goals rfl
def hU:bg:=⟨0,0,0,0⟩
theorem qf:I.agg [.int .i64 0,.int .i64 0,.int .i64 0,.int .i64 0]=enc hU:=rfl
def tL(k:Nat)(l:List bg)(m:Nat):List (Nat×aq):=[(k,.box (.agg ((l++List.replicate m hU).map enc)))]
def qb(l:List bg)(v:I)(os':List (Nat×aq)):Prop:=(l=[]∧(v=.nils 4∨v=.c0 4)∧os'=[])∨(l≠[]∧∃ m,v=.view 7 [] 4 0 l.length∧os'=tL 7 l m)
def Xs(l:List bg):cF:=fun r os'=>qb l r os'
theorem Gc(l:List bg)(ao:l.length≤1000):cU Tryz.prog 59 [enc l] [] (Xs l):=by
 refine cU.b9 Tryz.func59 zS Ah Ap (u8 rfl) (u8 rfl) (fun m hm=>by simp[aw,aj] at hm) (fun hwf W0 bH E1 =>?_);simp only[uU,w8,bN];refine .gq (by decide +kernel) fun K hK =>?_;simp only[vP,bG,simprocAttr];refine .done (hK _ ?_);clear hK K;refine ae.seq (ae.seq ?_);by_cases hn:l=[]
 ·subst hn;refine .j0 (by decide +kernel) fun K hK =>?_;simp only[qu,bG,simprocAttr];simp only[ub,List.isEmpty_nil,pz];refine .any rfl fun b _ =>?_
  try simp only[bG,simprocAttr]
  generalize (b==0)=t;cases t
  ·refine .done (hK _ ?_);clear hK K;try simp only[ef]
   refine ae.js ?_;simp only[aC,bG,simprocAttr];refine ⟨fun h =>?_,fun h =>?_⟩
   ·cases h
   refine ae.skip ?_;try simp only[ef,simprocAttr]
   refine .gq (by decide +kernel) fun K hK =>?_;simp only[qv,bG,simprocAttr]
   try simp only[ky,qf,bG,simprocAttr]
   refine .done (hK _ ?_);clear hK K;refine ae.ret ?_;simp only[oc];exact ⟨[],[.c0 4],BR,⟨⟨.c0 4,rfl,.inl ⟨rfl,rfl,rfl⟩⟩,trivial⟩,.inl ⟨rfl,.inr rfl,rfl⟩⟩
  ·refine .done (hK _ ?_);clear hK K;refine ae.js ?_;simp only[aC,bG,simprocAttr];refine ⟨fun h =>?_,fun h =>?_⟩
   ·refine .gq (by decide +kernel) fun K hK =>?_;simp only[vQ,bG,simprocAttr];refine .done (hK _ ?_);clear hK K;refine ae.ret ?_;simp only[ef,oc];exact ⟨[],[.nils 4],BR,⟨⟨.nils 4,rfl,.inl ⟨rfl,rfl,rfl⟩⟩,trivial⟩,.inl ⟨rfl,.inl rfl,rfl⟩⟩
   ·cases h
 ·have hu:jF (enc l)=false:=by rw[ub];simpa using hn
  refine .j0 (by decide +kernel) fun K hK =>?_;simp only[qu,bG,simprocAttr]
  try simp only[hu,CF _ l hn,bG,simprocAttr]
  refine .done (hK _ ?_);clear hK K;try simp only[ef]
  refine ae.js ?_;simp only[aC,bG,simprocAttr];refine ⟨fun h =>?_,fun h =>?_⟩
  ·cases h
  refine ae.skip ?_;try simp only[ef,simprocAttr]
  refine .gq (by decide +kernel) fun K hK =>?_;simp only[qv,bG,simprocAttr]
  try simp only[ky,qf,bG,simprocAttr]
  refine aR.uB hU rfl hn rfl (by omega) (by simp only[maxLen];omega) fun m =>?_
  try simp only[bG,simprocAttr]
  refine .done (hK _ ?_);clear hK K;refine ae.ret ?_;simp only[oc];exact ⟨tL 7 l m,[.view 7 [] 4 0 l.length],Vh rfl (fun p=>by simp only[I.only];exact ik p _),⟨⟨_,rfl,.inl ⟨rfl,rfl,rfl⟩⟩,trivial⟩,.inr ⟨hn,m,rfl,rfl⟩⟩
theorem oQ{l:List bg}{v:I}{os':List (Nat×aq)}(h:qb l v os'):(∀ n x,aj os' n=some x→x.only (aw os')=true∧x.eh=true)∧v.only (aw os')=true∧(∀ m,aw os' m=true→m=7)∧v.bU=true∧b7 none v=true∧v.aX=.one∧v.size=1∧v.isAgg=false:=by
 rcases h with ⟨rfl,rfl | rfl,rfl⟩ | ⟨hn,m,rfl,rfl⟩
 ·exact ⟨fun n x hx=>by simp[aj] at hx,rfl,fun m hm=>by simp[aw,aj] at hm,rfl,rfl,rfl,rfl,rfl⟩
 ·exact ⟨fun n x hx=>by simp[aj] at hx,rfl,fun m hm=>by simp[aw,aj] at hm,rfl,rfl,rfl,rfl,rfl⟩
 ·refine ⟨fun n x hx =>?_,rfl,fun m hm =>?_,rfl,rfl,rfl,rfl,rfl⟩
  ·simp only[tL,aj] at hx;split at hx
   ·cases hx;exact ⟨by simp only[aq.only,I.only];exact ik _ _,rfl⟩
   ·cases hx
  ·simp only[aw,tL,aj] at hm;split at hm
   ·assumption
   ·simp at hm
theorem Fo{ts:List (Nat×I)}{os0 os':List (Nat×aq)}(hno:aj os0 7=none)(h:∀ m,aw os' m=true→m=7):au ts (os'++os0)=au ts (os0++os'):=by
 simp only[au,ai.mk.injEq,true_and]
 funext n
 rw[fN,fN];cases J:aj os' n with
 |none=>simp only;cases aj os0 n <;>rfl
 |some y =>
  have:=h n (by simp[aw,J]);subst this;rw[hno]
theorem aR.JT{K:ai→Prop}{l:List bg}{avs:List I}{a1 a2:Option (List I)}{dst:Option Nat}{rest:List aE}{ts:List (Nat×I)}{os0:List (Nat×aq)}(ao:l.length≤1000)(hav:a1=some [enc l])(hf:b6 false (au ts os0) avs=some [enc l])(hno:aj os0 7=none)
  (h:∀ v os',qb l v os'→aR Tryz.prog dj false K (az rest ((au ts (os0++os')).aT dst v))):aR Tryz.prog dj false K (.call 59 avs a1 a2 dst rest (au ts os0)):=by
 have harg:gN false (au ts os0) [] [] avs [enc l]:=by
  match avs,hf with
  | [],hf=>simp[b6] at hf
  | [x],hf =>
   refine ⟨.inr ?_,trivial⟩;simp only[b6] at hf;split at hf
   ·rename_i y ys J U;cases U;cases hf;exact J
   ·cases hf
  |x::y::r,hf =>
   simp only[b6] at hf;split at hf
   ·rename_i J U;split at U <;>cases U;cases hf
   ·cases hf
 refine .bP false [] [] [enc l] _ rfl (Gc l ao) ⟨fun m x hx=>by simp[aj] at hx,fun m m' hm=>by simp[aw,aj] at hm⟩ (by simpa[iK,Ax] using harg) ?_ ?_
 ·intro r os' hp;obtain ⟨J,U,ah,_⟩:=oQ hp;exact ⟨fun m y hy=>⟨(J m y hy).1,(J m y hy).2,fun h=>by cases h⟩,fun m m' _ _ h=>h,fun m hm=>by simp[aw,aj] at hm,fun m hm _=>by rw[ah m hm];exact ⟨hno,by decide⟩,U,fun h=>by cases h⟩
 ·intro r os' hp;rw[l4,km (ρ:=bI []) (fun _=>rfl),Fo hno (oQ hp).2.2.1];exact h r os' hp
def e9(p:bo)(v:I):I:=.agg [.int .i64 p.av,v,.int .i64 p.cq]
def Xt(p:bo):cF:=fun r os'=>∃ v,r=e9 p v∧qb p.j v os'
theorem kM:(∀ p v,(e9 p v).dJ=some [.int .i64 p.av,v,.int .i64 p.cq])∧(∀ p v,(e9 p v).bU=true)∧(∀ (a c:Int) v w,dm [.int .i64 a,v,.int .i64 c] 1 1 w=some w)∧(∀ (a c:Int) v w,dm [.int .i64 a,v,.int .i64 c] 0 0 w=some w) :=
 ⟨fun _ _=>rfl,fun _ _=>rfl,fun _ _ _ _=>jV (by simp) rfl,fun _ _ _ _=>jV (by simp) rfl⟩
theorem Gb(p:bo)(ao:p.j.length≤1000):cU Tryz.prog 57 [enc p] [] (Xt p):=by
 refine cU.b9 Tryz.func57 zR Ag Ao (u8 rfl) (u8 rfl) (fun m hm=>by simp[aw,aj] at hm) (fun hwf W0 bH E1 =>?_);simp only[uT,w7,bN];clear hwf;have hfe:∀ A,b6 false A [enc p.j]=some [enc p.j]:=fun A=>by simp only[b6,lI]
 have R:=y6 @eL (y6 @bS (y6 @bu (y6 @bp aH)))
 repeat' ((first |refine ae.aJ (by decide +kernel) rfl fun K hK =>?_|refine aR.JT ao rfl (hfe _) rfl (fun v os' hc =>?_)|(refine .aA [0,1,2] hK ?_;clear hK K)|(with_reducible refine .done (hK _ ?_);clear hK K)|refine ae.of rfl ?_|(with_reducible refine aC.aI (fun h =>?_) (fun h =>?_) <;>try simp only[h])) <;>try simp only[aK,R,Z9,simprocAttr])
 all_goals clear R
 obtain ⟨g1,g2,g3,g4,g5,g6,g7,g8⟩:=oQ hc;have hst:∀ A rest,dp A none 1 [1] (enc p) v rest (some (enc p.j))=az rest (A.aV 1 (.box (e9 p v))):=fun A rest=>dP g4 g5 (g6.trans rfl);have hok:b7 (some 3) (e9 p v)=true:=by simp[b7,e9,I.isAgg,I.size,I.sizes,g7]
 have hsh:(e9 p v).aX=.eG [.one,.one,.one]:=by simp[e9,I.aX,I.cX,g6]
 have hst2:∀ A rest,dp A (some 3) 2 [] (.agg [.int .i64 0,.nils 4,.int .i64 0]) (e9 p v) rest (some (.agg [.int .i64 0,.nils 4,.int .i64 0]))=az rest (A.aV 2 (.box (e9 p v))):=fun A rest=>dP rfl hok hsh
 try simp only[hst,bG,simprocAttr]
 have R:=y6 @hst (y6 @hok (y6 @hst2 (y6 @kM (y6 @eL (y6 @bS (y6 @bu (y6 @bp aH)))))))
 repeat' ((first |refine ae.aJ (by decide +kernel) rfl fun K hK =>?_|(refine .aA [0,1,2] hK ?_;clear hK K)|(with_reducible refine .done (hK _ ?_);clear hK K)|refine ae.of rfl ?_|(with_reducible refine aC.aI (fun h =>?_) (fun h =>?_) <;>try simp only[h])) <;>try simp only[aK,R,simprocAttr])
 all_goals clear R
 refine ⟨os',[e9 p v],fun n x hx=>⟨?_,g1 n x hx⟩,⟨⟨e9 p v,?_,.inl ⟨rfl,rfl,?_⟩⟩,trivial⟩,v,rfl,hc⟩
 ·have:=g3 n (by simp[aw,hx]);subst this;simp only[au,aj,Nat.reduceEqDiff,if_false];exact hx
 ·simp[rj,cK,au,Abs.bW,aj,I.at,hok]
 ·simp[e9,I.only,I.ct,g2]
theorem xY(l:List bg)(ao:l.length≤1000):bf Tryz.prog 59 [enc l] (enc l):=by
 refine bf.b9 Tryz.func59 zS Ah Ap (u8 rfl) (fun hwf W0 bH E1 =>?_);simp only[uU,w8,bN];refine .gq (by decide +kernel) fun K hK =>?_;simp only[vP,bG,simprocAttr];refine .done (hK _ ?_);clear hK K;refine ae.seq (ae.seq ?_);by_cases hn:l=[]
 ·subst hn;refine .j0 (by decide +kernel) fun K hK =>?_;simp only[qu,bG,simprocAttr];simp only[ub,List.isEmpty_nil,pz];refine .any rfl fun b _ =>?_
  try simp only[bG,simprocAttr]
  generalize (b==0)=t;cases t
  ·refine .done (hK _ ?_);clear hK K;try simp only[ef]
   refine ae.js ?_;simp only[aC,bG,simprocAttr];refine ⟨fun h =>?_,fun h =>?_⟩
   ·cases h
   refine ae.skip ?_;try simp only[ef,simprocAttr]
   refine .gq (by decide +kernel) fun K hK =>?_;simp only[qv,bG,simprocAttr]
   try simp only[ky,qf,bG,simprocAttr]
   refine .done (hK _ ?_);clear hK K;refine ae.ret ?_;simp only[bG,simprocAttr];rfl
  ·refine .done (hK _ ?_);clear hK K;refine ae.js ?_;simp only[aC,bG,simprocAttr];refine ⟨fun h =>?_,fun h =>?_⟩
   ·refine .gq (by decide +kernel) fun K hK =>?_;simp only[vQ,bG,simprocAttr];refine .done (hK _ ?_);clear hK K;refine ae.ret ?_;simp only[ef,bG,simprocAttr];rfl
   ·cases h
 ·have hu:jF (enc l)=false:=by rw[ub];simpa using hn
  refine .j0 (by decide +kernel) fun K hK =>?_;simp only[qu,bG,simprocAttr]
  try simp only[hu,CF _ l hn,bG,simprocAttr]
  refine .done (hK _ ?_);clear hK K;try simp only[ef]
  refine ae.js ?_;simp only[aC,bG,simprocAttr];refine ⟨fun h =>?_,fun h =>?_⟩
  ·cases h
  refine ae.skip ?_;try simp only[ef,simprocAttr]
  refine .gq (by decide +kernel) fun K hK =>?_;simp only[qv,bG,simprocAttr]
  try simp only[ky,qf,bG,simprocAttr]
  refine aR.uB hU rfl hn rfl (by omega) (by simp only[maxLen];omega) fun m =>?_
  try simp only[bG,simprocAttr]
  refine .done (hK _ ?_);clear hK K;refine ae.ret ?_;simp only[bG,simprocAttr]
  try simp only[vD (α:=bg) (sz:=4) rfl,List.take_left,bG,simprocAttr]
theorem xX(p:bo)(ao:p.j.length≤1000):bf Tryz.prog 57 [enc p] (enc p):=by
 refine bf.b9 Tryz.func57 zR Ag Ao (u8 rfl) (fun hwf W0 bH E1 =>?_);simp only[uT,w7,bN];clear hwf;have hst:∀ A rest,dp A none 1 [1] (enc p) (enc p.j) rest (some (enc p.j))=az rest (A.aV 1 (.box (enc p))):=fun A rest=>dP (ev _) (by simp[kQ,kP]) rfl;have hst2:∀ A rest,dp A (some 3) 2 [] (.agg [.int .i64 0,.nils 4,.int .i64 0]) (enc p) rest (some (.agg [.int .i64 0,.nils 4,.int .i64 0]))=az rest (A.aV 2 (.box (enc p))):=fun A rest=>dP (ev _) (by rw[fq];rfl) (eQ _);have R:=y6 @hst (y6 @hst2 (y6 @eL (y6 @bS (y6 @bu (y6 @bp aH)))))
 repeat' ((first |refine ae.aJ (by decide +kernel) rfl fun K hK =>?_|refine .lead _ (xY p.j ao) ?_|(refine .aA [0,1,2] hK ?_;clear hK K)|(with_reducible refine .done (hK _ ?_);clear hK K)|refine ae.of rfl ?_|(with_reducible refine aC.aI (fun h =>?_) (fun h =>?_) <;>try simp only[h])) <;>try simp only[aK,R,simprocAttr])
 all_goals clear R
def fJ(p:bo)(x:bg):bo×Int:=if p.j.length=200 then (⟨0,[],0⟩,2) else (⟨p.av,p.j++[x],p.cq⟩,0)
theorem aR.J3{K:ai→Prop}{p:bo}{avs:List I}{a1 a2:Option (List I)}{dst:Option Nat}{rest:List aE}{ts:List (Nat×I)}{os0:List (Nat×aq)}(ao:p.j.length≤1000)(hav:avs=[enc p])(hno:aj os0 7=none)
  (h:∀ v os',qb p.j v os'→aR Tryz.prog dj false K (az rest ((au ts (os0++os')).aT dst (e9 p v)))):aR Tryz.prog dj false K (.call 57 avs a1 a2 dst rest (au ts os0)):=by
 subst hav;refine .bP false [] [] [enc p] _ rfl (Gb p ao) ⟨fun m x hx=>by simp[aj] at hx,fun m m' hm=>by simp[aw,aj] at hm⟩ ⟨.inl ⟨(kR _ _).symm,cJ _ _,ev _⟩,trivial⟩ ?_ ?_
 ·rintro r os' ⟨v,rfl,hp⟩;obtain ⟨J,U,ah,_⟩:=oQ hp;exact ⟨fun m y hy=>⟨(J m y hy).1,(J m y hy).2,fun h=>by cases h⟩,fun m m' _ _ h=>h,fun m hm=>by simp[aw,aj] at hm,fun m hm _=>by rw[ah m hm];exact ⟨hno,by decide⟩,by simp[e9,I.only,I.ct,U],fun h=>by cases h⟩
 ·rintro r os' ⟨v,rfl,hp⟩;rw[l4,km (ρ:=bI []) (fun _=>rfl),Fo hno (oQ hp).2.2.1];exact h v os' hp
theorem sG{p:bo}{k n:Nat}{xs l:List bg}{A:ai}(hA:A.o k=some (.box (.agg (xs.map enc))))(hx:xs.take n=l):bh true A (e9 p (.view k [] 4 0 n))=some (enc (⟨p.av,l,p.cq⟩:bo)):=by
 have J:bh true A (.view k [] 4 0 n)=some (enc l):=by
  rw[vF,hA];have:lL 4 0 n (some (xs.map enc))=some (enc l):=by rw[vD (α:=bg) (sz:=4) rfl,hx]
  exact this
 have U:∀ k n,bh true A (.int k n)=some (.int k n):=fun k n=>by simp only[bh]
 simp only[e9,vE,vG,vI,J,U,kb,Z7];rfl
theorem pX(p:bo)(x:bg)(ao:p.j.length≤200):bf Tryz.prog 73 [enc p,enc x] (.tuple [enc (fJ p x).1,enc (fJ p x).2]):=by
 refine bf.b9 Tryz.func73 IK JI KU (u8 rfl) (fun hwf W0 bH E1 =>?_);simp only[zq,Ec,bN,Z1];clear hwf;rcases q:((p.j.length:Int)==200)
 case true =>
  have U:p.j.length=200:=by simp at q;omega
  have hw:fJ p x=(⟨0,[],0⟩,2):=by simp[fJ,U]
  rw[hw];have R:=y6 @q (y6 @sn (y6 @tS (y6 @eL (y6 @bS (y6 @bu (y6 @bp aH))))))
  repeat' ((first |refine ae.aJ (by decide +kernel) rfl fun K hK =>?_|(refine .aA [0,1,2,3,4,5,9] hK ?_;clear hK K)|(with_reducible refine .done (hK _ ?_);clear hK K)|refine ae.of rfl ?_|(with_reducible refine aC.aI (fun h =>?_) (fun h =>?_) <;>try simp only[h])) <;>try simp only[aK,R,simprocAttr])
  all_goals clear R
  rfl
 have hne:¬ p.j.length=200:=fun h=>by rw[h] at q;simp at q
 have hw:fJ p x=(⟨p.av,p.j++[x],p.cq⟩,0):=by simp[fJ,hne]
 rw[hw];have hbs:=jm 4 x rfl;have R:=y6 @hbs (y6 @q (y6 @eL (y6 @bS (y6 @bu (y6 @bp aH)))))
 repeat' ((first |refine ae.aJ (by decide +kernel) rfl fun K hK =>?_|refine aR.J3 (by omega) rfl rfl (fun v os' hc =>?_)|(refine .aA [0,1,2,3,4,5,9] hK ?_;clear hK K)|(with_reducible refine .done (hK _ ?_);clear hK K)|refine ae.of rfl ?_|(with_reducible refine aC.aI (fun h =>?_) (fun h =>?_) <;>try simp only[h])) <;>try simp only[aK,R,Z9,simprocAttr])
 all_goals clear R
 obtain ⟨g1,g2,g3,g4,g5,g6,g7,g8⟩:=oQ hc;have hok:b7 (some 3) (e9 p v)=true:=by simp[b7,e9,I.isAgg,I.size,I.sizes,g7]
 have hsh:(e9 p v).aX=.eG [.one,.one,.one]:=by simp[e9,I.aX,I.cX,g6]
 have hst:∀ A rest,dp A (some 3) 2 [] (enc p) (e9 p v) rest (some (enc p))=az rest (A.aV 2 (.box (e9 p v))):=fun A rest=>dP rfl hok hsh
 try simp only[hst,bG,simprocAttr]
 have R:=y6 @hbs (y6 @qf (y6 @g5 (y6 @kM (y6 @eL (y6 @bS (y6 @bu (y6 @bp aH)))))))
 repeat' ((first |refine ae.aJ (by decide +kernel) rfl fun K hK =>?_|(refine .aA [0,1,2,3,4,5,9] hK ?_;clear hK K)|(with_reducible refine .done (hK _ ?_);clear hK K)|refine ae.of rfl ?_|(with_reducible refine aC.aI (fun h =>?_) (fun h =>?_) <;>try simp only[h])) <;>try simp only[aK,R,simprocAttr])
 all_goals clear R
 have hst2:∀ A rest k n w,dp A none 2 [1] (e9 p w) (.view k [] 4 0 n) rest (some v)=az rest (A.aV 2 (.box (e9 p (.view k [] 4 0 n)))):=fun A rest k n w=>dP rfl rfl (by rw[g6];rfl);have hok2:∀ k n,b7 (some 3) (e9 p (.view k [] 4 0 n))=true:=fun _ _=>rfl;have hst3:∀ A rest k n,dp A (some 3) 4 [] (.agg [.int .i64 0,.nils 4,.int .i64 0]) (e9 p (.view k [] 4 0 n)) rest (some (.agg [.int .i64 0,.nils 4,.int .i64 0]))=az rest (A.aV 4 (.box (e9 p (.view k [] 4 0 n)))):=fun A rest k n=>dP rfl rfl rfl;have hlx:([x]:List bg).length=1:=rfl;rcases hc with ⟨hj,rfl | rfl,rfl⟩ | ⟨hj,m,rfl,rfl⟩
 ·refine aR.G6 hU rfl (by simp) rfl (by simp) (by simp[maxLen]) fun q =>?_;have hf:=fun A h=>sG (p:=p) (k:=17) (n:=1) (xs:=[x]++List.replicate q hU) (l:=p.j++[x]) (A:=A) h (by rw[hj];rfl)
  try simp only[hlx,hst2,kM,aH,bG,simprocAttr]
  have R:=y6 @hst2 (y6 @hok2 (y6 @hst3 (y6 @hf (y6 @kM (y6 @eL (y6 @bS (y6 @bu (y6 @bp aH))))))))
  repeat' ((first |refine ae.aJ (by decide +kernel) rfl fun K hK =>?_|(refine .aA [0,1,2,3,4,5,9] hK ?_;clear hK K)|(with_reducible refine .done (hK _ ?_);clear hK K)|refine ae.of rfl ?_|(with_reducible refine aC.aI (fun h =>?_) (fun h =>?_) <;>try simp only[h])) <;>try simp only[aK,R,simprocAttr])
  all_goals clear R
 ·refine aR.uB hU rfl (by simp) rfl (by simp) (by simp[maxLen]) fun q =>?_;have hf:=fun A h=>sG (p:=p) (k:=17) (n:=1) (xs:=[x]++List.replicate q hU) (l:=p.j++[x]) (A:=A) h (by rw[hj];rfl)
  try simp only[hlx,hst2,kM,aH,bG,simprocAttr]
  have R:=y6 @hst2 (y6 @hok2 (y6 @hst3 (y6 @hf (y6 @kM (y6 @eL (y6 @bS (y6 @bu (y6 @bp aH))))))))
  repeat' ((first |refine ae.aJ (by decide +kernel) rfl fun K hK =>?_|(refine .aA [0,1,2,3,4,5,9] hK ?_;clear hK K)|(with_reducible refine .done (hK _ ?_);clear hK K)|refine ae.of rfl ?_|(with_reducible refine aC.aI (fun h =>?_) (fun h =>?_) <;>try simp only[h])) <;>try simp only[aK,R,simprocAttr])
  all_goals clear R
 ·by_cases hm:m=0
  ·subst hm;refine aR.G4 (esz:=4) hU rfl (xs:=p.j++List.replicate 0 hU) (ys:=[x]) (by simp) rfl (by simp) (by simp) rfl (by simp;omega) (by simp[maxLen];omega) fun q =>?_;have hf:=fun A h=>sG (p:=p) (k:=17) (n:=p.j.length+1) (xs:=(p.j++List.replicate 0 hU).take p.j.length++([x]++List.replicate q hU)) (l:=p.j++[x]) (A:=A) h (by simp[List.take_append];exact List.take_of_length_le (by omega))
   try simp only[hlx,hst2,kM,aH,bG,simprocAttr]
   have R:=y6 @hst2 (y6 @hok2 (y6 @hst3 (y6 @hf (y6 @kM (y6 @eL (y6 @bS (y6 @bu (y6 @bp aH))))))))
   repeat' ((first |refine ae.aJ (by decide +kernel) rfl fun K hK =>?_|(refine .aA [0,1,2,3,4,5,9] hK ?_;clear hK K)|(with_reducible refine .done (hK _ ?_);clear hK K)|refine ae.of rfl ?_|(with_reducible refine aC.aI (fun h =>?_) (fun h =>?_) <;>try simp only[h])) <;>try simp only[aK,R,simprocAttr])
   all_goals clear R
  ·rw[yk (esz:=4) _ rfl (xs:=p.j++List.replicate m hU) (ys:=[x]) (by simp) rfl (by simp;omega)];have hf:=fun A h=>sG (p:=p) (k:=7) (n:=p.j.length+1) (xs:=(p.j++List.replicate m hU).take p.j.length++([x]++(p.j++List.replicate m hU).drop (p.j.length+1))) (l:=p.j++[x]) (A:=A) h (by simp[List.take_append];exact List.take_of_length_le (by omega))
   try simp only[hlx,hst2,kM,aH,bG,simprocAttr]
   have R:=y6 @hst2 (y6 @hok2 (y6 @hst3 (y6 @hf (y6 @kM (y6 @eL (y6 @bS (y6 @bu (y6 @bp aH))))))))
   repeat' ((first |refine ae.aJ (by decide +kernel) rfl fun K hK =>?_|(refine .aA [0,1,2,3,4,5,9] hK ?_;clear hK K)|(with_reducible refine .done (hK _ ?_);clear hK K)|refine ae.of rfl ?_|(with_reducible refine aC.aI (fun h =>?_) (fun h =>?_) <;>try simp only[h])) <;>try simp only[aK,R,simprocAttr])
   all_goals clear R
def fx:bo:=⟨0,[],0⟩
theorem Fc:(∀ A n b rest (q:bo) x y,dp A (some 3) n [] b (enc q) rest (some (.agg [.int .i64 x,.nils 4,.int .i64 y]))=az rest (A.aV n (.box (enc q))))∧(∀ A n b rest (q:bo) (r:bo),dp A (some 3) n [] b (enc q) rest (some (enc r))=az rest (A.aV n (.box (enc q)))) :=
 ⟨fun A n b rest q x y=>dP (ev _) (by rw[fq];rfl) (eQ _),fun A n b rest q r=>dP (ev _) (by rw[fq];rfl) ((eQ _).trans (eQ _).symm)⟩
theorem yx(a b:Int):(dO [.int .i64 0,.int .i64 0,.int .i64 0,.int .i64 0] [(0,.int .i64 a),(1,.int .i64 b)]).map I.agg=some (enc (⟨a,b,0,0⟩:bg)):=by simp[dO,I.bU,I.size];rfl
theorem uH(a b c d:Int):(dO [.int .i64 0,.int .i64 0,.int .i64 0,.int .i64 0] [(0,.int .i64 a),(1,.int .i64 b),(2,.int .i64 c),(3,.int .i64 d)]).map I.agg=some (enc (⟨a,b,c,d⟩:bg)):=by simp[dO,I.bU,I.size];rfl
theorem cD:(type_of% @Fc)∧(type_of% @yx)∧(type_of% @uH)∧(type_of% @sn)∧(type_of% @tS)∧(type_of% @eL):=⟨Fc,yx,uH,sn,tS,eL⟩
def kg(p:bo)(b:Int):bo×Int:=match cS p with
 |none=>(fx,91)
 |some s=>if cG 1 9999 b=false then (fx,1) else if b∈s.here∨s.fg b=true then (fx,92) else fJ p ⟨1,b,0,0⟩
def lg(p:bo)(b:Int):bo×Int:=match cS p with
 |none=>(fx,91)
 |some s=>if cG 1 9999 b=false then (fx,1) else if b∈s.here then fJ p ⟨2,b,0,0⟩ else (fx,93)
theorem xV(p:bo)(b:Int):bf Tryz.prog 27 [enc p,enc b] (.tuple [enc (kg p b).1,enc (kg p b).2]):=by
 refine bf.b9 Tryz.func27 Im Jm Ky (u8 rfl) (fun hwf W0 bH E1 =>?_);simp only[yY,DM,bN,Z1];clear hwf;have hF:=nl p;simp only[kg];cases ho:cS p with
 |none =>
  rw[ho] at hF;simp only[iM] at hF;have R:=y6 @cD (y6 @bq (y6 @bS (y6 @bu (y6 @bp aH))))
  repeat' ((first |(with_reducible refine .guard (fun hb =>?_) (fun hb =>?_) <;>try simp only[hb])|refine ae.aJ (by decide +kernel) rfl fun K hK =>?_|refine .lead _ (hF) ?_|(refine .aA [0,1,2,4,5,6,7,13,18,23] hK ?_;clear hK K)|(with_reducible refine .done (hK _ ?_);clear hK K)|refine ae.of rfl ?_|(with_reducible refine aC.aI (fun h =>?_) (fun h =>?_) <;>try simp only[h])) <;>try simp only[aK,R,simprocAttr])
  all_goals clear R
  rfl
 |some s =>
  have hjl:=(gf ho).2.2.2.1;rw[ho] at hF;simp only[iM] at hF;have hlk:=ga eS b s.here;rw[eE] at hlk;have hB:=oG b;have hR:=pW s b;have hW:=pX p ⟨1,b,0,0⟩ hjl;rcases q1:cG 1 9999 b
  ·rw[q1] at hB;have R:=y6 @ea (y6 @cD (y6 @bq (y6 @bS (y6 @bu (y6 @bp aH)))))
   repeat' ((first |(with_reducible refine .guard (fun hb =>?_) (fun hb =>?_) <;>try simp only[hb])|refine ae.aJ (by decide +kernel) rfl fun K hK =>?_|refine .lead _ (hF) ?_|refine .flat _ (hB) rfl ?_|(refine .aA [0,1,2,4,5,6,7,13,18,23] hK ?_;clear hK K)|(with_reducible refine .done (hK _ ?_);clear hK K)|refine ae.of rfl ?_|(with_reducible refine aC.aI (fun h =>?_) (fun h =>?_) <;>try simp only[h])) <;>try simp only[aK,R,simprocAttr])
   all_goals clear R
   rfl
  rw[q1] at hB;rcases q2:decide (b∈s.here)
  ·rcases q3:s.fg b
   ·rw[q3] at hR;have bC:(b∈s.here∨s.fg b=true)=False:=by simpa[q3] using q2
    simp only[Bool.true_eq_false,if_false,bC];have R:=y6 @q2 (y6 @hlk (y6 @ea (y6 @cD (y6 @bq (y6 @bS (y6 @bu (y6 @bp aH)))))))
    repeat' ((first |(with_reducible refine .guard (fun hb =>?_) (fun hb =>?_) <;>try simp only[hb])|refine ae.aJ (by decide +kernel) rfl fun K hK =>?_|refine .lead _ (hF) ?_|refine .flat _ (hB) rfl ?_|refine .flat _ (hR) rfl ?_|refine .lead _ (hW) ?_|(refine .aA [0,1,2,4,5,6,7,13,18,23] hK ?_;clear hK K)|(with_reducible refine .done (hK _ ?_);clear hK K)|refine ae.of rfl ?_|(with_reducible refine aC.aI (fun h =>?_) (fun h =>?_) <;>try simp only[h])) <;>try simp only[aK,R,simprocAttr])
    all_goals clear R
   ·rw[q3] at hR;have bC:(b∈s.here∨s.fg b=true)=True:=by simp[q3]
    simp only[Bool.true_eq_false,if_false,bC,if_true];have R:=y6 @q2 (y6 @hlk (y6 @ea (y6 @cD (y6 @bq (y6 @bS (y6 @bu (y6 @bp aH)))))))
    repeat' ((first |(with_reducible refine .guard (fun hb =>?_) (fun hb =>?_) <;>try simp only[hb])|refine ae.aJ (by decide +kernel) rfl fun K hK =>?_|refine .lead _ (hF) ?_|refine .flat _ (hB) rfl ?_|refine .flat _ (hR) rfl ?_|(refine .aA [0,1,2,4,5,6,7,13,18,23] hK ?_;clear hK K)|(with_reducible refine .done (hK _ ?_);clear hK K)|refine ae.of rfl ?_|(with_reducible refine aC.aI (fun h =>?_) (fun h =>?_) <;>try simp only[h])) <;>try simp only[aK,R,simprocAttr])
    all_goals clear R
    rfl
  ·have bC:b∈s.here:=of_decide_eq_true q2;simp only[Bool.true_eq_false,if_false,bC,true_or,if_true];have R:=y6 @q2 (y6 @hlk (y6 @ea (y6 @cD (y6 @bq (y6 @bS (y6 @bu (y6 @bp aH)))))))
   repeat' ((first |(with_reducible refine .guard (fun hb =>?_) (fun hb =>?_) <;>try simp only[hb])|refine ae.aJ (by decide +kernel) rfl fun K hK =>?_|refine .lead _ (hF) ?_|refine .flat _ (hB) rfl ?_|(refine .aA [0,1,2,4,5,6,7,13,18,23] hK ?_;clear hK K)|(with_reducible refine .done (hK _ ?_);clear hK K)|refine ae.of rfl ?_|(with_reducible refine aC.aI (fun h =>?_) (fun h =>?_) <;>try simp only[h])) <;>try simp only[aK,R,simprocAttr])
   all_goals clear R
   rfl
theorem F4(p:bo)(b:Int):bf Tryz.prog 29 [enc p,enc b] (.tuple [enc (lg p b).1,enc (lg p b).2]):=by
 refine bf.b9 Tryz.func29 Io Jn Kz (u8 rfl) (fun hwf W0 bH E1 =>?_);simp only[yZ,DN,bN,Z1];clear hwf;have hF:=nl p;simp only[lg];cases ho:cS p with
 |none =>
  rw[ho] at hF;simp only[iM] at hF;have R:=y6 @cD (y6 @bq (y6 @bS (y6 @bu (y6 @bp aH))))
  repeat' ((first |refine ae.aJ (by decide +kernel) rfl fun K hK =>?_|refine .lead _ (hF) ?_|(refine .aA [0,1,2,4,5,6,7,13,18,23] hK ?_;clear hK K)|(with_reducible refine .done (hK _ ?_);clear hK K)|refine ae.of rfl ?_|(with_reducible refine aC.aI (fun h =>?_) (fun h =>?_) <;>try simp only[h])) <;>try simp only[aK,R,simprocAttr])
  all_goals clear R
  rfl
 |some s =>
  have hjl:=(gf ho).2.2.2.1;rw[ho] at hF;simp only[iM] at hF;have hlk:=ga eS b s.here;rw[eE] at hlk;have hB:=oG b;have hW:=pX p ⟨2,b,0,0⟩ hjl;rcases q1:cG 1 9999 b
  ·rw[q1] at hB;have R:=y6 @ea (y6 @cD (y6 @bq (y6 @bS (y6 @bu (y6 @bp aH)))))
   repeat' ((first |refine ae.aJ (by decide +kernel) rfl fun K hK =>?_|refine .lead _ (hF) ?_|refine .flat _ (hB) rfl ?_|(refine .aA [0,1,2,4,5,6,7,13,18,23] hK ?_;clear hK K)|(with_reducible refine .done (hK _ ?_);clear hK K)|refine ae.of rfl ?_|(with_reducible refine aC.aI (fun h =>?_) (fun h =>?_) <;>try simp only[h])) <;>try simp only[aK,R,simprocAttr])
   all_goals clear R
   rfl
  rw[q1] at hB;rcases q2:decide (b∈s.here)
  ·have bC:b∉s.here:=of_decide_eq_false q2;simp only[Bool.true_eq_false,if_false,bC];have R:=y6 @q2 (y6 @hlk (y6 @ea (y6 @cD (y6 @bq (y6 @bS (y6 @bu (y6 @bp aH)))))))
   repeat' ((first |refine ae.aJ (by decide +kernel) rfl fun K hK =>?_|refine .lead _ (hF) ?_|refine .flat _ (hB) rfl ?_|(refine .aA [0,1,2,4,5,6,7,13,18,23] hK ?_;clear hK K)|(with_reducible refine .done (hK _ ?_);clear hK K)|refine ae.of rfl ?_|(with_reducible refine aC.aI (fun h =>?_) (fun h =>?_) <;>try simp only[h])) <;>try simp only[aK,R,simprocAttr])
   all_goals clear R
   rfl
  ·have bC:b∈s.here:=of_decide_eq_true q2;simp only[Bool.true_eq_false,if_false,bC,if_true];have R:=y6 @q2 (y6 @hlk (y6 @ea (y6 @cD (y6 @bq (y6 @bS (y6 @bu (y6 @bp aH)))))))
   repeat' ((first |refine ae.aJ (by decide +kernel) rfl fun K hK =>?_|refine .lead _ (hF) ?_|refine .flat _ (hB) rfl ?_|refine .lead _ (hW) ?_|(refine .aA [0,1,2,4,5,6,7,13,18,23] hK ?_;clear hK K)|(with_reducible refine .done (hK _ ?_);clear hK K)|refine ae.of rfl ?_|(with_reducible refine aC.aI (fun h =>?_) (fun h =>?_) <;>try simp only[h])) <;>try simp only[aK,R,simprocAttr])
   all_goals clear R
def ni(p:bo):bo×Int:=match cS p with
 |none=>(fx,91)
 |some _=>(⟨p.av,p.j,p.j.length⟩,0)
theorem Fe(A:ai)(n:Nat)(p:bo)(v:Int)(rest:List aE)(u:Int):dp A none n [2] (enc p) (.int .i64 v) rest (some (.int .i64 u))=az rest (A.aV n (.box (enc (⟨p.av,p.j,v⟩:bo)))):=dP rfl rfl rfl
theorem rX(p:bo):bf Tryz.prog 10 [enc p] (.tuple [enc (ni p).1,enc (ni p).2]):=by
 refine bf.b9 Tryz.func10 HV I2 J4 (u8 rfl) (fun hwf W0 bH E1 =>?_);simp only[yE,Df,bN];clear hwf;have hF:=oF p;simp only[my] at hF;simp only[ni];cases ho:cS p with
 |none =>
  rw[ho] at hF;have R:=y6 @cD (y6 @bq (y6 @bS (y6 @bu (y6 @bp aH))))
  repeat' ((first |refine ae.aJ (by decide +kernel) rfl fun K hK =>?_|refine .lead _ (hF) ?_|(refine .aA [0,1,2,3,4,8] hK ?_;clear hK K)|(with_reducible refine .done (hK _ ?_);clear hK K)|refine ae.of rfl ?_|(with_reducible refine aC.aI (fun h =>?_) (fun h =>?_) <;>try simp only[h])) <;>try simp only[aK,R,simprocAttr])
  all_goals clear R
  rfl
 |some s =>
  have hjl:=(gf ho).2.2.2.1;rw[ho] at hF;have R:=y6 @Fe (y6 @cD (y6 @bq (y6 @bS (y6 @bu (y6 @bp aH)))))
  repeat' ((first |refine ae.aJ (by decide +kernel) rfl fun K hK =>?_|refine .lead _ (hF) ?_|refine .lead _ (xX p (by omega)) ?_|(refine .aA [0,1,2,3,4,8] hK ?_;clear hK K)|(with_reducible refine .done (hK _ ?_);clear hK K)|refine ae.of rfl ?_|(with_reducible refine aC.aI (fun h =>?_) (fun h =>?_) <;>try simp only[h])) <;>try simp only[aK,R,simprocAttr])
  all_goals clear R
def iY(p:bo)(eT:Int):Int:=p.cq+(eT.tmod (p.j.length-p.cq+1)+(p.j.length-p.cq+1)).tmod (p.j.length-p.cq+1)
def qe(p:bo)(eT:Int):bo×Int:=match cS p with
 |none=>(fx,91)
 |some _=>(⟨p.av,p.j.take (iY p eT).toNat,iY p eT⟩,0)
theorem ua(n m:Int)(hm:0<m):-m<n.tmod m∧n.tmod m<m:=by
 have J:=Int.tmod_lt_of_pos n hm;have U:=Int.lt_tmod_of_pos n hm;omega
theorem As{p:bo}{s:aB}(ho:cS p=some s)(eT:Int):0≤p.cq∧p.cq≤p.j.length∧p.cq≤iY p eT∧iY p eT≤p.j.length∧p.j.length≤200:=by
 obtain ⟨_,_,_,ar,h5,_⟩:=gf ho;simp only[ij,cG,t8,decide_eq_true_eq] at h5;obtain ⟨_,_,h6,h7⟩:=h5;have hm:(0:Int)<p.j.length-p.cq+1:=by omega
 have J:=ua eT (p.j.length-p.cq+1) hm;have U:=ua (eT.tmod (p.j.length-p.cq+1)+(p.j.length-p.cq+1)) (p.j.length-p.cq+1) hm;have ah:=Int.tmod_nonneg (p.j.length-p.cq+1) (show (0:Int)≤eT.tmod (p.j.length-p.cq+1)+(p.j.length-p.cq+1) by omega);simp only[iY];omega
theorem tO{α:Type}[Enc α]{A:ai}(esz:Nat){l:List α}{i:Nat}(h:i≤l.length)(ab:Enc.sz α=esz):jC A esz none (some (.int .i64 i)) none (enc l)=some (enc (l.take i)):=by
 simp only[jC,hs,ab,if_true,iR,jk,Z8];rw[if_pos ⟨by omega,by omega,by omega,by omega⟩];simp
theorem FJ(p:bo)(eT:Int):bf Tryz.prog 12 [enc p,enc eT] (.tuple [enc (qe p eT).1,enc (qe p eT).2]):=by
 refine bf.b9 Tryz.func12 Ib Jc Ke (u8 rfl) (fun hwf W0 bH E1 =>?_);simp only[yO,Dr,bN,Z1];clear hwf;have hF:=oF p;simp only[my] at hF;simp only[qe];cases ho:cS p with
 |none =>
  rw[ho] at hF;have R:=y6 @cD (y6 @bq (y6 @bS (y6 @bu (y6 @bp aH))))
  repeat' ((first |refine ae.aJ (by decide +kernel) rfl fun K hK =>?_|refine .lead _ (hF) ?_|(refine .aA [0,1,2,4,5,6,7,11] hK ?_;clear hK K)|(with_reducible refine .done (hK _ ?_);clear hK K)|refine ae.of rfl ?_|(with_reducible refine aC.aI (fun h =>?_) (fun h =>?_) <;>try simp only[h])) <;>try simp only[aK,R,simprocAttr])
  all_goals clear R
  rfl
 |some s =>
  obtain ⟨k1,k2,k3,k4,k5⟩:=As ho eT;rw[ho] at hF;obtain ⟨m,hm⟩:∃ m:Int,m=p.j.length-p.cq+1:=⟨_,rfl⟩
  have hmp:0<m:=by omega
  have b1:=ua eT m hmp;have b2:=ua (eT.tmod m+m) m hmp;have hw1:IntKind.i64.wrap ((p.j.length:Int)-p.cq)=(p.j.length:Int)-p.cq:=jG _ (by omega) (by omega);have hw2:IntKind.i64.wrap ((p.j.length:Int)-p.cq+1)=m:=by rw[jG _ (by omega) (by omega),hm]
  have hm0:(m=0)=False:=by simp;omega
  have hw3:IntKind.i64.wrap (eT.tmod m+m)=eT.tmod m+m:=jG _ (by omega) (by omega);have hk:iY p eT=p.cq+(eT.tmod m+m).tmod m:=by simp only[iY,hm]
  have hw4:IntKind.i64.wrap (p.cq+(eT.tmod m+m).tmod m)=iY p eT:=by rw[hk];exact jG _ (by omega) (by omega)
  generalize iY p eT=k at *;have hkn:k=(k.toNat:Int):=by omega
  have hsl:∀ A,jC A 4 none (some (.int .i64 k)) none (enc p.j)=some (enc (p.j.take k.toNat)):=fun A=>by
   have:=tO (A:=A) (α:=bg) 4 (l:=p.j) (i:=k.toNat) (by omega) rfl;rw[←hkn] at this;exact this
  have hst:∀ (A:ai) rest,dp A none 2 [1] (enc (⟨p.av,p.j,k⟩:bo)) (enc (p.j.take k.toNat)) rest (some (enc p.j))=az rest (A.aV 2 (.box (enc (⟨p.av,p.j.take k.toNat,k⟩:bo)))):=fun A rest=>dP (ev _) (by simp[kQ,kP]) rfl;have hC:=xY (p.j.take k.toNat) (by rw[zz8];omega);have R:=y6 @hw1 (y6 @hw2 (y6 @hm0 (y6 @hw3 (y6 @hw4 (y6 @hsl (y6 @hst (y6 @Fe (y6 @cD (y6 @bq (y6 @bS (y6 @bu (y6 @bp aH))))))))))))
  repeat' ((first |refine ae.aJ (by decide +kernel) rfl fun K hK =>?_|refine .lead _ (hF) ?_|refine .lead _ (hC) ?_|(refine .aA [0,1,2,4,5,6,7,11] hK ?_;clear hK K)|(with_reducible refine .done (hK _ ?_);clear hK K)|refine ae.of rfl ?_|(with_reducible refine aC.aI (fun h =>?_) (fun h =>?_) <;>try simp only[h])) <;>try simp only[aK,R,Option.map_none,simprocAttr])
  all_goals clear R
def lb:dh:=⟨0,0,0,false⟩
theorem mi:(∀ A n b rest (q:dh) x y z w,dp A (some 4) n [] b (enc q) rest (some (.agg [.int .i64 x,.int .i64 y,.int .i64 z,.bool w]))=az rest (A.aV n (.box (enc q))))∧(∀ A n b rest (q r:dh),dp A (some 4) n [] b (enc q) rest (some (enc r))=az rest (A.aV n (.box (enc q)))) :=
 ⟨fun A n b rest q x y z w=>dP (ev _) (by rw[fq];rfl) (eQ _),fun A n b rest q r=>dP (ev _) (by rw[fq];rfl) ((eQ _).trans (eQ _).symm)⟩
theorem nw:(dO [.int .i64 0,.int .i64 0,.int .i64 0,.bool false] []).map I.agg=some (enc lb):=by simp[dO];rfl
theorem sq(a b c:Int):(dO [.int .i64 0,.int .i64 0,.int .i64 0,.bool false] [(0,.int .i64 a),(1,.int .i64 b),(2,.int .i64 c)]).map I.agg=some (enc (⟨a,b,c,false⟩:dh)):=by simp[dO,I.bU,I.size];rfl
def jB(p:bo)(b to:Int):bo×dh×Int:=match cS p with
 |none=>(fx,lb,91)
 |some s=>if cG 1 9999 b=false then (fx,lb,1) else if cG 0 5 to=false∨to=p.av then (fx,lb,90) else if b∉s.here then (fx,lb,93) else
  if p.j.length=200 then (fx,lb,2) else ((fJ p ⟨3,b,to,(s.all.length:Int)+1⟩).1,⟨(s.all.length:Int)+1,to,b,false⟩,0)
theorem xW(p:bo)(b to:Int):bf Tryz.prog 31 [enc p,enc b,enc to] (.tuple [enc (jB p b to).1,enc (jB p b to).2.1,enc (jB p b to).2.2]):=by
 refine bf.b9 Tryz.func31 Ip Jo KA (u8 rfl) (fun hwf W0 bH E1 =>?_);simp only[y5,DO,bN,Z1,Nat.reduceAdd];clear hwf;have hF:=nl p;simp only[jB];cases ho:cS p with
 |none =>
  rw[ho] at hF;simp only[iM] at hF;have R:=y6 @nw (y6 @mi (y6 @cD (y6 @bq (y6 @bS (y6 @bu (y6 @bp aH))))))
  repeat' ((first |(with_reducible refine .guard (fun hb =>?_) (fun hb =>?_) <;>try simp only[hb])|refine ae.aJ (by decide +kernel) rfl fun K hK =>?_|refine .lead _ (hF) ?_|(refine .aA [0,1,2,3,6,7,8,9,10,11,17,23,29,41,70] hK ?_;clear hK K)|(with_reducible refine .done (hK _ ?_);clear hK K)|refine ae.of rfl ?_|(with_reducible refine aC.aI (fun h =>?_) (fun h =>?_) <;>try simp only[h])) <;>try simp only[aK,R,simprocAttr])
  all_goals clear R
  rfl
 |some s =>
  have hjl:=(gf ho).2.2.2.1;have hsl:=(gf ho).2.2.1;rw[ho] at hF;simp only[iM] at hF;have hlk:=ga eS b s.here;rw[eE] at hlk;have hB:=oG b;have hT:=ml to;have hW:=pX p ⟨3,b,to,(s.all.length:Int)+1⟩ hjl;have hw:IntKind.i64.wrap ((s.all.length:Int)+1)=(s.all.length:Int)+1:=jG _ (by omega) (by omega);rcases q1:cG 1 9999 b
  ·rw[q1] at hB;have R:=y6 @nw (y6 @mi (y6 @ea (y6 @cD (y6 @bq (y6 @bS (y6 @bu (y6 @bp aH)))))))
   repeat' ((first |(with_reducible refine .guard (fun hb =>?_) (fun hb =>?_) <;>try simp only[hb])|refine ae.aJ (by decide +kernel) rfl fun K hK =>?_|refine .lead _ (hF) ?_|refine .flat _ (hB) rfl ?_|(refine .aA [0,1,2,3,6,7,8,9,10,11,17,23,29,41,70] hK ?_;clear hK K)|(with_reducible refine .done (hK _ ?_);clear hK K)|refine ae.of rfl ?_|(with_reducible refine aC.aI (fun h =>?_) (fun h =>?_) <;>try simp only[h])) <;>try simp only[aK,R,simprocAttr])
   all_goals clear R
   rfl
  rw[q1] at hB;rcases q2:cG 0 5 to
  ·rw[q2] at hT;simp only[Bool.true_eq_false,if_false,true_or,if_true];have R:=y6 @nw (y6 @mi (y6 @ea (y6 @cD (y6 @bq (y6 @bS (y6 @bu (y6 @bp aH)))))))
   repeat' ((first |(with_reducible refine .guard (fun hb =>?_) (fun hb =>?_) <;>try simp only[hb])|refine ae.aJ (by decide +kernel) rfl fun K hK =>?_|refine .lead _ (hF) ?_|refine .flat _ (hB) rfl ?_|refine .flat _ (hT) rfl ?_|(refine .aA [0,1,2,3,6,7,8,9,10,11,17,23,29,41,70] hK ?_;clear hK K)|(with_reducible refine .done (hK _ ?_);clear hK K)|refine ae.of rfl ?_|(with_reducible refine aC.aI (fun h =>?_) (fun h =>?_) <;>try simp only[h])) <;>try simp only[aK,R,simprocAttr])
   all_goals clear R
   rfl
  rw[q2] at hT;rcases q3:(to==p.av)
  case true =>
   have e:to=p.av:=by simpa using q3
   simp only[Bool.true_eq_false,if_false,false_or,e,if_true];rw[e] at hT q3;have R:=y6 @q3 (y6 @nw (y6 @mi (y6 @ea (y6 @cD (y6 @bq (y6 @bS (y6 @bu (y6 @bp aH))))))))
   repeat' ((first |(with_reducible refine .guard (fun hb =>?_) (fun hb =>?_) <;>try simp only[hb])|refine ae.aJ (by decide +kernel) rfl fun K hK =>?_|refine .lead _ (hF) ?_|refine .flat _ (hB) rfl ?_|refine .flat _ (hT) rfl ?_|(refine .aA [0,1,2,3,6,7,8,9,10,11,17,23,29,41,70] hK ?_;clear hK K)|(with_reducible refine .done (hK _ ?_);clear hK K)|refine ae.of rfl ?_|(with_reducible refine aC.aI (fun h =>?_) (fun h =>?_) <;>try simp only[h])) <;>try simp only[aK,R,simprocAttr])
   all_goals clear R
   rfl
  have e:¬ to=p.av:=by simpa using q3
  simp only[Bool.true_eq_false,if_false,false_or,e];rcases q4:decide (b∈s.here)
  ·have bC:b∉s.here:=of_decide_eq_false q4;rw[if_pos bC];have R:=y6 @q3 (y6 @q4 (y6 @hlk (y6 @nw (y6 @mi (y6 @ea (y6 @cD (y6 @bq (y6 @bS (y6 @bu (y6 @bp aH))))))))))
   repeat' ((first |(with_reducible refine .guard (fun hb =>?_) (fun hb =>?_) <;>try simp only[hb])|refine ae.aJ (by decide +kernel) rfl fun K hK =>?_|refine .lead _ (hF) ?_|refine .flat _ (hB) rfl ?_|refine .flat _ (hT) rfl ?_|(refine .aA [0,1,2,3,6,7,8,9,10,11,17,23,29,41,70] hK ?_;clear hK K)|(with_reducible refine .done (hK _ ?_);clear hK K)|refine ae.of rfl ?_|(with_reducible refine aC.aI (fun h =>?_) (fun h =>?_) <;>try simp only[h])) <;>try simp only[aK,R,simprocAttr])
   all_goals clear R
   rfl
  ·have bC:b∈s.here:=of_decide_eq_true q4;rw[if_neg (by simpa using bC)];by_cases U:p.j.length=200
   ·have hw1:fJ p ⟨3,b,to,(s.all.length:Int)+1⟩=(fx,2):=by simp[fJ,U,fx]
    rw[hw1] at hW;simp only[if_pos U];have R:=y6 @hw (y6 @q3 (y6 @q4 (y6 @hlk (y6 @nw (y6 @sq (y6 @mi (y6 @ea (y6 @cD (y6 @bq (y6 @bS (y6 @bu (y6 @bp aH))))))))))))
    repeat' ((first |(with_reducible refine .guard (fun hb =>?_) (fun hb =>?_) <;>try simp only[hb])|refine ae.aJ (by decide +kernel) rfl fun K hK =>?_|refine .lead _ (hF) ?_|refine .flat _ (hB) rfl ?_|refine .flat _ (hT) rfl ?_|refine .lead _ (hW) ?_|(refine .aA [0,1,2,3,6,7,8,9,10,11,17,23,29,41,70] hK ?_;clear hK K)|(with_reducible refine .done (hK _ ?_);clear hK K)|refine ae.of rfl ?_|(with_reducible refine aC.aI (fun h =>?_) (fun h =>?_) <;>try simp only[h])) <;>try simp only[aK,R,simprocAttr])
    all_goals clear R
    rfl
   ·have hw1:(fJ p ⟨3,b,to,(s.all.length:Int)+1⟩).2=0:=by simp[fJ,U]
    rw[hw1] at hW;simp only[if_neg U];have R:=y6 @hw (y6 @q3 (y6 @q4 (y6 @hlk (y6 @nw (y6 @sq (y6 @mi (y6 @ea (y6 @cD (y6 @bq (y6 @bS (y6 @bu (y6 @bp aH))))))))))))
    repeat' ((first |(with_reducible refine .guard (fun hb =>?_) (fun hb =>?_) <;>try simp only[hb])|refine ae.aJ (by decide +kernel) rfl fun K hK =>?_|refine .lead _ (hF) ?_|refine .flat _ (hB) rfl ?_|refine .flat _ (hT) rfl ?_|refine .lead _ (hW) ?_|(refine ae.rp (gs:=vO) [] [(3,[3]),(6,[6]),(7,[7]),(11,[11])] [0,1,2,3,4] (by decide +kernel) (cW.of (by simp[ft,cz,I.only])) fun K hK =>?_;simp only[fe,vO,Y9,zz0,R,simprocAttr])|(refine .aA [0,1,2,3,6,7,8,9,10,11,17,23,29,41,70] hK ?_;clear hK K)|(with_reducible refine .done (hK _ ?_);clear hK K)|refine ae.of rfl ?_|(with_reducible refine aC.aI (fun h =>?_) (fun h =>?_) <;>try simp only[h])) <;>try simp only[aK,R,simprocAttr])
    all_goals clear R
def kJ(p:bo)(no:Int):bo×Int:=match cS p with
 |none=>(fx,91)
 |some s=>match s.at no with
  |none=>(fx,94)
  |some i=>if (s.bJ i).c9 then (fx,94) else fJ p ⟨4,(s.bJ i).aD,(s.bJ i).to,no⟩
theorem F5(p:bo)(no:Int):bf Tryz.prog 33 [enc p,enc no] (.tuple [enc (kJ p no).1,enc (kJ p no).2]):=by
 refine bf.b9 Tryz.func33 Iq Jp KB (u8 rfl) (fun hwf W0 bH E1 =>?_);simp only[y7,DP,bN,Z1];clear hwf;have hF:=nl p;simp only[kJ];cases ho:cS p with
 |none =>
  rw[ho] at hF;simp only[iM] at hF;have R:=y6 @cD (y6 @bq (y6 @bS (y6 @bu (y6 @bp aH))))
  repeat' ((first |(with_reducible refine .guard (fun hb =>?_) (fun hb =>?_) <;>try simp only[hb])|refine ae.aJ (by decide +kernel) rfl fun K hK =>?_|refine .lead _ (hF) ?_|(refine .aA [0,1,2,4,5,6,7,8,9,16,35] hK ?_;clear hK K)|(with_reducible refine .done (hK _ ?_);clear hK K)|refine ae.of rfl ?_|(with_reducible refine aC.aI (fun h =>?_) (fun h =>?_) <;>try simp only[h])) <;>try simp only[aK,R,simprocAttr])
  all_goals clear R
  rfl
 |some s =>
  have hjl:=(gf ho).2.2.2.1;rw[ho] at hF;simp only[iM] at hF;have hlk:=sZ (s:=s) (fun i=>.ref (enc (s.bJ i))) no
  dsimp only
  cases ha:s.at no with
  |none =>
   rw[ha] at hlk;simp only at hlk;have R:=y6 @hlk (y6 @ea (y6 @cD (y6 @bq (y6 @bS (y6 @bu (y6 @bp aH))))))
   repeat' ((first |(with_reducible refine .guard (fun hb =>?_) (fun hb =>?_) <;>try simp only[hb])|refine ae.aJ (by decide +kernel) rfl fun K hK =>?_|refine .lead _ (hF) ?_|(refine .aA [0,1,2,4,5,6,7,8,9,16,35] hK ?_;clear hK K)|(with_reducible refine .done (hK _ ?_);clear hK K)|refine ae.of rfl ?_|(with_reducible refine aC.aI (fun h =>?_) (fun h =>?_) <;>try simp only[h])) <;>try simp only[aK,R,simprocAttr])
   all_goals clear R
   rfl
  |some i =>
   rw[ha] at hlk;simp only at hlk;have hW:=pX p ⟨4,(s.bJ i).aD,(s.bJ i).to,no⟩ hjl;cases hc:(s.bJ i).c9 with
   |true =>
    have R:=y6 @hlk (y6 @hc (y6 @ea (y6 @cD (y6 @bq (y6 @bS (y6 @bu (y6 @bp aH)))))))
    repeat' ((first |(with_reducible refine .guard (fun hb =>?_) (fun hb =>?_) <;>try simp only[hb])|refine ae.aJ (by decide +kernel) rfl fun K hK =>?_|refine .lead _ (hF) ?_|(refine .aA [0,1,2,4,5,6,7,8,9,16,35] hK ?_;clear hK K)|(with_reducible refine .done (hK _ ?_);clear hK K)|refine ae.of rfl ?_|(with_reducible refine aC.aI (fun h =>?_) (fun h =>?_) <;>try simp only[h])) <;>try simp only[aK,R,simprocAttr])
    all_goals clear R
    rfl
   |false =>
    have R:=y6 @hlk (y6 @hc (y6 @ea (y6 @cD (y6 @bq (y6 @bS (y6 @bu (y6 @bp aH)))))))
    repeat' ((first |(with_reducible refine .guard (fun hb =>?_) (fun hb =>?_) <;>try simp only[hb])|refine ae.aJ (by decide +kernel) rfl fun K hK =>?_|refine .lead _ (hF) ?_|refine .lead _ (hW) ?_|(refine .aA [0,1,2,4,5,6,7,8,9,16,35] hK ?_;clear hK K)|(with_reducible refine .done (hK _ ?_);clear hK K)|refine ae.of rfl ?_|(with_reducible refine aC.aI (fun h =>?_) (fun h =>?_) <;>try simp only[h])) <;>try simp only[aK,R,simprocAttr])
    all_goals clear R
def ph(k:Int):Int:=if k=1 then 7 else if k=2 then 5 else if k=3 then 8 else if k=4 then 6 else 0
theorem VW(k:Int):fu (.i .i64) (.int .i64 0) (.int .i64 k) [.int .i64 1,.int .i64 2,.int .i64 3,.int .i64 4] [.int .i64 7,.int .i64 5,.int .i64 8,.int .i64 6]=some (.int .i64 (ph k),decide (k=1∨k=2∨k=3∨k=4)):=by
 have h:=sY eS (.int .i64 0) k [1,2,3,4] [.int .i64 7,.int .i64 5,.int .i64 8,.int .i64 6];simp only[Z4,zy1,eE] at h;rw[h];by_cases J:k=1
 ·subst J;rfl
 by_cases U:k=2
 ·subst U;rfl
 by_cases ah:k=3
 ·subst ah;rfl
 by_cases ar:k=4
 ·subst ar;rfl
 simp[List.findIdx?_cons,J,U,ah,ar,ph]
theorem Gx(k:Int):bf Tryz.prog 80 [enc k] (enc (ph k)):=by
 refine bf.b9 Tryz.func80 IN JL KX (u8 rfl) (fun hwf W0 bH E1 =>?_);simp only[zu,Ef,bN];clear hwf;have hv:∀ k n,(I.int k n).bU=true:=fun _ _=>rfl;have ao:=VW k;have R:=y6 @hv (y6 @ao (y6 @CD (y6 @bS (y6 @bu (y6 @bp aH)))))
 repeat' ((first |refine ae.aJ (by decide +kernel) rfl fun K hK =>?_|(refine .aA [0,2] hK ?_;clear hK K)|(with_reducible refine .done (hK _ ?_);clear hK K)|refine ae.of rfl ?_|(with_reducible refine aC.aI (fun h =>?_) (fun h =>?_) <;>try simp only[h])) <;>try simp only[aK,R,simprocAttr])
 all_goals clear R
def gU(r:dv):bg:=⟨ph r.kind,r.aD,r.dc,r.no⟩
def fF(p:bo)(r:dv):bo×Int:=match cS p with
 |none=>(fx,91)
 |some s=>if nU r=false∨r.to≠p.av then (fx,95) else match fh s (gU r) with
  |none=>(p,0)
  |some _=>fJ p (gU r)
theorem Fp{ts:List (Nat×I)}{os0:List (Nat×aq)}{s:aB}(hno:∀ m,2000≤m→aj os0 m=none):au ts (dn s++os0)=au ts (os0++dn s):=by
 simp only[au,ai.mk.injEq,true_and]
 funext n
 rw[fN,fN];cases J:aj (dn s) n with
 |none=>simp only;cases aj os0 n <;>rfl
 |some y=>rw[hno n (xF (s:=s) (by simp[aw,J])).1]
theorem aR.Xg{K:ai→Prop}{p:bo}{avs:List I}{a1 a2:Option (List I)}{dst:Option Nat}{rest:List aE}{ts:List (Nat×I)}{os0:List (Nat×aq)}(ho:cS p=none)(hav:avs=[enc p])
  (h:aR Tryz.prog dj false K (az rest ((au ts os0).aT dst (.tuple [.nilp,.int .i64 91])))):aR Tryz.prog dj false K (.call 69 avs a1 a2 dst rest (au ts os0)):=by
 subst hav;refine .bP false [] [] [enc p] _ rfl (x1 p) ⟨fun m x hx=>by simp[aj] at hx,fun m m' hm=>by simp[aw,aj] at hm⟩ ⟨.inl ⟨(kR _ _).symm,cJ _ _,ev _⟩,trivial⟩ ?_ ?_
 ·intro r os' hp;unfold mP at hp;rw[ho] at hp;obtain ⟨rfl,rfl⟩:=hp;exact ⟨fun m y hy=>by simp[aj] at hy,fun m m' hm=>by simp[aw,aj] at hm,fun m hm=>hm,fun m hm=>by simp[aw,aj] at hm,rfl,fun h=>by cases h⟩
 ·intro r os' hp;unfold mP at hp;rw[ho] at hp;obtain ⟨rfl,rfl⟩:=hp;exact h
theorem aR.tp{K:ai→Prop}{p:bo}{s:aB}{avs:List I}{a1 a2:Option (List I)}{dst:Option Nat}{rest:List aE}{ts:List (Nat×I)}{os0:List (Nat×aq)}(ho:cS p=some s)(hav:avs=[enc p])(hno:∀ m,2000≤m→aj os0 m=none)
  (h:aR Tryz.prog dj false K (az rest ((au ts (os0++dn s)).aT dst (.tuple [.ptr 2000 [],.int .i64 0])))):aR Tryz.prog dj false K (.call 69 avs a1 a2 dst rest (au ts os0)):=by
 subst hav;obtain ⟨hk,_,ah,ar,_⟩:=gf ho;refine .bP false [] [] [enc p] _ rfl (x1 p) ⟨fun m x hx=>by simp[aj] at hx,fun m m' hm=>by simp[aw,aj] at hm⟩ ⟨.inl ⟨(kR _ _).symm,cJ _ _,ev _⟩,trivial⟩ ?_ ?_
 ·intro r os' hp;unfold mP at hp;rw[ho] at hp;obtain ⟨rfl,rfl⟩:=hp;refine ⟨fun m y hy=>⟨(lu hk hy).1,(lu hk hy).2,fun h=>by cases h⟩,fun m m' _ _ h=>h,fun m hm=>by simp[aw,aj] at hm,fun m hm _ =>?_,?_,fun h=>by cases h⟩
  ·have:=xF hm;exact ⟨hno m this.1,by simp only[bI];omega⟩
  ·have:=(dL (iG s.all.length) (n:=2000)).2 (.inl (by omega));simp[I.only,I.ct,this]
 ·intro r os' hp;unfold mP at hp;rw[ho] at hp;obtain ⟨rfl,rfl⟩:=hp;rw[l4,Fp hno];exact h
theorem aR.Fq{K:ai→Prop}{s s2:aB}{b:Bool}{x:bg}{avs:List I}{a1 a2:Option (List I)}{dst:Option Nat}{rest:List aE}{ts:List (Nat×I)}{ow:List (Nat×aq)}(hk:cu s)(hlen:s.all.length≤300)(hav:avs=[.ptr 2000 [],enc x])(how:∀ m,2000≤m→aj ow m=none)(hst:ee s x=(s2,b))
  (h:aR Tryz.prog dj false K (az rest ((au ts (ow++dn s2)).aT dst (.bool b)))):aR Tryz.prog dj false K (.call 81 avs a1 a2 dst rest (au ts (ow++dn s))):=by
 refine aR.rN hk hlen hav how hst ?_;have hso:=rJ hk x;rw[hst] at hso;obtain ⟨k1,k2,k3,k4⟩:=hso;have e:au ts (dn s2++(ow++dn s))=au ts (ow++dn s2):=by
  rw[←Fp how];simp only[au,ai.mk.injEq,true_and]
  funext n
  rw[fN (dn s2) (ow++dn s),fN (dn s2) ow,fN ow (dn s)];cases J:aj (dn s2) n with
  |some y=>rfl
  |none =>
   simp only;have:aj (dn s) n=none:=by
    cases U:aj (dn s) n with
    |none=>rfl
    |some y =>
     exfalso
     have hin:aw (dn s) n=true:=by simp[aw,U]
     have:aw (dn s2) n=true:=by
      rcases (dL (iG _)).1 hin with h5 | ⟨i,hi,rfl⟩
      ·exact (dL (iG _)).2 (.inl h5)
      ·exact (dL (iG _)).2 (.inr ⟨i,Nat.lt_of_lt_of_le hi k3,rfl⟩)
     simp[aw,J] at this
   rw[this];cases aj ow n <;>rfl
 rw[e];exact h
theorem r0(p:bo)(r:dv):bf Tryz.prog 35 [enc p,enc r] (.tuple [enc (fF p r).1,enc (fF p r).2]):=by
 refine bf.b9 Tryz.func35 Ir Jq KC (u8 rfl) (fun hwf W0 bH E1 =>?_);simp only[y8,DQ,bN,Z1];clear hwf;simp only[fF];have how:∀ (a b c:aq) m,2000≤m→aj [(4,a),(3,b),(2,c)] m=none:=fun a b c m hm=>by simp only[aj];rw[if_neg (by omega),if_neg (by omega),if_neg (by omega)]
 have how2:∀ (a b c d e:aq) m,2000≤m→aj [(8,a),(8,b),(4,c),(3,d),(2,e)] m=none:=fun a b c d e m hm=>by simp only[aj];rw[if_neg (by omega),if_neg (by omega),if_neg (by omega),if_neg (by omega),if_neg (by omega)]
 cases ho:cS p with
 |none =>
  have R:=y6 @cD (y6 @bq (y6 @bS (y6 @bu (y6 @bp aH))))
  repeat' ((first |(with_reducible refine .guard (fun hb =>?_) (fun hb =>?_) <;>try simp only[hb])|refine ae.aJ (by decide +kernel) rfl fun K hK =>?_|refine aR.Xg ho rfl ?_|(refine .aA [0,1,2,3,4,5,6,7,8,14,19,44] hK ?_;clear hK K)|(with_reducible refine .done (hK _ ?_);clear hK K)|refine ae.of rfl ?_|(with_reducible refine aC.aI (fun h =>?_) (fun h =>?_) <;>try simp only[h])) <;>try simp only[aK,R,simprocAttr])
  all_goals clear R
  rfl
 |some s =>
  obtain ⟨hk,hme,ah,hjl,_⟩:=gf ho
  dsimp only
  have hR:=Gk r;have n8:aj (dn s) 8=none:=eH (.inl (by omega)) fun i _=>by simp only[bD];omega
  rcases q1:nU r
  ·rw[q1] at hR;simp only[true_or,if_true];have R:=y6 @n8 (y6 @cD (y6 @bq (y6 @bS (y6 @bu (y6 @bp aH)))))
   repeat' ((first |(with_reducible refine .guard (fun hb =>?_) (fun hb =>?_) <;>try simp only[hb])|refine ae.aJ (by decide +kernel) rfl fun K hK =>?_|refine aR.tp ho rfl (how _ _ _) ?_|refine .flat _ (hR) rfl ?_|(refine .aA [0,1,2,3,4,5,6,7,8,14,19,44] hK ?_;clear hK K)|(with_reducible refine .done (hK _ ?_);clear hK K)|refine ae.of rfl ?_|(with_reducible refine aC.aI (fun h =>?_) (fun h =>?_) <;>try simp only[h])) <;>try simp only[aK,R,Z9,simprocAttr])
   all_goals clear R
   rfl
  rw[q1] at hR;rcases q2:(r.to != p.av)
  case true =>
   have e:r.to≠p.av:=by simpa using q2
   simp only[Bool.true_eq_false,false_or,if_pos e];have R:=y6 @n8 (y6 @q2 (y6 @cD (y6 @bq (y6 @bS (y6 @bu (y6 @bp aH))))))
   repeat' ((first |(with_reducible refine .guard (fun hb =>?_) (fun hb =>?_) <;>try simp only[hb])|refine ae.aJ (by decide +kernel) rfl fun K hK =>?_|refine aR.tp ho rfl (how _ _ _) ?_|refine .flat _ (hR) rfl ?_|(refine .aA [0,1,2,3,4,5,6,7,8,14,19,44] hK ?_;clear hK K)|(with_reducible refine .done (hK _ ?_);clear hK K)|refine ae.of rfl ?_|(with_reducible refine aC.aI (fun h =>?_) (fun h =>?_) <;>try simp only[h])) <;>try simp only[aK,R,Z9,simprocAttr])
   all_goals clear R
   rfl
  have e:¬ r.to≠p.av:=by simpa using q2
  simp only[Bool.true_eq_false,false_or,if_neg e];have hKd:=Gx r.kind;have hst:∀ A rest b,dp A (some 4) 8 [] b (enc (gU r)) rest (some (.agg [.int .i64 0,.int .i64 0,.int .i64 0,.int .i64 0]))=az rest (A.aV 8 (.box (enc (gU r)))):=fun A rest b=>dP (ev _) (by rw[fq];rfl) (eQ _);have hbl:(dO [.int .i64 0,.int .i64 0,.int .i64 0,.int .i64 0] [(0,.int .i64 (ph r.kind)),(1,.int .i64 r.aD),(2,.int .i64 r.dc),(3,.int .i64 r.no)]).map I.agg=some (enc (gU r)):=uH _ _ _ _;cases ht:fh s (gU r) with
  |none =>
   have ab:ee s (gU r)=(s,false):=by simp[ee,ht]
   have R:=y6 @n8 (y6 @q2 (y6 @hst (y6 @hbl (y6 @cD (y6 @bq (y6 @bS (y6 @bu (y6 @bp aH))))))))
   repeat' ((first |(with_reducible refine .guard (fun hb =>?_) (fun hb =>?_) <;>try simp only[hb])|refine ae.aJ (by decide +kernel) rfl fun K hK =>?_|refine aR.tp ho rfl (how _ _ _) ?_|refine .flat _ (hR) rfl ?_|refine .flat _ (hKd) rfl ?_|refine aR.Fq (ow:=[(8,_),(8,_),(4,_),(3,_),(2,_)]) hk (by omega) rfl (how2 _ _ _ _ _) ab ?_|refine .lead _ (xX p (by omega)) ?_|(refine .aA [0,1,2,3,4,5,6,7,8,14,19,44] hK ?_;clear hK K)|(with_reducible refine .done (hK _ ?_);clear hK K)|refine ae.of rfl ?_|(with_reducible refine aC.aI (fun h =>?_) (fun h =>?_) <;>try simp only[h])) <;>try simp only[aK,R,Z9,simprocAttr])
   all_goals clear R
  |some s2 =>
   have ab:ee s (gU r)=(s2,true):=by simp[ee,ht]
   have hW:=pX p (gU r) hjl;have R:=y6 @n8 (y6 @q2 (y6 @hst (y6 @hbl (y6 @cD (y6 @bq (y6 @bS (y6 @bu (y6 @bp aH))))))))
   repeat' ((first |(with_reducible refine .guard (fun hb =>?_) (fun hb =>?_) <;>try simp only[hb])|refine ae.aJ (by decide +kernel) rfl fun K hK =>?_|refine aR.tp ho rfl (how _ _ _) ?_|refine .flat _ (hR) rfl ?_|refine .flat _ (hKd) rfl ?_|refine aR.Fq (ow:=[(8,_),(8,_),(4,_),(3,_),(2,_)]) hk (by omega) rfl (how2 _ _ _ _ _) ab ?_|refine .lead _ (hW) ?_|(refine .aA [0,1,2,3,4,5,6,7,8,14,19,44] hK ?_;clear hK K)|(with_reducible refine .done (hK _ ?_);clear hK K)|refine ae.of rfl ?_|(with_reducible refine aC.aI (fun h =>?_) (fun h =>?_) <;>try simp only[h])) <;>try simp only[aK,R,Z9,simprocAttr])
   all_goals clear R
end Go.Proofs.YthbdbocionnfgaaGreatDoor
