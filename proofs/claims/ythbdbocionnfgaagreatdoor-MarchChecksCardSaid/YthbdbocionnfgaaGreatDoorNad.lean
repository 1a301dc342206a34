/-
  A part of the proof that the law MarchChecks returns true for every input; three tables of Go's library start as the text lays them (the card ties them); conditions: none beyond the statement's own. (part 4 of 6)
-/
import Derived.SizedLaws
import Derived.WalkKit
import Derived.Tactics
import Derived.Tactics2
import Derived.RecoverIn
import Derived.Test.YthbdbocionnfgaaGreatDoorRows
import Derived.Test.YthbdbocionnfgaaGreatDoorCards
import Derived.Test.YthbdbocionnfgaaGreatDoorTie
import Derived.LaidMore
import Derived.MakeChecks
import Derived.Lib.LaidTab
import Derived.Lib.LaidU8
import Derived.Shelf.Sort.Plain
import Derived.Shelf.Slices.In.SortNone
import Derived.Test.YthbdbocionnfgaaGreatDoorNac
set_option linter.unusedSimpArgs false
set_option linter.unusedVariables false
set_option maxHeartbeats 16000000
set_option maxRecDepth 100000
namespace Go.Abs
open Go Go.RowKit Go.ChangeShapes
open Enc (enc)
def qj(P:Program)(t:TypeId)(l:List (TypeId×Nat)):Bool:=match P.underlying t with
 |some (.struct fs)=>fs.toList.map (fun f=>(f.type,f.offset))==l
 |_=>false
def Bo(P:Program)(t:TypeId)(n:Nat)(e:TypeId):Bool:=match P.underlying t with
 |some (.array n' e')=>n'==n&&e'==e
 |_=>false
theorem T9{P:Program}{t:TypeId}{n:Nat}{e:TypeId}(h:Bo P t n e=true):P.underlying t=some (.array n e):=by
 unfold Bo at h;split at h
 ·rename_i n' e' ht;simp only[t8,beq_iff_eq] at h;rw[ht,h.1,h.2]
 ·cases h
theorem Ud{P:Program}{t:TypeId}{l:List (TypeId×Nat)}(h:qj P t l=true):∃ fs,P.underlying t=some (.struct fs)∧fs.toList.map (fun f=>(f.type,f.offset))=l:=by
 unfold qj at h;split at h
 ·rename_i fs ht;exact ⟨fs,ht,by simpa using h⟩
 ·cases h
theorem Ey{H:Type}{enc0:TypeId×Value→H}{P:Program}{w:World}{fuel:Nat}{t:TypeId}{l:List (TypeId×Nat)}{cs:List Value}{x:DataW H×List MemPlace}(ht:qj P t l=true)(h:DataW.trod enc0 P w 0 (fun _=>true) true fuel t cs=some x) :
  cs.length=P.cellsOf t∧∃ m:Nat,∀ (i:Nat) (u:TypeId) (o:Nat),l[i]?=some (u,o)→∃ y,DataW.trod enc0 P w 0 (fun _=>true) true m u ((cs.drop o).take (P.cellsOf u))=some y:=by
 obtain ⟨fs,J,U⟩:=Ud ht;obtain ⟨xs,m,_,_,ah,ar,h5⟩:=DataW.trod_struct J h;refine ⟨ah,m,fun i u o hi =>?_⟩;rw[←U] at hi;simp only[Y9,t7,Prod.mk.injEq] at hi;obtain ⟨f,hf,rfl,rfl⟩:=hi;have hf':fs[i]?=some f:=by simpa using hf
 have h6:=h5 i f hf';have hlt:i<fs.size:=(Y0.1 hf').1;rw[Y2 (by omega)] at h6;exact ⟨_,h6⟩
section
variable {P:Program} {t:TypeId} {α β γ:Type} [Enc α] [Enc β] [Enc γ] {H:Type} {enc0:TypeId×Value→H} {w:World} {fuel:Nat} {cs:List Value} {x:DataW H×List MemPlace}
theorem VU{u0 u1 u2:TypeId}(ht:qj P t [(u0,0),(u1,Enc.sz α),(u2,Enc.sz α+Enc.sz β)]=true)(aW:iK P u0 α)(J:iK P u1 β)(U:iK P u2 γ)(hc:P.cellsOf t=Enc.sz α+Enc.sz β+Enc.sz γ)(h:DataW.trod enc0 P w 0 (fun _=>true) true fuel t cs=some x) :
  ∃ (a:α) (b:β) (c:γ),al w (kZ w) c9 (.agg [enc a,enc b,enc c]) cs:=by
 obtain ⟨ao,m,hf⟩:=Ey ht h;obtain ⟨y0,k0⟩:=hf 0 u0 0 rfl;obtain ⟨y1,k1⟩:=hf 1 u1 (Enc.sz α) rfl;obtain ⟨y2,k2⟩:=hf 2 u2 (Enc.sz α+Enc.sz β) rfl;obtain ⟨a,ha⟩:=aW.o8 k0;obtain ⟨b,hb⟩:=J.o8 k1;obtain ⟨c,hcc⟩:=U.o8 k2;rw[aW.cells,List.drop_zero] at ha;rw[J.cells] at hb;rw[U.cells,List.take_of_length_le (by rw[List.length_drop];omega)] at hcc;refine ⟨a,b,c,?_⟩;simp only[al,aM];refine ⟨_,_,(List.take_append_drop (Enc.sz α) cs).symm,ha,(cs.drop (Enc.sz α)).take (Enc.sz β),(cs.drop (Enc.sz α)).drop (Enc.sz β),(List.take_append_drop _ _).symm,hb,(cs.drop (Enc.sz α)).drop (Enc.sz β),[],by simp,?_,rfl⟩;rw[List.drop_drop];exact hcc
theorem wB{fe:Nat}{v:Value}{d:DataW H}{p:List MemPlace}(ho:iK P t α)(hA:Enc.gJ α=true)(hst:(match P.underlying t with | some (.struct _) | some (.array _ _)=>true | _=>false)=true)(hv:Value.okWide P w .any fe t v)
  (h:DataW.Trod enc0 P w 0 (fun _=>true) true t v d p):∃ (a:α) (cs:List Value),bu (enc a) v cs∧al w (kZ w) c9 (enc a) cs:=by
 obtain ⟨fuel,h⟩:=h;have hagg:∃ cs,v=.agg cs:=by
  unfold Value.okWide at hv;split at hst
  ·rename_i fs ht;rw[ht] at hv;obtain ⟨cs,J,_⟩:=hv;exact ⟨cs,J⟩
  ·rename_i n e ht;rw[ht] at hv;obtain ⟨cs,J,_⟩:=hv;exact ⟨cs,J⟩
  ·cases hst
 obtain ⟨cs,rfl⟩:=hagg;have e:(Value.agg cs).cells.toList=cs.toList:=rfl;rw[e] at h;obtain ⟨a,ha⟩:=ho.o8 h;exact ⟨a,cs.toList,by simp[bu,Enc.agg,hA],ha⟩
end
theorem V6{H:Type}{enc0:TypeId×Value→H}{P:Program}{f:Func}{s:ChangeSpec}{apart jW handsOn again:Bool}{W W':World}{args:Array Value}{v:Value}{ds gs:List (DataW H)}{before pa pv:List MemPlace}
  (hW:DataW.Whole enc0 P f.params.toList s.vars apart W args.toList ds gs before)
  (hres:∀ (b:Nat) (sp:Nat→Bool) (af:Bool),DataW.TrodAll enc0 P W' b sp af f.resultTypes.toList (v.resultList f.resultTypes.size) (s.fn H (ds++gs)).results [])
  (hargs:∀ sp:Nat→Bool,(∀ p∈before,sp p.block=true)→DataW.TrodAll enc0 P W' 0 sp true f.params.toList args.toList (s.fn H (ds++gs)).args pa)
  (hvars:∀ sp:Nat→Bool,(∀ p∈before,sp p.block=true)→DataW.TrodVars enc0 P W' sp s.vars (s.fn H (ds++gs)).vars pv)
  (hps:before=pa++pv) (hb:Below W.heap.size W W')
  (hok:∀ (j:Nat) (t:TypeId) (r:Value),f.resultTypes[j]?=some t→(v.resultList f.resultTypes.size)[j]?=some r→Value.okWide P W' .any 0 t r) :
  s.post enc0 P f apart jW handsOn again W args v W':=by
 have hlt:∀ p∈before,p.block<W.heap.size:=fun p hp=>by simpa using hW.lt p hp
 have hold:∀ p∈before,(fun b=>decide (b<W.heap.size)) p.block=true:=fun p hp=>by simpa using hlt p hp
 refine ⟨ds,gs,before,[],pa,pv,hW,hres _ _ _,hargs _ hold,hvars _ hold,World.keptBut_mono (fun p hp=>⟨hp,?_⟩) (hb.frame (· ∈ before)),fun _ =>?_⟩
 ·rw[hps,X5] at hp;exact Or.inr hp
 ·obtain ⟨_,_,_,_,_,hz,hn⟩:=hW;refine ⟨hok,_,_,([]++pa)++pv,⟨[]++pa,pv,trodAll_append (hargs _ (fun _ _=>rfl)) (hres _ _ _),hvars _ (fun _ _=>rfl),rfl,?_,?_⟩,?_⟩
  ·intro b off hp;have hp':MemPlace.cell b off∈before:=by rw[hps];simpa using hp
   rw[hb.frozen (p:=⟨b,off,none⟩) (hlt _ hp')];exact hz b off hp'
  ·intro ha;have:=hn ha;rw[hps] at this;simpa using this
  ·intro p hp _;rw[hps];simpa using hp
theorem Ur{P:Program}{f:FuncId}{fn:Func}{s:ChangeSpec}{H:Type}{enc0:TypeId×Value→H}{W:World}{ds gs:List (DataW H)}{before:List MemPlace}{xs:List I}{tb:TypeId}{v0 v1 v2:Value}{t0 t1 t2:TypeId}{d0 d1 d2:DataW H}{gA p1 p2:List MemPlace}{again handsOn jW:Bool}
  (ao:laidOutB P=true) (hpar:fn.params.toList=[t0,t1,t2]) (hds:ds=[d0,d1,d2]) (hgs:gs=[]) (hbef:before=gA++p1++p2)
  (hvars:s.vars=[]) (hfn:s.fn H [d0,d1,d2] = { results:=[.lit (.bool true)],args:=[d0,d1,d2] }) (hres:fn.resultTypes = #[tb]) (htb:P.underlying tb=some .bool)
  (hW:DataW.Whole enc0 P fn.params.toList s.vars false W #[v0,v1,v2].toList ds gs before)
  (aW:DataW.Trod enc0 P W 0 (fun _=>true) true t0 v0 d0 gA) (J:DataW.Trod enc0 P W 0 (fun _=>true) true t1 v1 d1 p1) (U:DataW.Trod enc0 P W 0 (fun _=>true) true t2 v2 d2 p2)
  (hr:∀ t∈[t0,t1,t2],P.readableRec t=true∧t<P.types.size)
  (hctr:bf P f xs (enc true)) (hlaid:gB P W (fun _=>False)) (hv:aE W (kZ W) c9 xs [v0,v1,v2]) :
  Calls P f #[v0,v1,v2] W fun e W'=>∃ v,e=.returned v∧s.post enc0 P fn false jW handsOn again W #[v0,v1,v2] v W':=by
 subst hds hgs;refine (hctr.2 W (kZ W) [v0,v1,v2] hlaid (fun _ _ h=>h) hv).mono fun e W' ⟨v,D',he,hrv,hb,_,_⟩=>⟨v,he,?_⟩
 have hvb:v=.bool true:=j8 hrv;subst hvb;have hlt:∀ x∈before,x.block<W.heap.size:=fun x hx=>by simpa using hW.lt x hx
 rw[hbef] at hlt;refine V6 (pa:=gA++(p1++p2)) (pv:=[]) hW (fun _ _ _ =>?_) (fun sp hsp =>?_) (fun _ _ =>?_) (by rw[hbef];simp) hb ?_
 ·simp only[List.append_nil,hfn,hres];exact trodAll_mk1 (shut_bool htb true)
 ·simp only[List.append_nil,hfn,hpar];rw[hbef] at hsp;have bd:∀ {t:TypeId} {v:Value} {d:DataW H} {p:List MemPlace},t∈[t0,t1,t2]→DataW.Trod enc0 P W 0 (fun _=>true) true t v d p→(∀ x∈p,x∈gA++p1++p2)→DataW.Trod enc0 P W' 0 sp true t v d p:=fun ht h hp =>
   WideElems.Trod_stays ao (hr _ ht).1 (hr _ ht).2 h (fun x hx=>hb.same (hlt x (hp x hx))) (fun x hx=>hsp x (hp x hx))
  exact trodAll_mk3 (bd (by simp) aW fun x hx=>by simp[hx]) (bd (by simp) J fun x hx=>by simp[hx]) (bd (by simp) U fun x hx=>by simp[hx])
 ·simp only[List.append_nil,hfn,hvars];rfl
 ·intro j t r hj hv';rw[hres] at hj hv'
  match j,hj,hv' with
  |0,hj,hv' =>
   simp[Value.resultList] at hj hv';subst hj;subst hv';simp[Value.okWide,htb,Cell.okWide,Cell.ok]
def xQ(P:Program)(u:TypeId)(n:Nat)(S:I→Prop):Prop:=P.cellsOf u=n ∧
 ∀ {H:Type} {enc0:TypeId×Value→H} {w:World} {fuel:Nat} {cs:List Value} {x:DataW H×List MemPlace},DataW.trod enc0 P w 0 (fun _=>true) true fuel u cs=some x→∃ v,S v∧al w (kZ w) c9 v cs
theorem iK.aS{P:Program}{u:TypeId}{α:Type}[Enc α](h:iK P u α):xQ P u (Enc.sz α) fun v=>∃ a:α,v=enc a :=
 ⟨h.cells,fun hx=>by obtain ⟨a,ha⟩:=h.o8 hx;exact ⟨enc a,⟨a,rfl⟩,ha⟩⟩
def o6(P:Program):Nat→List (TypeId×Nat)→List (Nat×(I→Prop))→Prop
 |_,[],[]=>True
 |o,(u,off)::l,(n,S)::Ss=>off=o∧xQ P u n S∧o6 P (o+n) l Ss
 |_,_,_=>False
def oi:List (Nat×(I→Prop))→List I→Prop
 | [],[]=>True
 |(_,S)::Ss,v::vs=>S v∧oi Ss vs
 |_,_=>False
theorem lb{n:Nat}{S:I→Prop}{Ss:List (Nat×(I→Prop))} : ∀ {vs:List I},oi ((n,S)::Ss) vs→∃ v vs',vs=v::vs'∧S v∧oi Ss vs'
 | [],h=>h.elim
 |v::vs,h=>⟨v,vs,rfl,h.1,h.2⟩
theorem xX:∀ {vs:List I},oi [] vs→vs=[]
 | [],_=>rfl
 |_::_,h=>h.elim
def rv:List (Nat×(I→Prop))→Nat
 | []=>0
 |(n,_)::Ss=>n+rv Ss
theorem As{P:Program}{H:Type}{enc0:TypeId×Value→H}{w:World}{m:Nat}{cs:List Value} : ∀ (l:List (TypeId×Nat)) (Ss:List (Nat×(I→Prop))) (o:Nat),o6 P o l Ss→cs.length=o+rv Ss →
  (∀ (i:Nat) (u:TypeId) (off:Nat),l[i]?=some (u,off)→∃ y,DataW.trod enc0 P w 0 (fun _=>true) true m u ((cs.drop off).take (P.cellsOf u))=some y)→∃ vs,oi Ss vs∧aM w (kZ w) c9 vs (cs.drop o)
 | [],[],o,_,ao,_=>⟨[],trivial,by simp only[aM];exact List.drop_eq_nil_of_le (by simp only[rv] at ao;omega)⟩
 |(u,off)::l,(n,S)::Ss,o,h,ao,hf=>by
  obtain ⟨rfl,U,ah⟩:=h;obtain ⟨y,hy⟩:=hf 0 u off rfl;obtain ⟨v,hv1,hv2⟩:=U.2 hy;obtain ⟨vs,k1,k2⟩:=As l Ss (off+n) ah (by simp only[rv] at ao;omega) fun i u' o' hi=>hf (i+1) u' o' hi;refine ⟨v::vs,⟨hv1,k1⟩,?_⟩;simp only[aM];rw[U.1] at hv2;exact ⟨_,(cs.drop off).drop n,(List.take_append_drop n _).symm,hv2,by rw[List.drop_drop];exact k2⟩
 | [],_::_,_,h,_,_=>h.elim
 |_::_,[],_,h,_,_=>by simp[o6] at h
theorem Cq{P:Program}{t:TypeId}{H:Type}{enc0:TypeId×Value→H}{w:World}{fuel:Nat}{cs:List Value}{x:DataW H×List MemPlace}(l:List (TypeId×Nat))(Ss:List (Nat×(I→Prop)))(ht:qj P t l=true)(hok:o6 P 0 l Ss)(hc:P.cellsOf t=rv Ss)(h:DataW.trod enc0 P w 0 (fun _=>true) true fuel t cs=some x) :
  ∃ vs,oi Ss vs∧al w (kZ w) c9 (.agg vs) cs:=by
 obtain ⟨ao,m,hf⟩:=Ey ht h;obtain ⟨vs,k1,k2⟩:=As l Ss 0 hok (by rw[ao,hc];omega) hf;exact ⟨vs,k1,by simpa only[al,List.drop_zero] using k2⟩
end Go.Abs
namespace Go.Proofs.YthbdbocionnfgaaGreatDoor
open Go Go.Abs
open Go.Abs.Enc (enc)
structure bg where
 kind:Int
 aH:Int
 other:Int
 no:Int
 deriving DecidableEq,Inhabited
instance:Enc bg where
 enc g:=.agg [.int .i64 g.kind,.int .i64 g.aH,.int .i64 g.other,.int .i64 g.no]
 sz:=4
 aX:=.eD [.one,.one,.one,.one]
 gJ:=true
 done g:=by simp only[I.done,I.hs,Bool.and_self]
 size g:=by simp only[I.size,I.sizes]
 iE g:=by simp only[I.aX,I.cT]
 agg _:=rfl
structure dE where
 kind:Int
 cZ:Int
 to:Int
 aH:Int
 no:Int
 deriving DecidableEq,Inhabited
instance:Enc dE where
 enc g:=.agg [.int .i64 g.kind,.int .i64 g.cZ,.int .i64 g.to,.int .i64 g.aH,.int .i64 g.no]
 sz:=5
 aX:=.eD [.one,.one,.one,.one,.one]
 gJ:=true
 done g:=by simp only[I.done,I.hs,Bool.and_self]
 size g:=by simp only[I.size,I.sizes]
 iE g:=by simp only[I.aX,I.cT]
 agg _:=rfl
structure da where
 no:Int
 to:Int
 aH:Int
 dp:Bool
 deriving DecidableEq,Inhabited
instance:Enc da where
 enc g:=.agg [.int .i64 g.no,.int .i64 g.to,.int .i64 g.aH,.bool g.dp]
 sz:=4
 aX:=.eD [.one,.one,.one,.one]
 gJ:=true
 done g:=by simp only[I.done,I.hs,Bool.and_self]
 size g:=by simp only[I.size,I.sizes]
 iE g:=by simp only[I.aX,I.cT]
 agg _:=rfl
theorem jG{fs:List I}{f off:Nat}{v:I}(J:f<fs.length)(h:I.sizes (fs.take f)=off):dq fs f off v=some v:=by simp[dq,h,J]
theorem EK :
  (∀ g:bg,(enc g).dI=some [.int .i64 g.kind,.int .i64 g.aH,.int .i64 g.other,.int .i64 g.no])∧(∀ g:dE,(enc g).dI=some [.int .i64 g.kind,.int .i64 g.cZ,.int .i64 g.to,.int .i64 g.aH,.int .i64 g.no]) ∧
  (∀ g:da,(enc g).dI=some [.int .i64 g.no,.int .i64 g.to,.int .i64 g.aH,.bool g.dp]) ∧
  (∀ (a b c d:I) v,(a.size=1∧b.size=1∧c.size=1)→dq [a,b,c,d] 0 0 v=some v) ∧
  (∀ (g:bg),b5 (some 4) (enc g)=true)∧(∀ (g:dE),b5 (some 5) (enc g)=true)∧(∀ (g:da),b5 (some 4) (enc g)=true) ∧
  (∀ (fs:List I) x,(x::fs)[0]?=some x)∧(∀ (fs:List I) x n,(x::fs)[n+1]?=fs[n]?)∧(∀ (fs:List I) x,(x::fs)[1]?=fs[0]?)∧(∀ (fs:List I) x,(x::fs)[2]?=fs[1]?)∧(∀ (fs:List I) x,(x::fs)[3]?=fs[2]?)∧(∀ (fs:List I) x,(x::fs)[4]?=fs[3]?) :=
 ⟨fun _=>rfl,fun _=>rfl,fun _=>rfl,fun a b c d v h=>jG (by simp) (by simp[I.sizes]),fun _=>by rw[fg];rfl,fun _=>by rw[fg];rfl,fun _=>by rw[fg];rfl,fun _ _=>rfl,fun _ _ _=>rfl,fun _ _=>rfl,fun _ _=>rfl,fun _ _=>rfl,fun _ _=>rfl⟩
theorem Ce:(∀ (a b c d:Int) v,dq [.int .i64 a,.int .i64 b,.int .i64 c,.int .i64 d] 0 0 v=some v)∧(∀ (a b c d:Int) v,dq [.int .i64 a,.int .i64 b,.int .i64 c,.int .i64 d] 1 1 v=some v)∧(∀ (a b c d:Int) v,dq [.int .i64 a,.int .i64 b,.int .i64 c,.int .i64 d] 2 2 v=some v)∧(∀ (a b c d:Int) v,dq [.int .i64 a,.int .i64 b,.int .i64 c,.int .i64 d] 3 3 v=some v) ∧
  (∀ (a b c d e:Int) v,dq [.int .i64 a,.int .i64 b,.int .i64 c,.int .i64 d,.int .i64 e] 0 0 v=some v)∧(∀ (a b c d e:Int) v,dq [.int .i64 a,.int .i64 b,.int .i64 c,.int .i64 d,.int .i64 e] 1 1 v=some v)∧(∀ (a b c d e:Int) v,dq [.int .i64 a,.int .i64 b,.int .i64 c,.int .i64 d,.int .i64 e] 2 2 v=some v)∧(∀ (a b c d e:Int) v,dq [.int .i64 a,.int .i64 b,.int .i64 c,.int .i64 d,.int .i64 e] 3 3 v=some v)∧(∀ (a b c d e:Int) v,dq [.int .i64 a,.int .i64 b,.int .i64 c,.int .i64 d,.int .i64 e] 4 4 v=some v) ∧
  (∀ (a b c:Int) (d:Bool) v,dq [.int .i64 a,.int .i64 b,.int .i64 c,.bool d] 0 0 v=some v)∧(∀ (a b c:Int) (d:Bool) v,dq [.int .i64 a,.int .i64 b,.int .i64 c,.bool d] 1 1 v=some v)∧(∀ (a b c:Int) (d:Bool) v,dq [.int .i64 a,.int .i64 b,.int .i64 c,.bool d] 2 2 v=some v)∧(∀ (a b c:Int) (d:Bool) v,dq [.int .i64 a,.int .i64 b,.int .i64 c,.bool d] 3 3 v=some v) :=
 ⟨fun _ _ _ _ _=>rfl,fun _ _ _ _ _=>rfl,fun _ _ _ _ _=>rfl,fun _ _ _ _ _=>rfl,fun _ _ _ _ _ _=>rfl,fun _ _ _ _ _ _=>rfl,fun _ _ _ _ _ _=>rfl,fun _ _ _ _ _ _=>rfl,fun _ _ _ _ _ _=>rfl,fun _ _ _ _ _=>rfl,fun _ _ _ _ _=>rfl,fun _ _ _ _ _=>rfl,fun _ _ _ _ _=>rfl⟩
theorem aG:(type_of% @EK)∧(type_of% @Ce)∧(∀ {α:Type} [Enc α] (aN:Bool) (A:ai) (x:α),bh aN A (enc x)=some (enc x))∧(∀ {α:Type} [Enc α] (x:α),(enc x).bS=true)∧(type_of% @mq)∧(type_of% @BV)∧(type_of% @zU)∧(type_of% @kb)∧(type_of% @bE) :=
 ⟨EK,Ce,@ln,@ep,mq,BV,zU,kb,bE⟩
def dz(lo hi n:Int):Bool:=decide (lo≤n)&&decide (n≤hi)
theorem oc(n lo hi:Int):bf Tryz.prog 105 [enc n,enc lo,enc hi] (enc (dz lo hi n)):=by
 refine bf.b7 Tryz.func105 Hj Ih Jo (u8 rfl) (fun hwf W0 bI E1 =>?_);simp only[yj,CK,bK,Z1,Nat.reduceAdd];have R:=y6 @kb @bE
 repeat' ((first |(with_reducible refine .guard (fun hb =>?_) (fun hb =>?_) <;>try simp only[hb])|refine ae.aJ (by decide +kernel) rfl fun K hK =>?_|(refine .aA [0,1,2,6] hK ?_;clear hK K)|(with_reducible refine .done (hK _ ?_);clear hK K)|refine ae.of rfl ?_|(with_reducible refine aD.aI (fun h =>?_) (fun h =>?_) <;>try simp only[h])) <;>try simp only[aK,R,simprocAttr])
 all_goals clear R
 all_goals (simp at *;simp_all[dz])
 all_goals omega
theorem l5(n:Int):bf Tryz.prog 61 [enc n] (enc (dz 0 5 n)):=by
 refine bf.b7 Tryz.func61 HO IP J2 (u8 rfl) (fun hwf W0 bI E1 =>?_);simp only[yS,Dq,bK];have R:=y6 @kb @bE
 repeat' ((first |refine ae.aJ (by decide +kernel) rfl fun K hK =>?_|refine .flat _ (oc n 0 5) rfl ?_|(refine .aA [0,2] hK ?_;clear hK K)|(with_reducible refine .done (hK _ ?_);clear hK K)|refine ae.of rfl ?_|(with_reducible refine aD.aI (fun h =>?_) (fun h =>?_) <;>try simp only[h])) <;>try simp only[aK,R,simprocAttr])
 all_goals clear R
theorem pF(n:Int):bf Tryz.prog 71 [enc n] (enc (dz 1 9999 n)):=by
 refine bf.b7 Tryz.func71 HW IY Ka (u8 rfl) (fun hwf W0 bI E1 =>?_);simp only[y5,Dz,bK];have R:=y6 @kb @bE
 repeat' ((first |refine ae.aJ (by decide +kernel) rfl fun K hK =>?_|refine .flat _ (oc n 1 9999) rfl ?_|(refine .aA [0,2] hK ?_;clear hK K)|(with_reducible refine .done (hK _ ?_);clear hK K)|refine ae.of rfl ?_|(with_reducible refine aD.aI (fun h =>?_) (fun h =>?_) <;>try simp only[h])) <;>try simp only[aK,R,simprocAttr])
 all_goals clear R
theorem xM(n:Int):bf Tryz.prog 90 [enc n] (enc (dz 1 200 n)):=by
 refine bf.b7 Tryz.func90 H7 I7 Kk (u8 rfl) (fun hwf W0 bI E1 =>?_);simp only[zf,DJ,bK];have R:=y6 @kb @bE
 repeat' ((first |refine ae.aJ (by decide +kernel) rfl fun K hK =>?_|refine .flat _ (oc n 1 200) rfl ?_|(refine .aA [0,2] hK ?_;clear hK K)|(with_reducible refine .done (hK _ ?_);clear hK K)|refine ae.of rfl ?_|(with_reducible refine aD.aI (fun h =>?_) (fun h =>?_) <;>try simp only[h])) <;>try simp only[aK,R,simprocAttr])
 all_goals clear R
theorem od(n lo hi:Int):bf Tryz.prog 68 [enc n,enc lo,enc hi] (enc (dz lo hi n)):=by
 refine bf.b7 Tryz.func68 HU IW J8 (u8 rfl) (fun hwf W0 bI E1 =>?_);simp only[yY,Dw,bK,Z1,Nat.reduceAdd];have R:=y6 @kb @bE
 repeat' ((first |(with_reducible refine .guard (fun hb =>?_) (fun hb =>?_) <;>try simp only[hb])|refine ae.aJ (by decide +kernel) rfl fun K hK =>?_|(refine .aA [0,1,2,6] hK ?_;clear hK K)|(with_reducible refine .done (hK _ ?_);clear hK K)|refine ae.of rfl ?_|(with_reducible refine aD.aI (fun h =>?_) (fun h =>?_) <;>try simp only[h])) <;>try simp only[aK,R,simprocAttr])
 all_goals clear R
 all_goals (simp at *;simp_all[dz])
 all_goals omega
theorem pD(n:Int):bf Tryz.prog 64 [enc n] (enc (dz 0 5 n)):=by
 refine bf.b7 Tryz.func64 HQ IS J4 (u8 rfl) (fun hwf W0 bI E1 =>?_);simp only[yU,Ds,bK];have R:=y6 @kb @bE
 repeat' ((first |refine ae.aJ (by decide +kernel) rfl fun K hK =>?_|refine .flat _ (od n 0 5) rfl ?_|(refine .aA [0,2] hK ?_;clear hK K)|(with_reducible refine .done (hK _ ?_);clear hK K)|refine ae.of rfl ?_|(with_reducible refine aD.aI (fun h =>?_) (fun h =>?_) <;>try simp only[h])) <;>try simp only[aK,R,simprocAttr])
 all_goals clear R
theorem xH(n:Int):bf Tryz.prog 67 [enc n] (enc (dz 1 9999 n)):=by
 refine bf.b7 Tryz.func67 HT IV J7 (u8 rfl) (fun hwf W0 bI E1 =>?_);simp only[yX,Dv,bK];have R:=y6 @kb @bE
 repeat' ((first |refine ae.aJ (by decide +kernel) rfl fun K hK =>?_|refine .flat _ (od n 1 9999) rfl ?_|(refine .aA [0,2] hK ?_;clear hK K)|(with_reducible refine .done (hK _ ?_);clear hK K)|refine ae.of rfl ?_|(with_reducible refine aD.aI (fun h =>?_) (fun h =>?_) <;>try simp only[h])) <;>try simp only[aK,R,simprocAttr])
 all_goals clear R
def gz(x:bg):Bool :=
 if x.kind=1∨x.kind=2 then dz 1 9999 x.aH&&(x.other==0&&x.no==0)
 else if 3≤x.kind∧x.kind≤8 then dz 1 9999 x.aH&&(dz 0 5 x.other&&dz 1 200 x.no)
 else false
theorem xG(x:bg):bf Tryz.prog 66 [enc x] (enc (gz x)):=by
 refine bf.b7 Tryz.func66 HS IU J6 (u8 rfl) (fun hwf W0 bI E1 =>?_);simp only[yW,Du,bK];have R:=aG
 repeat' ((first |(with_reducible refine .guard (fun hb =>?_) (fun hb =>?_) <;>try simp only[hb])|refine ae.aJ (by decide +kernel) rfl fun K hK =>?_|refine .flat _ (pF x.aH) rfl ?_|refine .flat _ (l5 x.other) rfl ?_|refine .flat _ (xM x.no) rfl ?_|(refine .aA [0,1,2,4,5,21] hK ?_;clear hK K)|(with_reducible refine .done (hK _ ?_);clear hK K)|refine ae.of rfl ?_|(with_reducible refine aD.aI (fun h =>?_) (fun h =>?_) <;>try simp only[h])) <;>try simp only[aK,R,simprocAttr])
 all_goals clear R
 all_goals (simp_all[gz])
 all_goals (intros;exfalso;omega)
theorem Fo(x:bg):bf Tryz.prog 21 [enc x] (enc (if gz x then (0:Int) else 1)):=by
 refine bf.b7 Tryz.func21 Hy Iz JN (u8 rfl) (fun hwf W0 bI E1 =>?_);simp only[yE,C9,bK];have R:=aG
 repeat' ((first |refine ae.aJ (by decide +kernel) rfl fun K hK =>?_|refine .flat _ (xG x) rfl ?_|(refine .aA [0,1,2,5] hK ?_;clear hK K)|(with_reducible refine .done (hK _ ?_);clear hK K)|refine ae.of rfl ?_|(with_reducible refine aD.aI (fun h =>?_) (fun h =>?_) <;>try simp only[h])) <;>try simp only[aK,R,simprocAttr])
 all_goals clear R
 all_goals (simp_all)
theorem xD(x:bg):bf Tryz.prog 22 [enc x] (enc (if gz x then (0:Int) else 1)):=by
 refine bf.b7 Tryz.func22 Hz IA JO (u8 rfl) (fun hwf W0 bI E1 =>?_);simp only[yF,Da,bK];have R:=aG
 repeat' ((first |(with_reducible refine .guard (fun hb =>?_) (fun hb =>?_) <;>try simp only[hb])|refine ae.aJ (by decide +kernel) rfl fun K hK =>?_|refine .flat _ (xH x.aH) rfl ?_|refine .flat _ (pD x.other) rfl ?_|refine .flat _ (od x.no 1 200) rfl ?_|(refine .aA [0,1,2,4,5,20,21,40] hK ?_;clear hK K)|(with_reducible refine .done (hK _ ?_);clear hK K)|refine ae.of rfl ?_|(with_reducible refine aD.aI (fun h =>?_) (fun h =>?_) <;>try simp only[h])) <;>try simp only[aK,R,simprocAttr])
 all_goals clear R
 all_goals (simp_all[gz])
 all_goals (intros;exfalso;omega)
def nC(r:dE):Bool:=dz 1 4 r.kind&&(dz 0 5 r.cZ&&(dz 0 5 r.to&&((r.cZ != r.to)&&(dz 1 9999 r.aH&&dz 1 200 r.no))))
theorem xJ(r:dE):bf Tryz.prog 70 [enc r] (enc (nC r)):=by
 refine bf.b7 Tryz.func70 HV IX J9 (u8 rfl) (fun hwf W0 bI E1 =>?_);simp only[yZ,Dy,bK];have R:=aG
 repeat' ((first |(with_reducible refine .guard (fun hb =>?_) (fun hb =>?_) <;>try simp only[hb])|refine ae.aJ (by decide +kernel) rfl fun K hK =>?_|refine .flat _ (oc r.kind 1 4) rfl ?_|refine .flat _ (l5 r.cZ) rfl ?_|refine .flat _ (l5 r.to) rfl ?_|refine .flat _ (pF r.aH) rfl ?_|refine .flat _ (xM r.no) rfl ?_|(refine .aA [0,1,2] hK ?_;clear hK K)|(with_reducible refine .done (hK _ ?_);clear hK K)|refine ae.of rfl ?_|(with_reducible refine aD.aI (fun h =>?_) (fun h =>?_) <;>try simp only[h])) <;>try simp only[aK,R,simprocAttr])
 all_goals clear R
 all_goals (simp_all[nC])
theorem Fq(r:dE):bf Tryz.prog 25 [enc r] (enc (if nC r then (0:Int) else 95)):=by
 refine bf.b7 Tryz.func25 HC ID JR (u8 rfl) (fun hwf W0 bI E1 =>?_);simp only[yI,Dd,bK];have R:=aG
 repeat' ((first |refine ae.aJ (by decide +kernel) rfl fun K hK =>?_|refine .flat _ (xJ r) rfl ?_|(refine .aA [0,1,2,5] hK ?_;clear hK K)|(with_reducible refine .done (hK _ ?_);clear hK K)|refine ae.of rfl ?_|(with_reducible refine aD.aI (fun h =>?_) (fun h =>?_) <;>try simp only[h])) <;>try simp only[aK,R,simprocAttr])
 all_goals clear R
 all_goals (simp_all)
theorem Fs(r:dE):bf Tryz.prog 26 [enc r] (enc (if nC r then (0:Int) else 95)):=by
 refine bf.b7 Tryz.func26 HD IE JS (u8 rfl) (fun hwf W0 bI E1 =>?_);simp only[yJ,De,bK];have R:=aG
 repeat' ((first |(with_reducible refine .guard (fun hb =>?_) (fun hb =>?_) <;>try simp only[hb])|refine ae.aJ (by decide +kernel) rfl fun K hK =>?_|refine .flat _ (pD r.cZ) rfl ?_|refine .flat _ (pD r.to) rfl ?_|refine .flat _ (xH r.aH) rfl ?_|refine .flat _ (od r.no 1 200) rfl ?_|refine .flat _ (od r.kind 1 4) rfl ?_|(refine .aA [0,1,2,37] hK ?_;clear hK K)|(with_reducible refine .done (hK _ ?_);clear hK K)|refine ae.of rfl ?_|(with_reducible refine aD.aI (fun h =>?_) (fun h =>?_) <;>try simp only[h])) <;>try simp only[aK,R,simprocAttr])
 all_goals clear R
 all_goals (simp_all[nC])
theorem gO{i n:Nat}(h:i<n):decide ((i:Int)<(n:Int))=true:=by simp;omega
theorem gW{i n:Nat}(h:¬ i<n):decide ((i:Int)<(n:Int))=false:=by simp;omega
theorem gR{i:Nat}(h:i<9223372036854775807):IntKind.i64.wrap ((i:Int)+1)=((i+1:Nat):Int):=by rw[l3 _ (by omega) (by omega)];rfl
theorem FZ(x y:bg):x=y↔x.kind=y.kind∧x.aH=y.aH∧x.other=y.other∧x.no=y.no:=by cases x;cases y;simp
theorem F2(x y:dE):x=y↔x.kind=y.kind∧x.cZ=y.cZ∧x.to=y.to∧x.aH=y.aH∧x.no=y.no:=by cases x;cases y;simp
theorem F4(x y:da):x=y↔x.no=y.no∧x.to=y.to∧x.aH=y.aH∧x.dp=y.dp:=by cases x;cases y;simp
theorem Lr(x y:bg):bX (.bd [.i .i64,.i .i64,.i .i64,.i .i64]) (enc x) (enc y)=some (decide (x=y)):=by
 show bX (.bd [.i .i64,.i .i64,.i .i64,.i .i64]) (.agg [.int .i64 x.kind,.int .i64 x.aH,.int .i64 x.other,.int .i64 x.no]) (.agg [.int .i64 y.kind,.int .i64 y.aH,.int .i64 y.other,.int .i64 y.no])=_
 simp[bX,gV,iM,FZ];rfl
theorem Ag(x y:dE):bX (.bd [.i .i64,.i .i64,.i .i64,.i .i64,.i .i64]) (enc x) (enc y)=some (decide (x=y)):=by
 show bX (.bd [.i .i64,.i .i64,.i .i64,.i .i64,.i .i64]) (.agg [.int .i64 x.kind,.int .i64 x.cZ,.int .i64 x.to,.int .i64 x.aH,.int .i64 x.no]) (.agg [.int .i64 y.kind,.int .i64 y.cZ,.int .i64 y.to,.int .i64 y.aH,.int .i64 y.no])=_
 simp[bX,gV,iM,F2];rfl
theorem Ls(x y:da):bX (.bd [.i .i64,.i .i64,.i .i64,.b]) (enc x) (enc y)=some (decide (x=y)):=by
 show bX (.bd [.i .i64,.i .i64,.i .i64,.b]) (.agg [.int .i64 x.no,.int .i64 x.to,.int .i64 x.aH,.bool x.dp]) (.agg [.int .i64 y.no,.int .i64 y.to,.int .i64 y.aH,.bool y.dp])=_
 simp[bX,gV,iM,F4];rfl
theorem UU(x y:Int):(x != y) = !decide (x=y):=by by_cases h:x=y <;>simp[h]
theorem Fx(a b:List Int):bf Tryz.prog 41 [enc a,enc b] (enc (decide (a=b))):=by
 refine bf.b7 Tryz.func41 HK IK JY (u8 rfl) (fun hwf W0 bI E1 =>?_);simp only[yO,Dl,bK,Z1];have hlen:a.length≤maxLen:=((mS a).1 hwf.1).1;simp only[maxLen] at hlen;clear hwf;by_cases ao:a.length=b.length
 case neg =>
  have hn:((a.length:Int) != (b.length:Int))=true:=by simp;omega
  have R:=y6 @hn aG
  repeat' ((first |refine ae.aJ (by decide +kernel) rfl fun K hK =>?_|(refine .aA [0,1,4,5,10,12,13,14,24] hK ?_;clear hK K)|(with_reducible refine .done (hK _ ?_);clear hK K)|refine ae.of rfl ?_|(with_reducible refine aD.aI (fun h =>?_) (fun h =>?_) <;>try simp only[h])) <;>try simp only[aK,R,simprocAttr])
  all_goals clear R
  have:¬ a=b:=fun e=>ao (by rw[e]);simp[this]
 have hn:((a.length:Int) != (b.length:Int))=false:=by simp;omega
 have R:=y6 @hn aG
 repeat' ((first |refine ae.aJ (by decide +kernel) rfl fun K hK =>?_|(refine .aA [0,1,4,5,10,12,13,14,24] hK ?_;clear hK K)|(with_reducible refine .done (hK _ ?_);clear hK K)|refine ae.of rfl ?_|(with_reducible refine aD.aI (fun h =>?_) (fun h =>?_) <;>try simp only[h])) <;>try simp only[aK,R,simprocAttr])
 all_goals clear R
 refine ae.loop (fun i:Nat=>au [(0,enc a),(1,enc b),(12,.int .i64 a.length),(13,.int .i64 i)] []) (fun i=>i≤a.length∧∀ k,k<i→a[k]?=b[k]?) (fun i=>a.length-i) 0 ⟨zz5 _,fun k h=>by omega⟩ ?_ (fun i hi =>?_)
 ·refine bC.dT ?_ ?_ ?_ ?_ <;>simp[cF,dB,cS,cV,cD,I.only,cI]
 obtain ⟨hi1,hi2⟩:=hi;by_cases hlt:i<a.length
 ·have hc:=gO hlt;have he:=fun A=>fi (A:=A) 1 hlt rfl;have hlt2:i<b.length:=by omega
  have he2:=fun A=>fi (A:=A) 1 hlt2 rfl;have hw:=gR (i:=i) (by omega);have hq:=UU a[i] b[i];rcases hp:decide (a[i]=b[i])
  ·rw[hp] at hq;have R:=y6 @hc (y6 @he (y6 @he2 (y6 @hq aG)))
   repeat' ((first |refine ae.aJ (by decide +kernel) rfl fun K hK =>?_|(refine .aA [0,1,4,5,10,12,13,14,24] hK ?_;clear hK K)|(with_reducible refine .done (hK _ ?_);clear hK K)|refine ae.of rfl ?_|(with_reducible refine aD.aI (fun h =>?_) (fun h =>?_) <;>try simp only[h])) <;>try simp only[aK,R,simprocAttr])
   all_goals clear R
   have:¬ a=b:=fun e=>by subst e;simp at hp
   simp[this]
  ·rw[hp] at hq;have R:=y6 @hc (y6 @he (y6 @he2 (y6 @hq (y6 @hw aG))))
   repeat' ((first |refine ae.aJ (by decide +kernel) rfl fun K hK =>?_|(refine .aA [0,1,4,5,10,12,13,14,24] hK ?_;clear hK K)|(with_reducible refine .done (hK _ ?_);clear hK K)|refine ae.of rfl ?_|(with_reducible refine aD.aI (fun h =>?_) (fun h =>?_) <;>try simp only[h])) <;>try simp only[aK,R,simprocAttr])
   all_goals clear R
   refine ⟨i+1,⟨by omega,fun k hk =>?_⟩,by omega,?_⟩
   ·by_cases e:k=i
    ·subst e;have:a[k]=b[k]:=by simpa using hp
     simp[hlt,hlt2,this]
    ·exact hi2 k (by omega)
   ·refine bC.dT ?_ ?_ ?_ ?_ <;>simp[cF,dB,cS,cV,cD,I.only,cI]
 ·have hc:=gW hlt;have R:=y6 @hc aG
  repeat' ((first |refine ae.aJ (by decide +kernel) rfl fun K hK =>?_|(refine .aA [0,1,4,5,10,12,13,14,24] hK ?_;clear hK K)|(with_reducible refine .done (hK _ ?_);clear hK K)|refine ae.of rfl ?_|(with_reducible refine aD.aI (fun h =>?_) (fun h =>?_) <;>try simp only[h])) <;>try simp only[aK,R,simprocAttr])
  all_goals clear R
  have:a=b:=List.ext_getElem? fun k=>by
   by_cases hk:k<i
   ·exact hi2 k hk
   ·rw[zz3 (by omega),zz3 (by omega)]
  simp[this]
theorem Fz(a b:List bg):bf Tryz.prog 52 [enc a,enc b] (enc (decide (a=b))):=by
 refine bf.b7 Tryz.func52 HM IM J0 (u8 rfl) (fun hwf W0 bI E1 =>?_);simp only[yQ,Dn,bK,Z1];have hlen:a.length≤maxLen:=((mS a).1 hwf.1).1;simp only[maxLen] at hlen;clear hwf;by_cases ao:a.length=b.length
 case neg =>
  have hn:((a.length:Int) != (b.length:Int))=true:=by simp;omega
  have R:=y6 @hn aG
  repeat' ((first |refine ae.aJ (by decide +kernel) rfl fun K hK =>?_|(refine .aA [0,1,4,5,10,12,13,14,24] hK ?_;clear hK K)|(with_reducible refine .done (hK _ ?_);clear hK K)|refine ae.of rfl ?_|(with_reducible refine aD.aI (fun h =>?_) (fun h =>?_) <;>try simp only[h])) <;>try simp only[aK,R,simprocAttr])
  all_goals clear R
  have:¬ a=b:=fun e=>ao (by rw[e]);simp[this]
 have hn:((a.length:Int) != (b.length:Int))=false:=by simp;omega
 have R:=y6 @hn aG
 repeat' ((first |refine ae.aJ (by decide +kernel) rfl fun K hK =>?_|(refine .aA [0,1,4,5,10,12,13,14,24] hK ?_;clear hK K)|(with_reducible refine .done (hK _ ?_);clear hK K)|refine ae.of rfl ?_|(with_reducible refine aD.aI (fun h =>?_) (fun h =>?_) <;>try simp only[h])) <;>try simp only[aK,R,simprocAttr])
 all_goals clear R
 refine ae.loop (fun i:Nat=>au [(0,enc a),(1,enc b),(12,.int .i64 a.length),(13,.int .i64 i)] []) (fun i=>i≤a.length∧∀ k,k<i→a[k]?=b[k]?) (fun i=>a.length-i) 0 ⟨zz5 _,fun k h=>by omega⟩ ?_ (fun i hi =>?_)
 ·refine bC.dT ?_ ?_ ?_ ?_ <;>simp[cF,dB,cS,cV,cD,I.only,cI]
 obtain ⟨hi1,hi2⟩:=hi;by_cases hlt:i<a.length
 ·have hc:=gO hlt;have he:=fun A=>fi (A:=A) 4 hlt rfl;have hlt2:i<b.length:=by omega
  have he2:=fun A=>fi (A:=A) 4 hlt2 rfl;have hw:=gR (i:=i) (by omega);have hq:=Lr a[i] b[i];rcases hp:decide (a[i]=b[i])
  ·rw[hp] at hq;have R:=y6 @hc (y6 @he (y6 @he2 (y6 @hq aG)))
   repeat' ((first |refine ae.aJ (by decide +kernel) rfl fun K hK =>?_|(refine .aA [0,1,4,5,10,12,13,14,24] hK ?_;clear hK K)|(with_reducible refine .done (hK _ ?_);clear hK K)|refine ae.of rfl ?_|(with_reducible refine aD.aI (fun h =>?_) (fun h =>?_) <;>try simp only[h])) <;>try simp only[aK,R,simprocAttr])
   all_goals clear R
   have:¬ a=b:=fun e=>by subst e;simp at hp
   simp[this]
  ·rw[hp] at hq;have R:=y6 @hc (y6 @he (y6 @he2 (y6 @hq (y6 @hw aG))))
   repeat' ((first |refine ae.aJ (by decide +kernel) rfl fun K hK =>?_|(refine .aA [0,1,4,5,10,12,13,14,24] hK ?_;clear hK K)|(with_reducible refine .done (hK _ ?_);clear hK K)|refine ae.of rfl ?_|(with_reducible refine aD.aI (fun h =>?_) (fun h =>?_) <;>try simp only[h])) <;>try simp only[aK,R,simprocAttr])
   all_goals clear R
   refine ⟨i+1,⟨by omega,fun k hk =>?_⟩,by omega,?_⟩
   ·by_cases e:k=i
    ·subst e;have:a[k]=b[k]:=by simpa using hp
     simp[hlt,hlt2,this]
    ·exact hi2 k (by omega)
   ·refine bC.dT ?_ ?_ ?_ ?_ <;>simp[cF,dB,cS,cV,cD,I.only,cI]
 ·have hc:=gW hlt;have R:=y6 @hc aG
  repeat' ((first |refine ae.aJ (by decide +kernel) rfl fun K hK =>?_|(refine .aA [0,1,4,5,10,12,13,14,24] hK ?_;clear hK K)|(with_reducible refine .done (hK _ ?_);clear hK K)|refine ae.of rfl ?_|(with_reducible refine aD.aI (fun h =>?_) (fun h =>?_) <;>try simp only[h])) <;>try simp only[aK,R,simprocAttr])
  all_goals clear R
  have:a=b:=List.ext_getElem? fun k=>by
   by_cases hk:k<i
   ·exact hi2 k hk
   ·rw[zz3 (by omega),zz3 (by omega)]
  simp[this]
theorem xC(a b:List dE):bf Tryz.prog 17 [enc a,enc b] (enc (decide (a=b))):=by
 refine bf.b7 Tryz.func17 Hu Iu JJ (u8 rfl) (fun hwf W0 bI E1 =>?_);simp only[yA,C5,bK,Z1];have hlen:a.length≤maxLen:=((mS a).1 hwf.1).1;simp only[maxLen] at hlen;clear hwf;by_cases ao:a.length=b.length
 case neg =>
  have hn:((a.length:Int) != (b.length:Int))=true:=by simp;omega
  have R:=y6 @hn aG
  repeat' ((first |refine ae.aJ (by decide +kernel) rfl fun K hK =>?_|(refine .aA [0,1,4,5,10,12,13,14,24] hK ?_;clear hK K)|(with_reducible refine .done (hK _ ?_);clear hK K)|refine ae.of rfl ?_|(with_reducible refine aD.aI (fun h =>?_) (fun h =>?_) <;>try simp only[h])) <;>try simp only[aK,R,simprocAttr])
  all_goals clear R
  have:¬ a=b:=fun e=>ao (by rw[e]);simp[this]
 have hn:((a.length:Int) != (b.length:Int))=false:=by simp;omega
 have R:=y6 @hn aG
 repeat' ((first |refine ae.aJ (by decide +kernel) rfl fun K hK =>?_|(refine .aA [0,1,4,5,10,12,13,14,24] hK ?_;clear hK K)|(with_reducible refine .done (hK _ ?_);clear hK K)|refine ae.of rfl ?_|(with_reducible refine aD.aI (fun h =>?_) (fun h =>?_) <;>try simp only[h])) <;>try simp only[aK,R,simprocAttr])
 all_goals clear R
 refine ae.loop (fun i:Nat=>au [(0,enc a),(1,enc b),(12,.int .i64 a.length),(13,.int .i64 i)] []) (fun i=>i≤a.length∧∀ k,k<i→a[k]?=b[k]?) (fun i=>a.length-i) 0 ⟨zz5 _,fun k h=>by omega⟩ ?_ (fun i hi =>?_)
 ·refine bC.dT ?_ ?_ ?_ ?_ <;>simp[cF,dB,cS,cV,cD,I.only,cI]
 obtain ⟨hi1,hi2⟩:=hi;by_cases hlt:i<a.length
 ·have hc:=gO hlt;have he:=fun A=>fi (A:=A) 5 hlt rfl;have hlt2:i<b.length:=by omega
  have he2:=fun A=>fi (A:=A) 5 hlt2 rfl;have hw:=gR (i:=i) (by omega);have hq:=Ag a[i] b[i];rcases hp:decide (a[i]=b[i])
  ·rw[hp] at hq;have R:=y6 @hc (y6 @he (y6 @he2 (y6 @hq aG)))
   repeat' ((first |refine ae.aJ (by decide +kernel) rfl fun K hK =>?_|(refine .aA [0,1,4,5,10,12,13,14,24] hK ?_;clear hK K)|(with_reducible refine .done (hK _ ?_);clear hK K)|refine ae.of rfl ?_|(with_reducible refine aD.aI (fun h =>?_) (fun h =>?_) <;>try simp only[h])) <;>try simp only[aK,R,simprocAttr])
   all_goals clear R
   have:¬ a=b:=fun e=>by subst e;simp at hp
   simp[this]
  ·rw[hp] at hq;have R:=y6 @hc (y6 @he (y6 @he2 (y6 @hq (y6 @hw aG))))
   repeat' ((first |refine ae.aJ (by decide +kernel) rfl fun K hK =>?_|(refine .aA [0,1,4,5,10,12,13,14,24] hK ?_;clear hK K)|(with_reducible refine .done (hK _ ?_);clear hK K)|refine ae.of rfl ?_|(with_reducible refine aD.aI (fun h =>?_) (fun h =>?_) <;>try simp only[h])) <;>try simp only[aK,R,simprocAttr])
   all_goals clear R
   refine ⟨i+1,⟨by omega,fun k hk =>?_⟩,by omega,?_⟩
   ·by_cases e:k=i
    ·subst e;have:a[k]=b[k]:=by simpa using hp
     simp[hlt,hlt2,this]
    ·exact hi2 k (by omega)
   ·refine bC.dT ?_ ?_ ?_ ?_ <;>simp[cF,dB,cS,cV,cD,I.only,cI]
 ·have hc:=gW hlt;have R:=y6 @hc aG
  repeat' ((first |refine ae.aJ (by decide +kernel) rfl fun K hK =>?_|(refine .aA [0,1,4,5,10,12,13,14,24] hK ?_;clear hK K)|(with_reducible refine .done (hK _ ?_);clear hK K)|refine ae.of rfl ?_|(with_reducible refine aD.aI (fun h =>?_) (fun h =>?_) <;>try simp only[h])) <;>try simp only[aK,R,simprocAttr])
  all_goals clear R
  have:a=b:=List.ext_getElem? fun k=>by
   by_cases hk:k<i
   ·exact hi2 k hk
   ·rw[zz3 (by omega),zz3 (by omega)]
  simp[this]
structure bP where
 aw:Int
 j:List bg
 eI:Int
 deriving DecidableEq,Inhabited
instance:Enc bP where
 enc g:=.agg [.int .i64 g.aw,enc g.j,.int .i64 g.eI]
 sz:=3
 aX:=.eD [.one,.one,.one]
 gJ:=true
 done g:=by simp only[I.done,I.hs,Enc.done,Bool.and_self]
 size g:=by simp only[I.size,I.sizes,kB,jV]
 iE g:=by simp only[I.aX,I.cT,eH,nh]
 agg _:=rfl
theorem eB:(∀ g:bP,(enc g).dI=some [.int .i64 g.aw,enc g.j,.int .i64 g.eI])∧(∀ (a c:Int) (b:List bg) v,dq [.int .i64 a,enc b,.int .i64 c] 0 0 v=some v)∧(∀ (a c:Int) (b:List bg) v,dq [.int .i64 a,enc b,.int .i64 c] 1 1 v=some v)∧(∀ (a c:Int) (b:List bg) v,dq [.int .i64 a,enc b,.int .i64 c] 2 2 v=some v) ∧
  (∀ (g:bP),b5 (some 3) (enc g)=true)∧(∀ (g:List bg),b5 none (enc g)=true) :=
 ⟨fun _=>rfl,fun _ _ _ _=>jG (by simp) rfl,fun _ _ _ _=>jG (by simp) rfl,fun _ _ _ _=>jG (by simp) (by simp[I.sizes,I.size,kB,jV]),fun _=>by rw[fg];rfl,fun _=>by simp[lq,lp]⟩
theorem F1(x y:bP):x=y↔x.aw=y.aw∧x.j=y.j∧x.eI=y.eI:=by cases x;cases y;simp
theorem Fk(a b:bP):bf Tryz.prog 16 [enc a,enc b] (enc (decide (a=b))):=by
 refine bf.b7 Tryz.func16 Ht It JI (u8 rfl) (fun hwf W0 bI E1 =>?_);simp only[yz,C4,bK,Z1];have R:=y6 @eB aG
 repeat' ((first |(with_reducible refine .guard (fun hb =>?_) (fun hb =>?_) <;>try simp only[hb])|refine ae.aJ (by decide +kernel) rfl fun K hK =>?_|refine .flat _ (Fz a.j b.j) rfl ?_|(refine .aA [0,1,2,3,4] hK ?_;clear hK K)|(with_reducible refine .done (hK _ ?_);clear hK K)|refine ae.of rfl ?_|(with_reducible refine aD.aI (fun h =>?_) (fun h =>?_) <;>try simp only[h])) <;>try simp only[aK,R,simprocAttr])
 all_goals clear R
 all_goals (simp_all[F1])
theorem yc(aw:Int):(dK [.int .i64 0,.nils 4,.int .i64 0] [(0,.int .i64 aw)]).map I.agg=some (I.agg [.int .i64 aw,.nils 4,.int .i64 0]):=by
 simp[dK,I.bS,I.size]
theorem pN:(dK [.int .i64 0,.nils 4,.int .i64 0] []).map I.agg=some (I.agg [.int .i64 0,.nils 4,.int .i64 0]):=by
 simp[dK]
theorem rn(A:ai)(n:Nat)(b:I)(x y u v:Int)(rest:List aC):dk A (some 3) n [] b (.agg [.int .i64 x,.nils 4,.int .i64 y]) rest (some (.agg [.int .i64 u,.nils 4,.int .i64 v]))=az rest (A.aV n (.box (.agg [.int .i64 x,.nils 4,.int .i64 y]))):=dP rfl rfl rfl
def kG(aw:Int):bP×Int:=if dz 0 5 aw then (⟨aw,[],0⟩,0) else (⟨0,[],0⟩,90)
theorem tS(aw:Int):bf Tryz.prog 19 [enc aw] (.tuple [enc (kG aw).1,enc (kG aw).2]):=by
 refine bf.b7 Tryz.func19 Hw Iw JL (u8 rfl) (fun hwf W0 bI E1 =>?_);simp only[yC,C7,bK];have R:=y6 @eB (y6 @yc (y6 @pN (y6 @rn aG)))
 repeat' ((first |refine ae.aJ (by decide +kernel) rfl fun K hK =>?_|refine .flat _ (l5 aw) rfl ?_|(refine .aA [0,2,3,6] hK ?_;clear hK K)|(with_reducible refine .done (hK _ ?_);clear hK K)|refine ae.of rfl ?_|(with_reducible refine aD.aI (fun h =>?_) (fun h =>?_) <;>try simp only[h])) <;>try simp only[aK,R,simprocAttr])
 all_goals clear R
 all_goals (simp_all[kG];try rfl)
theorem Fm(aw:Int):bf Tryz.prog 20 [enc aw] (.tuple [enc (kG aw).1,enc (kG aw).2]):=by
 refine bf.b7 Tryz.func20 Hx Iy JM (u8 rfl) (fun hwf W0 bI E1 =>?_);simp only[yD,C8,bK];have R:=y6 @eB (y6 @yc (y6 @pN (y6 @rn aG)))
 repeat' ((first |refine ae.aJ (by decide +kernel) rfl fun K hK =>?_|refine .flat _ (pD aw) rfl ?_|(refine .aA [0,2,3,6] hK ?_;clear hK K)|(with_reducible refine .done (hK _ ?_);clear hK K)|refine ae.of rfl ?_|(with_reducible refine aD.aI (fun h =>?_) (fun h =>?_) <;>try simp only[h])) <;>try simp only[aK,R,simprocAttr])
 all_goals clear R
 all_goals (simp_all[kG];try rfl)
end Go.Proofs.YthbdbocionnfgaaGreatDoor
namespace Go.Abs
open Go Go.RowKit
open Enc (enc)
def vL:Option Nat→Code
 |none=>.ret
 |some id=>.exit id
def Ao:Option Nat→Exit
 |none=>.ret
 |some id=>.exit id
def pB(o:Obj)(A:ai)(os:List (Nat×aq)):Prop:=∀ n x,aj (ed o os) n=some x→A.o n=some x∧x.only (av (ed o os))=true∧x.eb=true
def Ed(o:Obj)(In:List (Nat×aq)→Prop)(Ix:Option Nat→List (Nat×aq)→Prop):Exit→ai→Prop
 | .normal,A=>∃ os,pB o A os∧In os
 | .ret,A=>∃ os,pB o A os∧Ix none os
 | .exit id,A=>∃ os,pB o A os∧Ix (some id) os
 |_,_=>False
def F5(P:Program)(nn:Nat)(x y:br)(ps:List Nat)(tsR:List (Nat×I))(N:Nat)(item:Nat→List I)(a8:Nat→List (Nat×aq)→Prop)(Ix:Option Nat→List (Nat×aq)→Prop):Prop :=
 ∀ k osb,k<N→a8 k osb→∀ (w:World) (D:aP) (E:aY) (l:Nat) (o1 o2:Obj),
  ae ⟨P,w,D,nn,cB E,E,dh,some l,none⟩ x (ej (fun B=>B.o 1999999=some (.dA o1)∧ae ⟨P,w,D,nn,cB E,E,dh,some l,none⟩ y (Ed o2 (a8 (k+1)) Ix) (B.aV 1999999 (.dA o2))) (fun _ _=>False)) (au (tc ps (item k) tsR) (ed o1 osb))
section
variable {c:cO} {Q:Exit→ai→Prop}
theorem T6{o:Obj}{A:ai}{os:List (Nat×aq)}(h:pB o A os)(o':Obj):∀ n x,aj (ed o' os) n=some x→(A.aV 1999999 (.dA o')).o n=some x∧x.only (av (ed o' os))=true∧x.eb=true:=fun n x hx=>by
 have e:av (ed o' os)=av (ed o os):=by funext m;rw[kF,kF]
 rw[e];by_cases hn:n=1999999
 ·subst hn;rw[oT,if_pos rfl,v6] at hx;subst hx;exact ⟨by simp[ai.aV],rfl,rfl⟩
 ·rw[oT,if_neg hn] at hx;obtain ⟨J,U⟩:=h n x (by rw[oT,if_neg hn];exact hx);exact ⟨by simp only[ai.aV,if_neg hn];exact J,U⟩
theorem ae.lS{f:aO}{ps:List Nat}{x y:br}{ts tsR:List (Nat×I)}{os0 osb0:List (Nat×aq)}{ρ:List (Nat×Nat)}{g:FuncId}{caps:List I}{N:Nat}{item:Nat→List I}
  (a8:Nat→List (Nat×aq)→Prop) (Ix:Option Nat→List (Nat×aq)→Prop) (hr0:c.kN=none∧c.fe=none) (hn6:c.n≤1000000)
  (hf:ak (au ts os0) f=.func g caps) (hcl:I.b9 caps=true) (hcb:eX c.P g=true) (hit:xP c.P g caps N item) (hlen:∀ k,(item k).length=ps.length)
  (hfree:aj os0 999999=none) (h19:av osb0 1999999=false) (hρ:bF ρ 1999999=999999)
  (hgv:∀ o,fX ρ (ed o osb0) ((999999,.dA o)::os0)) (hts:mL ρ (av osb0) ts tsR)
  (hI:∀ k os,a8 k os→eT osb0 os) (hIx:∀ e os,Ix e os→eT osb0 os) (aW:a8 0 osb0)
  (hround:F5 c.P c.n x y ps tsR N item a8 Ix)
  (hdone:∀ os,a8 N os→Q .normal (au ts (dv ρ os++os0))) (hexit:∀ e os,Ix e os→Q (Ao e) (au ts (dv ρ os++os0))) :
  ae c (.lS f ps x y) Q (au ts os0):=by
 obtain ⟨hr,hbase⟩:=hr0;intro code hc a w ab;cases code <;>simp only[en] at hc <;>try (first | (cases hc;done) | ((repeat' split at hc) <;>cases hc;done))
 rename_i cf cps cx cy;split at hc
 case h_2=>cases hc
 rename_i f' x' y' hcf hcx hcy;split at hc
 case isFalse=>cases hc
 rename_i hpn;simp only[v6,br.lS.injEq] at hc;obtain ⟨rfl,rfl,rfl,rfl⟩:=hc;obtain ⟨D,E,ab⟩:=ab;have hF:c.bz=Fence.wide:=by unfold cO.bz;rw[hr]
 have hE0:c.c9 999999=none:=ab.jW (.inr (by decide));have hval:∃ vs:List Value,a.eval cf=.func (.func g) #[] vs.toArray∧aE w D E caps vs:=by
  have hv:=bT ab hcf;rw[hf] at hv;obtain ⟨cs,q1,q2⟩:=hv;simp only[al] at q2;obtain ⟨vs,q3,q4⟩:=q2;exact ⟨vs,by rw[←me (zF hcb)];simpa[bu,I.isAgg,q3] using q1.symm,q4⟩
 obtain ⟨vs,hval,hvs⟩:=hval;rw[hF];refine wpIn_rangeFunc fun fn hfn =>?_;obtain ⟨rec,hrec⟩:∃ rec:LoopState→Option Code→Loop,rec=fun bd pe => { state:=bd,pending:=pe,fn,tmps:=a.tmps,params:=cps,assign:=cx,body:=cy,defers:=w.heap.size } :=⟨_,rfl⟩
 obtain ⟨E1,hs1,hE1,hup⟩:=ab.enter hbase hfree hE0 (o:=.loop (rec .ready none)) rfl;obtain ⟨W1,hW1⟩:∃ W1,(w.alloc (.deferred (some []))).alloc (.loop (rec .ready none))=W1:=⟨_,rfl⟩
 rw[hW1] at hs1 hup;obtain ⟨l,ao⟩:∃ l,l=w.heap.size+1:=⟨_,rfl⟩
 rw[←ao] at hE1;obtain ⟨yv,hyv⟩:∃ yv:Value,yv=.func (.yield l) #[] #[]:=⟨_,rfl⟩
 obtain ⟨a1,ha1⟩:∃ a1:Act,a1 = { a with defers := { target:=.collected w.heap.size,args := #[] } :: a.defers } :=⟨_,rfl⟩
 rw[←ha1] at hs1;refine ⟨l,[{ target:=.collected w.heap.size,args := #[] }],W1,{ target:=.fn (.func g) vs.toArray,args := #[yv] },W1,g,#[yv]++vs.toArray,W1,?_,?_,?_,?_,fun _=>by decide,?_⟩
 ·rw[←hW1,hrec,ao];exact run_enterLoop_outer _ _ _ _ _
 ·simp only[resolve,hval,hyv];simp[go_sem]
 ·intro f' _;trivial
 ·simp only[invoke,mH hcb]
 ·-- the iterator's own bargain
  have hG0:=hI 0 osb0 aW;obtain ⟨I',hI'⟩:∃ I':Nat→List (Nat×aq)→Prop,I'=fun k os=>∃ osb,os=ed (.loop (rec .ready none)) osb∧a8 k osb:=⟨_,rfl⟩
  obtain ⟨Ix',hIx'⟩:∃ Ix':List (Nat×aq)→Prop,Ix'=fun os=>∃ e osb,os=ed (.loop (rec .done (some (vL e)))) osb∧Ix e osb:=⟨_,rfl⟩
  obtain ⟨os1,hos1⟩:∃ os1,os1=ed (.loop (rec .ready none)) osb0:=⟨_,rfl⟩
  obtain ⟨Y,hY⟩:∃ Y:Value→List I→List (Nat×aq)→cA→Prop,Y=fun v args os post=>v=yv∧∃ k,args=item k∧k<N∧I' k os∧∀ r os2,(r=.bool true∧I' (k+1) os2)∨(r=.bool false∧Ix' os2)→post r os2:=⟨_,rfl⟩
  have ik:∀ k os',I' k os'→eT os1 os':=fun k os' h=>by
   rw[hI'] at h;obtain ⟨osb,rfl,h⟩:=h;rw[hos1];exact (hI k osb h).ed _ _
  have goodx:∀ os',Ix' os'→eT os1 os':=fun os' h=>by
   rw[hIx'] at h;obtain ⟨e,osb,rfl,h⟩:=h;rw[hos1];exact (hIx e osb h).ed _ _
  have hctr:=hit Y yv I' Ix' os1 (by rw[hyv];rfl) (fun k os' post hk J U=>by rw[hY];exact ⟨rfl,k,rfl,hk,J,U⟩) ik goodx (by rw[hI'];exact ⟨osb0,hos1,aW⟩);have hgv1:fX ρ os1 ((999999,.dA (.loop (rec .ready none)))::os0):=by rw[hos1];exact hgv _
  obtain ⟨A0,hA0⟩:∃ A0:ai,A0=au ts ((999999,.dA (.loop (rec .ready none)))::os0):=⟨_,rfl⟩
  have hand:mU (Calls c.P g) (fun w D E=>∀ n,oh ⟨c.P,w,D,n,cB E,E,Y,none,none⟩) (.raw yv::caps) os1 (fun r os'=>r=.tuple []∧(I' N os'∨Ix' os')):=fun w D E vs hy hlive hheld hv=>by
   refine (hctr.2 w D E vs hy hlive hheld hv).mono fun e w' ⟨v,he,D',E',r,os',q⟩=>⟨v,D',E',r,os',he,q⟩
  have hshare:=hs1.nU;obtain ⟨Dh,hDh⟩:∃ Dh,Dh=nR (au ts ((999999,.dA (.loop (rec .ready none)))::os0)) D E1:=⟨_,rfl⟩
  rw[←hDh] at hshare;have hsh:=hshare.1;obtain ⟨Eh,hEh⟩:∃ Eh,Eh=ay ρ os1 E1:=⟨_,rfl⟩
  have isrec:av os1 1999999=true:=by rw[hos1,kF];simp
  have hEl:Eh 1999999=some (.op l):=by rw[hEh];simp only[ay,isrec,if_true,hρ];exact hE1
  have EhIn:∀ n e,Eh n=some e→av os1 n=true:=fun n e h=>by
   rw[hEh] at h;simp only[ay] at h;split at h
   ·assumption
   ·cases h
  have hyok:∀ n,oh ⟨c.P,W1,Dh,n,cB Eh,Eh,Y,none,none⟩:=by
   refine fun n=>⟨by rw[hEh];exact hs1.oP,?_⟩
   intro v' args os' post' hYv w2 D2 E2 vs2 hsince hlive hheld hrvs;rw[hY] at hYv;obtain ⟨rfl,k,rfl,hkN,hIk,hpost⟩:=hYv;have hIk0:=hIk;rw[hI'] at hIk;obtain ⟨osb,rfl,hIk⟩:=hIk;have gk:=ik k _ hIk0;have gkb:=hI k osb hIk;have in2:∀ m,av os1 m=true→E2 m≠none:=fun m hm=>by
    rw[←gk.same m] at hm;cases hx:aj (ed (.loop (rec .ready none)) osb) m with
    |none=>simp[av,hx] at hm
    |some x=>have:=hheld.bN m;rw[hx] at this;exact sS this
   have same2:∀ m e,Eh m=some e→e.eb=true→E2 m=some e:=fun m e he hfx=>by
    rcases hsince.dM m e he with h | ⟨e',h,hle⟩
    ·exact absurd h (in2 m (EhIn m e he))
    ·rw[hle.eq hfx] at h;exact h
   have hEl2:E2 1999999=some (.op l):=same2 _ _ hEl rfl;have hob:=hheld.bN 1999999;rw[oT,if_pos rfl] at hob;obtain ⟨b,j1,_,j3,_,_⟩:=hob;rw[hEl2] at j1;cases j1;have hsz:vs2.toArray.size=cps.size:=by have:=ri hrvs;rw[hlen] at this;simpa using this
   have hyr:=run_yield (P:=c.P) (args:=vs2.toArray) j3 (by rw[hrec];exact hsz);rw[hrec] at hyr;refine ⟨l,hyv,fn,_,cx,cy,hyr,roundIn_of_wpIn trivial ?_⟩;clear hyr
   -- the round's own frame
   obtain ⟨cr,hcr⟩:∃ cr:cO,cr=⟨c.P,w2,D2,c.n,cB E2,E2,dh,some l,none⟩:=⟨_,rfl⟩
   have hFr:cr.bz=Fence.wide.inRound l:=by rw[hcr];rfl
   have hlat:dQ W1 Dh Eh w2 D2 E2:=by
    refine ⟨hsince.cM,hsince.fp.cell,fun m b aX he=>same2 m _ he rfl,fun m aF l he =>?_,fun m b he=>same2 m _ he rfl,fun m b he=>same2 m _ he rfl,hsince.fp.iS⟩;rcases hsince.dM m _ he with h | ⟨e',h,hle⟩
    ·exact absurd h (in2 m (EhIn m _ he))
    ·rcases hle with rfl | ⟨_,_,blk',l',e,rfl,k1,k2⟩
     ·exact ⟨aF,l,h,Z4 _,fun _=>rfl⟩
     ·cases e;exact ⟨blk',l',h,k1,k2⟩
   have hslots:mL ρ (av os1) ts tsR:=by
    have:∀ tsR:List (Nat×I),mL ρ (av osb0) ts tsR→mL ρ (av os1) ts tsR:=by
     intro tsR
     induction tsR with
     |nil=>exact fun h=>h
     |cons q r ih =>
      intro h;obtain ⟨J,U,ah⟩:=h;exact ⟨J,iz (fun n hn=>by rw[hos1,kF,hn];simp) _ U,ih ah⟩
    exact this tsR hts
   have hsr:aU cr (au tsR (ed (.loop (rec .ready none)) osb)) { tmps:=a.tmps,defers:=[] } w2 D2 E2:=by
    rw[hcr];refine ⟨ab.sz,⟨[],rfl,.nil,fun _ h=>by simp at h⟩,fun t =>?_,eU.refl _ _,fun _ _ h _=>h,hlive,fun m=>(hheld.bN m).hJ fun e b he hb=>.inr ⟨m,e,he,hb⟩,hheld.cJ,fun _ e h=>.inr ⟨e,h,.refl e⟩,fun m hm =>?_,fun _ _ h=>h,⟨hsince.qu,fun _ _ _ _ h=>h.elim⟩,.refl _ _⟩
    ·rcases Ev hslots t with h | ⟨J,U⟩
     ·simp only[au];rw[h];simp[aZ]
     ·have ah:=hsh.dL t;rw[ha1] at ah;simp only[au] at ah ⊢;rw[J] at ah;have ar:=(aZ.bl (w:=W1) (D:=Dh) (p:=av os1) (ρ:=bF ρ) (E:=Eh) (E':=E1) (fun n hn=>by rw[hEh];simp only[ay,hn,if_true]) U).1 ah;exact aZ.later hlat ar
    ·have hmi:av os1 m=true:=by
      rw[←gk.same m];have:=hheld.bN m;cases hx:aj (ed (.loop (rec .ready none)) osb) m with
      |none=>rw[hx] at this;exact absurd this hm
      |some x=>simp[av,hx]
     have:=gk.lA m hmi;exact ⟨zz9 hn6 this,this⟩
   have hsp:=aU.CI cps.toList vs2 (item k) tsR _ hsr (fun p hp=>by rw[hcr];have:=X0.1 hpn p hp;simpa using this) hrvs (by have:=hsz;simpa using this.symm);have htm:(cps.zip vs2.toArray).foldl (fun t (q:Tmp×Value)=>t.setIfInBounds q.1 q.2) a.tmps=(cps.toList.zip vs2).foldl (fun t q=>t.setIfInBounds q.1 q.2) a.tmps:=by
    rw[←Array.foldl_toList];simp
   have hx:=hround k osb hkN hIk w2 D2 E2 l (.loop (rec .ready none)) (.loop { rec .ready none with state:=.busy });rw[←hcr] at hx;have hx1:=hx cx (by rw[hcr];exact hcx) _ w2 ⟨D2,E2,hsp⟩;rw[hFr] at hx1;simp only[←htm] at hx1;rw[hcr] at hx1;refine wpIn_mono hx1 ?_;rintro e ax wx ⟨B,hq,hsx⟩;rw[←hcr] at hq hsx;cases e <;>simp only[ej] at hq <;>try exact hq.elim
   simp only[Exit.then];obtain ⟨hB1,hB2⟩:=hq;obtain ⟨Dx,Ex,hsx⟩:=hsx;have hElx:Ex 1999999=some (.op l):=by
    have ho:=hsx.bN 1999999;rw[hB1] at ho;rcases hsx.vp (n:=1999999) (by rw[hcr];exact hEl2) rfl with h | h
    ·exact absurd h (sS ho)
    ·exact h
   have hLx:wx.heap[l]?=some (.loop (rec .ready none)):=by
    have ho:=hsx.bN 1999999;rw[hB1] at ho;obtain ⟨b,k1,_,k3,_⟩:=ho;rw[hElx] at k1;cases k1;exact k3
   refine ⟨_,run_beginRound hLx (by rw[hrec]),?_⟩;have hsb:=hsx.xf (o':=.loop { rec .ready none with state:=.busy }) hB1 hElx rfl;have hy1:=hB2 cy (by rw[hcr];exact hcy) _ _ ⟨Dx,Ex,hsb⟩;rw[hFr] at hy1;rw[hcr] at hy1;refine wpIn_mono hy1 ?_;rintro e a3 w3 ⟨A3,hq3,D3,E3,hs3⟩;rw[←hcr] at hs3
   -- the end of the round
   have bh:∀ (os:List (Nat×aq)) (jump:Option Code),pB (.loop { rec .ready none with state:=.busy }) A3 os→(post' (.bool jump.isNone) (ed (.loop (rec (if jump.isNone then .ready else .done) jump)) os)) →
     ∃ v w',(Instr.endRound l jump).run c.P w3=.ok v w'∧(fun e w'=>∃ v D' E' r os',e=Ending.returned v∧post' r os'∧aZ w' D' E' r v∧ju (fun b=>w2.heap.size≤b∨cB E2 b) w' D' E' (aj os') ∧
      eU (fun b=>w2.heap.size≤b∨cB E2 b) w2 w'∧(∀ b o,D2 b o→D' b o)∧(∀ b o,D' b o→b<w'.heap.size)∧(∀ b o,D' b o→b<w2.heap.size→¬ cB E2 b→D2 b o) ∧
      (∀ n e,E2 n=some e→av os' n=true→∃ e',E' n=some e'∧e.le e')∧gC w2 D2 w') (.returned v) w':=fun os jump hbk hp=>by
    have hA3:A3.o 1999999=some (.dA (.loop { rec .ready none with state:=.busy })):=(hbk 1999999 _ (by rw[oT,if_pos rfl])).1;have hEl3:E3 1999999=some (.op l):=by
     have ho:=hs3.bN 1999999;rw[hA3] at ho;rcases hs3.vp (n:=1999999) (by rw[hcr];exact hEl2) rfl with h | h
     ·exact absurd h (sS ho)
     ·exact h
    have hL3:w3.heap[l]?=some (.loop { rec .ready none with state:=.busy }):=by
     have ho:=hs3.bN 1999999;rw[hA3] at ho;obtain ⟨b,k1,_,k3,_⟩:=ho;rw[hEl3] at k1;cases k1;exact k3
    have hend:=run_endRound (P:=c.P) jump hL3;have erec:({ rec .ready none with state:=if jump.isNone then LoopState.ready else .done,pending:=jump } : Loop)=rec (if jump.isNone then .ready else .done) jump:=by rw[hrec]
    have hend':(Instr.endRound l jump).run c.P w3=.ok (.bool jump.isNone) (w3.putObj l (.loop (rec (if jump.isNone then .ready else .done) jump))):=by
     rw[hend];rw[hrec]
    have hs4:=hs3.xf (o':=.loop (rec (if jump.isNone then .ready else .done) jump)) hA3 hEl3 rfl;rw[hcr] at hs4;obtain ⟨D',E',_,_,_,q1,q2,q3,q4,q5,q6⟩:=hs4.vQ (T6 hbk _);exact ⟨_,_,hend',_,D',E',.bool jump.isNone,_,rfl,hp,⟨[.bool jump.isNone],by simp[bu,I.isAgg],by simp[al]⟩,q1,q2,q3,q4,q5,q6⟩
   cases e with
   |normal =>
    obtain ⟨os,hbk,hin⟩:=hq3;exact bh os none hbk (hpost _ _ (.inl ⟨rfl,by rw[hI'];exact ⟨os,rfl,hin⟩⟩))
   |ret =>
    obtain ⟨os,hbk,hin⟩:=hq3;exact bh os (some .ret) hbk (hpost _ _ (.inr ⟨rfl,by rw[hIx'];exact ⟨none,os,rfl,hin⟩⟩))
   |exit id =>
    obtain ⟨os,hbk,hin⟩:=hq3;exact bh os (some (.exit id)) hbk (hpost _ _ (.inr ⟨rfl,by rw[hIx'];exact ⟨some id,os,rfl,hin⟩⟩))
   |goto t=>exact hq3.elim
   |panic ch=>exact hq3.elim
   |outgrown=>exact hq3.elim
  -- the call
  have hargs:ft (aZ W1 D E1) (.raw yv::caps) (yv::vs):=by
   exact .cons ⟨[yv],by simp[bu,I.isAgg],by rw[hyv];exact ⟨rfl,rfl⟩⟩ (rh (hup caps vs hvs))
  have hus:=hand.use (ρ:=ρ) hs1 false (fun h=>h.mono) ⟨(fun h=>by cases h),fun _=>by rw[←hDh,←hEh];exact hyok⟩ hgv1 (rZ _ (by simp[I.b9,I.bq,hcl]))
   (fun r os' hp=>by
    have gg:eT os1 os':=by
     rcases hp.2 with h | h
     ·exact ik _ _ h
     ·exact goodx _ h
    refine ⟨fun m x hx=>⟨(gg.ok m x hx).1,(gg.ok m x hx).2,fun h=>by cases h⟩,fun m m' J U=>hgv1.inj m m' (by rw[←gg.same];exact J) (by rw[←gg.same];exact U),fun m hm=>by rw[gg.same];exact hm,fun m J U=>(by rw[gg.same,U] at J;cases J),(by rw[hp.1];simp[I.only,I.cn]),fun h=>by cases h⟩) hargs
  have ecl : #[yv]++vs.toArray=(yv::vs).toArray:=by simp
  rw[ecl];refine CallsIn.mono (callsIn_wide.2 hus) ?_;rintro e w3 ⟨v,r,os',D2,E2,rfl,hp,hs2,_,hE2⟩;have key:∀ (o3:Obj) (osb:List (Nat×aq)),os'=ed o3 osb→oM o3=true→E2 999999=some (.op l)∧w3.heap[l]?=some o3∧∀ o4,oM o4=true→bV c (au ts (dv ρ osb++os0)) a1 (w3.putObj l o4):=fun o3 osb he ah=>by
   subst he;have hn2:E2 999999=some (.op l):=by
    obtain ⟨e',J,U⟩:=hE2 1999999 (.op l) (by rw[←hEh];exact hEl) (by rw[kF];simp);rw[hρ] at J;rw[J,U.eq rfl]
   have eos:dv ρ (ed o3 osb)=(999999,.dA o3)::dv ρ osb:=by simp only[ed,dv,Z3,hρ,aq.bl]
   rw[eos] at hs2;have ha:(au ts ((999999,aq.dA o3)::dv ρ osb++(999999,.dA (.loop (rec .ready none)))::os0)).o 999999=some (.dA o3):=by simp[au,aj]
   have hgb:∀ m,av osb m=true→bF ρ m≠999999:=fun m hm e=>by
    have h5:av (ed o3 osb) m=true:=by rw[kF,hm];simp
    have g5:eT os1 (ed o3 osb):=by
     rcases hp.2 with h | h
     ·exact ik _ _ h
     ·exact goodx _ h
    have h6:=hgv1.inj m 1999999 (by rw[←g5.same];exact h5) isrec (by rw[hρ];exact e);subst h6;have h7:eT osb0 osb:=by
     rcases hp.2 with h | h
     ·rw[hI'] at h;obtain ⟨osb',h8,h9⟩:=h;simp only[ed,zz7] at h8;rw[h8.2];exact hI _ _ h9
     ·rw[hIx'] at h;obtain ⟨e,osb',h8,h9⟩:=h;simp only[ed,zz7] at h8;rw[h8.2];exact hIx _ _ h9
    rw[h7.same,h19] at hm;cases hm
   refine ⟨hn2,?_,fun o4 ar =>?_⟩
   ·have ho:=hs2.bN 999999;rw[ha] at ho;obtain ⟨b,k1,_,k3,_⟩:=ho;rw[hn2] at k1;cases k1;exact k3
   ·have h5:=(hs2.xf (o':=o4) ha hn2 ar).Lm hn2;have hst:(⟨((au ts ((999999,aq.dA o3)::dv ρ osb++(999999,.dA (.loop (rec .ready none)))::os0)).aV 999999 (.dA o4)).t,fun m=>if m=999999 then none else
      ((au ts ((999999,aq.dA o3)::dv ρ osb++(999999,.dA (.loop (rec .ready none)))::os0)).aV 999999 (.dA o4)).o m⟩:ai)=au ts (dv ρ osb++os0):=by
     simp only[au,ai.aV]
     congr 1
     funext m
     by_cases hm:m=999999
     ·subst hm;simp only[if_true,qy];cases hq:pre ρ osb 999999 with
      |none=>exact hfree.symm
      |some k=>exact absurd (kJ hq).2 (hgb k (kJ hq).1)
     ·simp only[if_neg hm,Z9,aj,qy]
    rw[hst] at h5;exact ⟨D2,_,h5⟩
  rcases hp.2 with h | h
  ·rw[hI'] at h;obtain ⟨osb,he,hin⟩:=h;obtain ⟨k1,k2,k3⟩:=key _ osb he rfl;refine ⟨none,_,(by have:=run_endLoop (P:=c.P) k2 (by rw[hrec];simp);rw[hrec] at this;exact this),_,hdone osb hin,?_⟩;have:=k3 (.loop { rec .ready none with state:=.exhausted }) rfl;rw[ha1] at this;rw[hrec] at this;exact this
  ·rw[hIx'] at h;obtain ⟨e,osb,he,hin⟩:=h;obtain ⟨k1,k2,k3⟩:=key _ osb he rfl;refine ⟨some (vL e),_,(by have:=run_endLoop (P:=c.P) k2 (by rw[hrec];simp);rw[hrec] at this;exact this),?_⟩;have:=k3 (.loop { rec .done (some (vL e)) with state:=.exhausted }) rfl;rw[ha1] at this;rw[hrec] at this;have hq:sH c Q (Ao e) { a with defers := { target:=.collected w.heap.size,args := #[] } :: a.defers } _:=⟨_,hexit e osb hin,this⟩
   cases e with
   |none=>exact wpIn_ret hq
   |some id=>exact wpIn_exit hq
end
mutual
theorem j5{ρ:Nat→Nat}(h:∀ n,ρ n=n):∀ x:I,x.bl ρ=x
 | .agg fs | .tuple fs=>by simp only[I.bl];rw[lO h fs]
 | .slice _ es=>by simp only[I.bl];rw[lO h es]
 | .ref x=>by simp only[I.bl];rw[j5 h x]
 | .func _ caps=>by simp only[I.bl];rw[lO h caps]
 | .iface _ v=>by simp only[I.bl];rw[j5 h v]
 | .ptr _ _ | .own _ _ | .view _ _ _ _ _ | .mref _ | .db _=>by simp only[I.bl,h]
 | .c7 ks vs=>by simp only[I.bl];rw[lO h ks,lO h vs]
 | .bool _ | .int _ _ | .bO _ | .nilp | .dn | .dS | .any | .raw _ | .nils _ | .c0 _ | .undef | .df=>by simp only[I.bl]
theorem lO{ρ:Nat→Nat}(h:∀ n,ρ n=n):∀ xs:List I,I.dO ρ xs=xs
 | []=>rfl
 |x::xs=>by simp only[I.dO];rw[j5 h x,lO h xs]
end
theorem aq.j5{ρ:Nat→Nat}(h:∀ n,ρ n=n):∀ x:aq,x.bl ρ=x
 | .box x=>by simp only[aq.bl,Abs.j5 h]
 | .bW _ _ es=>by simp only[aq.bl,lO h]
 | .dA _=>rfl
 | .dC _ _=>rfl
 | .bp _ _=>by simp only[aq.bl,lO h]
 | .it _ _ _ _=>by simp only[aq.bl,lO h]
theorem lN(os:List (Nat×aq)):dv [] os=os:=by
 simp only[dv];have:(fun q:Nat×aq=>(bF [] q.1,q.2.bl (bF [])))=id:=by
  funext q
  rw[aq.j5 (ρ:=bF []) (fun n=>rfl)];rfl
 rw[this,List.map_id]
theorem fB(a b:List (Nat×aq))(n:Nat):aj (a++b) n=match aj a n with
  |some x=>some x
  |none=>aj b n:=by
 induction a with
 |nil=>rfl
 |cons q a ih =>
  obtain ⟨k,v⟩:=q;simp only[Z9,aj];split
  ·rfl
  ·exact ih
theorem eT.none{os os':List (Nat×aq)}(h:eT os os'){n:Nat}(hn:n<1000000):aj os' n=none:=by
 cases hx:aj os' n with
 |none=>rfl
 |some x =>
  have J:av os' n=true:=by simp[av,hx]
  rw[h.same] at J;exact absurd (h.lA n J) (by omega)
theorem bC.slots{ts ts':List (Nat×I)}{os os':List (Nat×aq)}(J:cF ts ts')(U:∀ n,aj os n=aj os' n):bC (au ts os) (au ts' os'):=by
 have e:au ts os=au ts os':=by
  simp only[au];congr 1;funext n;exact U n
 rw[e];rintro c a w ⟨D,E,ab⟩;refine ⟨D,E,ab.sz,ab.er,fun t =>?_,ab.dH,ab.cU,ab.aQ,ab.bN,ab.cJ,ab.dM,ab.eK,ab.cM,ab.eS,ab.fp⟩;rcases tE J t with h | h
 ·simp only[au];rw[h];simp[aZ]
 ·have:=ab.dL t;simp only[au] at *;rw[h];exact this
theorem r0{os osk os2 ow:List (Nat×aq)}{ts:List (Nat×I)}(J:eT os osk)(U:eT os os2)(how:∀ m,av ow m=true→m<1000000):au ts (dv [] os2++(ow++osk))=au ts (ow++os2):=by
 simp only[au,lN]
 congr 1
 funext n
 simp only[fB];cases hw:aj ow n with
 |none =>
  simp only;cases ah:aj os2 n with
  |some x=>rfl
  |none =>
   simp only;cases ar:aj osk n with
   |none=>rfl
   |some x =>
    have h5:av osk n=true:=by simp[av,ar]
    rw[J.same,←U.same] at h5;simp[av,ah] at h5
 |some x =>
  simp only;rw[U.none (how n (by simp[av,hw]))]
theorem fX.ik{os osk ow:List (Nat×aq)}(J:eT os osk)(how:∀ m,av ow m=true→m<1000000):fX [] osk (ow++osk):=by
 refine ⟨fun m x hx =>?_,fun m m' _ _ h=>h⟩;have hm:av osk m=true:=by simp[av,hx]
 have hg:=J.lA m (by rw[←J.same];exact hm);obtain ⟨k1,k2⟩:=J.ok m x hx;refine ⟨?_,k1,k2⟩;rw[aq.j5 (ρ:=bF []) (fun n=>rfl)];simp only[bF,fB];cases hw:aj ow m with
 |none=>exact hx
 |some y=>have:=how m (by simp[av,hw]);omega
theorem gq.ik{os osk os2 os0:List (Nat×aq)}{r:I}(J:eT os osk)(U:eT os os2)(hr:r.bq=true):gq false [] osk os0 r os2:=by
 refine ⟨fun m x hx=>⟨(U.ok m x hx).1,(U.ok m x hx).2,fun h=>by cases h⟩,fun m m' _ _ h=>h,fun m hm=>by rw[U.same,←J.same];exact hm,fun m ah ar =>?_,j0 _ r hr,fun h=>by cases h⟩;rw[U.same,←J.same,ar] at ah;cases ah
theorem aR.rF{P:Program}{Y:Value→List I→List (Nat×aq)→cA→Prop}{K:ai→Prop}{v:Value}{vs:List I}{dst:Option Nat}{rest:List aC}{ts:List (Nat×I)}{os osk ow:List (Nat×aq)}{In Ix:List (Nat×aq)→Prop}
  (hY:Y v vs osk (fun r os2=>(r=.bool true∧In os2)∨(r=.bool false∧Ix os2))) (hk:eT os osk) (hi:∀ os',In os'→eT os os') (hx:∀ os',Ix os'→eT os os') (hcl:I.b9 vs=true) (how:∀ m,av ow m=true→m<1000000)
  (J:∀ os2,In os2→aR P Y false K (az rest ((au ts (ow++os2)).aT dst (.bool true)))) (U:∀ os2,Ix os2→aR P Y false K (az rest ((au ts (ow++os2)).aT dst (.bool false)))) :
  aR P Y false K (.kq v vs dst rest (au ts (ow++osk))):=by
 refine .tK osk vs _ rfl hY (fX.ik hk how) (rZ vs hcl) ?_ ?_
 ·rintro r os' (⟨rfl,h⟩ | ⟨rfl,h⟩)
  ·exact gq.ik hk (hi _ h) rfl
  ·exact gq.ik hk (hx _ h) rfl
 ·rintro r os' (⟨rfl,h⟩ | ⟨rfl,h⟩)
  ·rw[r0 hk (hi _ h) how];exact J os' h
  ·rw[r0 hk (hx _ h) how];exact U os' h
theorem r7(A:ai)(d:Option Nat)(args:List I)(rest:List aC)(v:Value):pP A d args rest (.raw v)=.kq v args d rest A:=rfl
end Go.Abs
namespace Go.Proofs.YthbdbocionnfgaaGreatDoor
open Go Go.Abs
open Go.Abs.Enc (enc)
structure aB where
 aw:Int
 here:List Int
 all:List da
 aQ:List Nat
 bn:List bg
 deriving Inhabited
structure mX where
 cZ:Int
 no:Int
 deriving DecidableEq
instance:Enc mX where
 enc g:=.agg [.int .i64 g.cZ,.int .i64 g.no]
 sz:=2
 aX:=.eD [.one,.one]
 gJ:=true
 done g:=by simp only[I.done,I.hs,Bool.and_self]
 size g:=by simp only[I.size,I.sizes]
 iE g:=by simp only[I.aX,I.cT]
 agg _:=rfl
theorem uW(x y:mX):bX (.bd [.i .i64,.i .i64]) (enc x) (enc y)=some (decide (x=y)):=by
 show bX (.bd [.i .i64,.i .i64]) (.agg [.int .i64 x.cZ,.int .i64 x.no]) (.agg [.int .i64 y.cZ,.int .i64 y.no])=_
 have:x=y↔x.cZ=y.cZ∧x.no=y.no:=by cases x;cases y;simp
 simp[bX,gV,iM,this];rfl
theorem eM(a b:Int):bX (.i .i64) (enc a) (enc b)=some (decide (a=b)):=by
 show bX (.i .i64) (.int .i64 a) (.int .i64 b)=_
 simp[bX];rfl
def fw(x:bg):mX:=⟨x.other,x.no⟩
def aB.b8(s:aB)(i:Nat):da:=s.all.getD i default
def aB.bB(s:aB):List da:=s.aQ.map s.b8
def aB.bA(s:aB):List Int:=s.aQ.map fun i:Nat=>((i:Int)+1)
def aB.e7(s:aB)(b:Int):Bool:=s.bB.any fun r=>decide (r.aH=b)
def aB.dV(s:aB):List mX:=s.bn.map fw
def aB.unknown(s:aB)(x:bg):Bool:=(x.other != s.aw) && !decide (fw x∈s.dV)
def aB.at(s:aB)(no:Int):Option Nat:=s.aQ.find? fun i=>decide (no=(i:Int)+1)
def aB.on(s:aB)(x:bg):Option Nat:=match s.at x.no with
 |some i=>if (s.b8 i).to=x.other∧(s.b8 i).aH=x.aH then some i else none
 |none=>none
def bx(B i:Nat):Nat:=B+5+i
def fJ(B d k i:Nat):Nat:=if i=k then d else B+5+i
def mQ(B:Nat)(aw dw:Int):I:=.agg [.int .i64 aw,.mref (B+1),.mref (B+2),.int .i64 dw,.mref (B+3),.mref (B+4)]
def oK(l:List Int):aq:=.bp (l.map enc) (List.replicate l.length (.bool true))
def dN(ν:Nat→Nat)(l:List Nat):List I:=l.map fun i=>.ptr (ν i) []
def nQ(ν:Nat→Nat)(s:aB):aq:=.bp (s.bA.map enc) (dN ν s.aQ)
def qo(s:aB):aq:=.bp (s.dV.map enc) (s.bn.map enc)
def gy:List I:=[.int .i64 1,.int .i64 2,.int .i64 3,.int .i64 4,.int .i64 5,.int .i64 6,.int .i64 7,.int .i64 8]
def ou(B:Nat):aq:=.bp gy [.func 1000125 [.ptr B []],.func 1000126 [.ptr B []],.func 1000127 [.ptr B []],.func 1000128 [.ptr B []],.func 1000129 [.ptr B []],.func 1000130 [.ptr B []],.func 1000131 [.ptr B []],.func 1000132 [.ptr B []]]
def ja(ν:Nat→Nat):Nat→List da→List (Nat×aq)
 |_,[]=>[]
 |i,r::l=>(ν i,.box (enc r))::ja ν (i+1) l
def dX(B:Nat)(ν:Nat→Nat)(s:aB):List (Nat×aq) :=
 (B,.box (mQ B s.aw s.all.length))::(B+1,oK s.here)::(B+2,nQ ν s)::(B+3,qo s)::(B+4,ou B)::ja ν 0 s.all
structure ga (B:Nat) (ν:Nat→Nat) (k:Nat):Prop where
 out:∀ i,i<k→ν i<B∨B+5≤ν i
 inj:∀ i j,i<k→j<k→ν i=ν j→i=j
theorem ga.bx(B k:Nat):ga B (bx B) k:=⟨fun i _=>.inr (by simp[Go.Proofs.YthbdbocionnfgaaGreatDoor.bx]),fun i j _ _ h=>by simp[Go.Proofs.YthbdbocionnfgaaGreatDoor.bx] at h;exact h⟩
theorem ga.fJ{B d k m:Nat}(h:d<B)(hm:m≤k+1):ga B (fJ B d k) m :=
 ⟨fun i _=>by simp only[Go.Proofs.YthbdbocionnfgaaGreatDoor.fJ];split <;>omega,fun i j hi hj h=>by simp only[Go.Proofs.YthbdbocionnfgaaGreatDoor.fJ] at h;(repeat' split at h) <;>omega⟩
theorem lG{B d k i:Nat}(h:i<k):fJ B d k i=bx B i:=by simp only[fJ,bx];rw[if_neg (by omega)]
theorem ye{ν:Nat→Nat} : ∀ (l:List da) (i k:Nat) (h:k<l.length),(∀ a b,a<i+l.length→b<i+l.length→ν a=ν b→a=b)→aj (ja ν i l) (ν (i+k))=some (.box (enc l[k]))
 | [],_,_,h,_=>by simp at h
 |r::l,i,0,_,_=>by simp[ja,aj]
 |r::l,i,k+1,h,hj=>by
  simp only[zz6] at h hj;simp only[ja,aj];rw[if_neg (fun e=>by have:=hj _ _ (by omega) (by omega) e;omega)];have:=ye l (i+1) k (by omega) (fun a b ha hb=>hj a b (by omega) (by omega));rw[show i+1+k=i+(k+1) by omega] at this;simpa using this
theorem yg{ν:Nat→Nat}{n:Nat} : ∀ (l:List da) (i:Nat),(∀ k,k<l.length→n≠ν (i+k))→aj (ja ν i l) n=none
 | [],_,_=>rfl
 |r::l,i,h=>by
  simp only[zz6] at h;simp only[ja,aj];rw[if_neg (by have:=h 0 (by omega);simpa using this)];exact yg l (i+1) fun k hk=>by have:=h (k+1) (by omega);rw[show i+1+k=i+(k+1) by omega];exact this
theorem yf{ν ν':Nat→Nat} : ∀ (l:List da) (i:Nat),(∀ k,k<i+l.length→ν k=ν' k)→ja ν i l=ja ν' i l
 | [],_,_=>rfl
 |r::l,i,h=>by
  simp only[zz6] at h;simp only[ja,h i (by omega),yf l (i+1) fun k hk=>h k (by omega)]
theorem Xh{B:Nat}{ν ν':Nat→Nat}{s:aB}(ao:∀ i∈s.aQ,i<s.all.length)(h:∀ k,k<s.all.length→ν k=ν' k):dX B ν s=dX B ν' s:=by
 have J:dN ν s.aQ=dN ν' s.aQ:=List.map_congr_left fun i hi=>by rw[h i (ao i hi)]
 simp only[dX,nQ,J,yf s.all 0 (by simpa using h)]
section
variable {B:Nat} {ν:Nat→Nat} {s:aB}
theorem xn(B:Nat)(ν:Nat→Nat)(k n:Nat):n=B∨n=B+1∨n=B+2∨n=B+3∨n=B+4∨((n<B∨B+5≤n)∧(∃ i,i<k∧n=ν i))∨((n<B∨B+5≤n)∧∀ i,i<k→n≠ν i):=by
 by_cases J:n=B
 ·exact .inl J
 by_cases U:n=B+1
 ·exact .inr (.inl U)
 by_cases ah:n=B+2
 ·exact .inr (.inr (.inl ah))
 by_cases ar:n=B+3
 ·exact .inr (.inr (.inr (.inl ar)))
 by_cases h5:n=B+4
 ·exact .inr (.inr (.inr (.inr (.inl h5))))
 have h6:n<B∨B+5≤n:=by omega
 by_cases h7:∃ i,i<k∧n=ν i
 ·exact .inr (.inr (.inr (.inr (.inr (.inl ⟨h6,h7⟩)))))
 ·exact .inr (.inr (.inr (.inr (.inr (.inr ⟨h6,fun i hi e=>h7 ⟨i,hi,e⟩⟩)))))
theorem fo:aj (dX B ν s) B=some (.box (mQ B s.aw s.all.length)):=by simp[dX,aj]
theorem fL:aj (dX B ν s) (B+1)=some (oK s.here):=by simp[dX,aj]
theorem fT:aj (dX B ν s) (B+2)=some (nQ ν s):=by simp[dX,aj]
theorem fU:aj (dX B ν s) (B+3)=some (qo s):=by simp[dX,aj]
theorem n0:aj (dX B ν s) (B+4)=some (ou B):=by simp[dX,aj]
theorem iW(hg:ga B ν s.all.length){i:Nat}(hi:i<s.all.length):aj (dX B ν s) (ν i)=some (.box (enc s.all[i])):=by
 have J:=hg.out i hi;simp only[dX,aj];rw[if_neg (by omega),if_neg (by omega),if_neg (by omega),if_neg (by omega),if_neg (by omega)];have:=ye (ν:=ν) s.all 0 i hi (by simpa using hg.inj)
 rwa [Z1] at this
theorem eA{n:Nat}(J:n<B∨B+5≤n)(h:∀ i,i<s.all.length→n≠ν i):aj (dX B ν s) n=none:=by
 simp only[dX,aj];rw[if_neg (by omega),if_neg (by omega),if_neg (by omega),if_neg (by omega),if_neg (by omega)];exact yg s.all 0 (by simpa using h)
theorem dG(hg:ga B ν s.all.length){n:Nat} : av (dX B ν s) n=true↔(B≤n∧n≤B+4)∨∃ i,i<s.all.length∧n=ν i:=by
 rcases xn B ν s.all.length n with h | h | h | h | h | ⟨h,i,hi,e⟩ | ⟨h,hn⟩
 ·subst h;simp only[av,fo];simp
 ·subst h;simp only[av,fL];simp
 ·subst h;simp only[av,fT];simp
 ·subst h;simp only[av,fU];simp
 ·subst h;simp only[av,n0];simp
 ·subst e;simp only[av,iW hg hi];simp only[Option.isSome_some,true_iff];exact .inr ⟨i,hi,rfl⟩
 ·simp only[av,eA h hn];simp only[Option.isSome_none,Z2,false_iff];rintro (U | ⟨i,hi,e⟩)
  ·omega
  ·exact hn i hi e
theorem VO(p:Nat→Bool)(h:p B=true):aq.only p (ou B)=true:=by
 simp[ou,gy,aq.only,I.only,I.cn,h]
theorem Cl(p:Nat→Bool):∀ l:List Nat,(∀ i∈l,p (ν i)=true)→I.cn p (dN ν l)=true
 | [],_=>rfl
 |i::l,h=>by
  have ih:=Cl p l fun j hj=>h j (by simp[hj]);simp only[dN] at ih;simp only[dN,Z3,I.cn,I.only,ih,h i (by simp),Bool.and_self]
theorem Cn(p:Nat→Bool):∀ n:Nat,I.cn p (List.replicate n (.bool true))=true
 |0=>rfl
 |n+1=>by simp[List.replicate_succ,I.cn,I.only,Cn p n]
theorem kU(hg:ga B ν s.all.length)(ao:∀ i∈s.aQ,i<s.all.length){n:Nat}{x:aq}(h:aj (dX B ν s) n=some x):x.only (av (dX B ν s))=true∧x.eb=true:=by
 have hin:∀ n,(B≤n∧n≤B+4)→av (dX B ν s) n=true:=fun n hn=>(dG hg).2 (.inl hn);rcases xn B ν s.all.length n with U | U | U | U | U | ⟨U,i,hi,e⟩ | ⟨U,hn⟩
 ·subst U;rw[fo] at h;cases h;simp[aq.only,I.only,I.cn,aq.eb,mQ,hin]
 ·subst U;rw[fL] at h;cases h;simp only[oK,aq.only,hU,Cn,Bool.and_self,aq.eb,true_and]
 ·subst U;rw[fT] at h;cases h;refine ⟨?_,rfl⟩;simp only[nQ,aq.only,hU,Bool.true_and];exact Cl _ _ fun i hi=>(dG hg).2 (.inr ⟨i,ao i hi,rfl⟩)
 ·subst U;rw[fU] at h;cases h;simp only[qo,aq.only,hU,Bool.and_self,aq.eb,true_and]
 ·subst U;rw[n0] at h;cases h;exact ⟨VO _ (hin _ (by omega)),rfl⟩
 ·subst e;rw[iW hg hi] at h;cases h;exact ⟨cI _ _,rfl⟩
 ·rw[eA U hn] at h;cases h
theorem Xi(hg:ga 1000000 ν s.all.length)(h:∀ i,i<s.all.length→1000000≤ν i):∀ m,av (dX 1000000 ν s) m=true→1000000≤m:=fun m hm=>by
 rcases (dG hg).1 hm with U | ⟨i,hi,rfl⟩
 ·omega
 ·exact h i hi
end
def jl(s:aB):I:=.c7 (s.bA.map enc) (s.aQ.map fun i=>.ref (enc (s.b8 i)))
def jz(l:List Int):I:=.c7 (l.map enc) (List.replicate l.length (.bool true))
def jX(s:aB):I:=.c7 (s.dV.map enc) (s.bn.map enc)
def r6:I:=.c7 gy (List.replicate 8 .any)
def fK(s:aB):I:=.agg [.int .i64 s.aw,jz s.here,jl s,.int .i64 s.all.length,jX s,r6]
theorem pS:∀ n:Nat,I.b9 (List.replicate n (.bool true))=true
 |0=>rfl
 |n+1=>by simp[List.replicate_succ,I.b9,I.bq,pS n]
theorem uJ{α:Type}[Enc α](f:Nat→α):∀ l:List Nat,I.b9 (l.map fun i=>.ref (enc (f i)))=true
 | []=>rfl
 |i::l=>by simp[I.b9,I.bq,kz,uJ f l]
theorem zW(s:aB):(fK s).bq=true:=by
 simp[fK,jz,jl,jX,r6,gy,I.bq,I.b9,ij,pS,uJ,List.replicate]
theorem ve{A:ai}{m:Nat}{x:I}(h:x.bq=true):cQ A (m+1) x=some x:=by simp[cQ,h]
theorem vU{A:ai}{m:Nat} : ∀ {l:List I},I.b9 l=true→fI (cQ A (m+1)) l=some l
 | [],_=>rfl
 |x::l,h=>by
  simp only[I.b9,t8] at h;simp only[fI,ve h.1,vU h.2]
theorem sf{A:ai}{m n:Nat}{ks vs vs':List I}(ho:A.o n=some (.bp ks vs))(hk:I.b9 ks=true)(hv:fI (cQ A m) vs=some vs'):cQ A (m+1) (.mref n)=some (.c7 ks vs'):=by
 simp only[cQ,I.bq,Z2,if_false,ho,hk,if_true,hv,Z7]
theorem BS{A:ai}{m:Nat}{ν:Nat→Nat}{f:Nat→da} : ∀ {l:List Nat},(∀ i∈l,A.o (ν i)=some (.box (enc (f i))))→fI (cQ A (m+2)) (dN ν l)=some (l.map fun i=>.ref (enc (f i)))
 | [],_=>rfl
 |i::l,h=>by
  have ih:=BS (m:=m) (l:=l) fun j hj=>h j (by simp[hj]);simp only[dN] at ih;have J:cQ A (m+2) (.ptr (ν i) [])=some (.ref (enc (f i))):=by
   have hcl:(I.ptr (ν i) []).bq=false:=by simp[I.bq]
   rw[cQ];simp only[hcl,Z2,if_false,cC,h i (by simp),I.at,ve (kz (f i)),Z7]
  simp only[dN,Z3,fI,J,ih]
structure xO (A:ai) (B:Nat) (ν:Nat→Nat) (s:aB):Prop where
 aW:A.o B=some (.box (mQ B s.aw s.all.length))
 J:A.o (B+1)=some (oK s.here)
 U:A.o (B+2)=some (nQ ν s)
 ah:A.o (B+3)=some (qo s)
 ar:A.o (B+4)=some (ou B)
 aN:∀ i,i<s.all.length→A.o (ν i)=some (.box (enc (s.b8 i)))
 cw:∀ i∈s.aQ,i<s.all.length
theorem gH{A:ai}{B:Nat}{ν:Nat→Nat}{s:aB}(h:xO A B ν s)(m:Nat):cQ A (m+5) (mQ B s.aw s.all.length)=some (fK s):=by
 have i0:∀ (k:IntKind) (v:Int),cQ A (m+4) (.int k v)=some (.int k v):=fun _ _=>ve (m:=m+3) rfl;have i1:cQ A (m+4) (.mref (B+1))=some (jz s.here):=sf h.J (ij _) (vU (m:=m+2) (pS _));have i2:cQ A (m+4) (.mref (B+2))=some (jl s):=sf h.U (ij _) (BS (m:=m+1) fun i hi=>h.aN i (h.cw i hi));have i3:cQ A (m+4) (.mref (B+3))=some (jX s):=sf h.ah (ij _) (vU (m:=m+2) (ij _));have i4:cQ A (m+4) (.mref (B+4))=some r6:=sf h.ar (by simp[gy,I.b9,I.bq]) (by
  have hf:∀ k:Nat,1000000≤k→cQ A (m+3) (.func k [.ptr B []])=some .any:=fun k hk=>by
   rw[cQ];have hcl:(I.func k [.ptr B []]).bq=false:=by simp[I.bq,I.b9]
   simp only[hcl,Z2,if_false,if_neg (show ¬ k<1000000 by omega)]
  simp only[fI,hf 1000125 (by decide),hf 1000126 (by decide),hf 1000127 (by decide),hf 1000128 (by decide),hf 1000129 (by decide),hf 1000130 (by decide),hf 1000131 (by decide),hf 1000132 (by decide)];rfl)
 rw[mQ,cQ];simp only[I.bq,I.b9,Bool.and_false,Bool.false_and,Z2,if_false,fI,i0,i1,i2,i3,i4,Z7];rfl
def dx(s:aB):I:=.ref (fK s)
theorem nX(s:aB):(dx s).bq=true:=by simp only[dx,I.bq,zW]
theorem Ap:(∀ A s,iP A 0 0 (dx s)=some (.ref (.int .i64 s.aw)))∧(∀ A s,iP A 1 1 (dx s)=some (.ref (jz s.here)))∧(∀ A s,iP A 2 2 (dx s)=some (.ref (jl s)))∧(∀ A s,iP A 3 3 (dx s)=some (.ref (.int .i64 s.all.length))) ∧
  (∀ A s,iP A 4 4 (dx s)=some (.ref (jX s))):=by
 refine ⟨fun A s =>?_,fun A s =>?_,fun A s =>?_,fun A s =>?_,fun A s =>?_⟩ <;>simp[dx,fK,iP,I.dI,pX,oE,dq,I.sizes,I.size,jz,jl,jX,r6]
theorem T7(l:List Int):(jz l).bq=true:=by simp only[jz,I.bq,ij,pS,Bool.and_self]
theorem WL(s:aB):(jl s).bq=true:=by simp only[jl,I.bq,ij,uJ,Bool.and_self]
theorem Um(s:aB):(jX s).bq=true:=by simp only[jX,I.bq,ij,Bool.and_self]
theorem ez:(type_of% @Ap)∧(∀ s,(dx s).bq=true)∧(∀ aN A s,bh aN A (dx s)=some (dx s))∧(∀ s,(dx s).bS=true)∧(∀ s,b5 none (dx s)=true)∧(∀ s,lF (dx s)=some (dx s))∧(∀ p s,(dx s).only p=true) ∧
  (∀ l,(jz l).bS=true)∧(∀ l,b5 none (jz l)=true)∧(∀ l,(jl l).bS=true)∧(∀ l,b5 none (jl l)=true)∧(∀ l,(jX l).bS=true)∧(∀ l,b5 none (jX l)=true)∧(∀ l,(jz l).bq=true)∧(∀ l,(jl l).bq=true)∧(∀ l,(jX l).bq=true) ∧
  (∀ A l,fQ A (jz l)=some (l.map enc,List.replicate l.length (.bool true)))∧(∀ A s,fQ A (jl s)=some (s.bA.map enc,s.aQ.map fun i=>.ref (enc (s.b8 i))))∧(∀ A s,fQ A (jX s)=some (s.dV.map enc,s.bn.map enc)) ∧
  (∀ x,b5 none (.ref x)=true)∧(∀ x,lF (.ref x)=some (.ref x)) :=
 ⟨Ap,nX,fun aN A s=>by
  have h:=nX s;simp only[dx,I.bq] at h;simp only[dx,bh,h,if_true],fun _=>rfl,fun _=>rfl,fun _=>rfl,fun p s=>j0 p _ (nX s),fun _=>rfl,fun _=>rfl,fun _=>rfl,fun _=>rfl,fun _=>rfl,fun _=>rfl,T7,WL,Um,
  fun _ _=>rfl,fun _ _=>rfl,fun _ _=>rfl,fun _=>rfl,fun _=>rfl⟩
theorem Ca{A:ai}{d:Option Nat}{n:Nat}{rest:List aC}{ks vs:List I}{cur:Option Nat} : oZ A d n rest (some (.it ks vs [] cur))=az rest (A.aT d (.tuple [.bool false])):=by
 simp only[oZ,if_true]
theorem aR.hP{P:Program}{Y:Value→List I→List (Nat×aq)→cA→Prop}{K:ai→Prop}{A:ai}{d:Option Nat}{n:Nat}{rest:List aC}{ks vs:List I}{left:List Nat}{cur:Option Nat}(ao:left≠[])
  (h:∀ i,i∈left→∃ kk x,ks[i]?=some kk∧vs[i]?=some x∧aR P Y false K (az rest ((A.aV n (.it ks vs (left.filter (· != i)) (some i))).aT d (.tuple [.bool true,kk,x])))) :
  aR P Y false K (oZ A d n rest (some (.it ks vs left cur))):=by
 simp only[oZ,if_neg ao];refine .any rfl fun i hi =>?_;obtain ⟨kk,x,J,U,ah⟩:=h i hi;simp only[J,U];exact ah
theorem BF{n i:Nat}{aA left:List Nat}(hC:(aA++left).Perm (List.range n))(hi:i∈left):(left.filter (· != i)).length<left.length∧((aA++[i])++left.filter (· != i)).Perm (List.range n):=by
 refine ⟨?_,?_⟩
 ·rcases Nat.lt_or_ge (left.filter (· != i)).length left.length with h | h
  ·exact h
  ·have:=List.filter_eq_self.1 (List.Sublist.eq_of_length_le List.filter_sublist h) i hi;simp at this
 have hnd:left.Nodup:=(List.nodup_append.1 (hC.nodup_iff.2 List.nodup_range)).2.1;have J:left.Perm (i::left.filter (· != i)):=by
  have U:(left.filter (· == i)).length=1:=by
   have:=List.nodup_iff_count.1 hnd i;have ah:=List.count_pos_iff.2 hi;have ar:left.count i=(left.filter (· == i)).length:=by rw[List.count,List.countP_eq_length_filter]
   omega
  have h5:left.filter (· == i)=[i]:=by
   obtain ⟨a,ha⟩:=List.length_eq_one_iff.1 U;have:a∈left.filter (· == i):=by rw[ha];simp
   have:=(X9.1 this).2;simp at this;rw[ha,this]
  have h6:=(List.filter_append_perm (· == i) left).symm;rw[h5] at h6;exact h6
 refine List.Perm.trans ?_ hC;rw[Y1];exact (J.symm).append_left aA
def xT(s:aB)(b:Int)(t:List Nat×List Nat×Option Nat):ai :=
 au [(0,dx s),(1,.int .i64 b),(11,.db 11)] [(11,.it (s.bA.map enc) (s.aQ.map fun i=>.ref (enc (s.b8 i))) t.2.1 t.2.2)]
theorem pG(s:aB)(b:Int):bf Tryz.prog 72 [dx s,enc b] (enc (s.e7 b)):=by
 refine bf.b7 Tryz.func72 HX IZ Kb (u8 rfl) (fun hwf W0 bI E1 =>?_);simp only[y7,DA,bK,Z1];clear hwf;refine .gl (by decide +kernel) fun K hK =>?_;simp only[AO,bE,simprocAttr];refine .done (hK _ ?_);clear hK K;refine ae.seq (ae.seq ?_);refine .j4 (by decide +kernel) fun K hK =>?_;simp only[AP,bE,simprocAttr]
 try simp only[ez,jl,bt,mq,bE,simprocAttr]
 refine .done (hK _ ?_);clear hK K;try simp only[ej]
 have hlen:s.bA.length=s.aQ.length:=by simp[aB.bA]
 refine ae.block (ae.loop (xT s b) (fun t=>(t.1++t.2.1).Perm (List.range s.aQ.length)∧∀ i∈t.1,(s.b8 (s.aQ.getD i 0)).aH≠b) (fun t=>t.2.1.length) ([],List.range s.aQ.length,none) ⟨by simp,by simp⟩ ?_ ?_)
 ·refine bC.slots ?_ (fun n =>?_)
  ·simp[cF,cD]
  ·simp only[eg,qx,Z8,hlen]
 rintro ⟨aA,left,cur⟩ ⟨hC,hA⟩;simp only at hC hA;simp only[xT];by_cases ao:left=[]
 ·subst ao;have hno:s.e7 b=false:=by
   simp only[aB.e7,aB.bB,List.any_map,List.any_eq_false,Function.comp,decide_eq_true_eq];intro i hi e;obtain ⟨k,hk,rfl⟩:=List.mem_iff_getElem.1 hi;have hm:k∈aA:=(show aA.Perm _ by simpa using hC).mem_iff.2 (zz4.2 hk);have:=hA k hm;simp only[Z0,Y2 hk,Option.getD_some] at this;exact this e
  refine .gl (by decide +kernel) fun K hK =>?_;simp only[vy,bE,simprocAttr]
  try simp only[mq,Ca,bE,simprocAttr]
  refine .done (hK _ ?_);clear hK K;refine ae.seq ?_;refine ae.jB ?_;simp only[aD,bE,simprocAttr];refine ⟨fun h =>?_,fun h =>?_⟩
  case refine_1=>cases h
  refine ae.exit ?_;try simp only[ej,jw,simprocAttr]
  rw[hno];have R:=aG
  repeat' ((first |refine ae.aJ (by decide +kernel) rfl fun K hK =>?_|(refine .aA [0,1,4,6,11,13,21] hK ?_;clear hK K)|(with_reducible refine .done (hK _ ?_);clear hK K)|refine ae.of rfl ?_|(with_reducible refine aD.aI (fun h =>?_) (fun h =>?_) <;>try simp only[h])) <;>try simp only[aK,R,simprocAttr])
  all_goals clear R
 ·refine .gl (by decide +kernel) fun K hK =>?_;simp only[vy,bE,simprocAttr]
  try simp only[mq,bE,simprocAttr]
  refine aR.hP ao fun i hi =>?_;have hib:i<s.aQ.length:=zz4.1 (hC.mem_iff.1 (by simp[hi]));obtain ⟨hm,hC2⟩:=BF hC hi;have hk1:(s.bA.map (enc (α:=Int)))[i]?=some (enc (((s.aQ[i]:Nat):Int)+1)):=by simp[aB.bA,hib]
  have hk2:(s.aQ.map fun i=>I.ref (enc (s.b8 i)))[i]?=some (.ref (enc (s.b8 s.aQ[i]))):=by simp[hib]
  refine ⟨_,_,hk1,hk2,?_⟩;have hent:mc (s.bA.map enc) (s.aQ.map fun i=>I.ref (enc (s.b8 i))) (some i)=some (.tuple [enc (((s.aQ[i]:Nat):Int)+1),.ref (enc (s.b8 s.aQ[i]))]):=by
   simp only[mc,hk1,hk2]
  have hx:s.aQ.getD i 0=s.aQ[i]:=by simp[Z0,hib]
  try simp only[bE,simprocAttr]
  refine .done (hK _ ?_);clear hK K;refine ae.seq ?_;refine ae.jB ?_;simp only[aD,bE,simprocAttr];refine ⟨fun h =>?_,fun h =>?_⟩
  case refine_2=>cases h
  refine ae.skip ?_;try simp only[ej,simprocAttr]
  refine ae.block ?_;rcases q:((s.b8 s.aQ[i]).aH==b)
  ·have R:=y6 @hent (y6 @q aG)
   repeat' ((first |refine ae.aJ (by decide +kernel) rfl fun K hK =>?_|(refine .aA [0,1,4,6,11,13,21] hK ?_;clear hK K)|(with_reducible refine .done (hK _ ?_);clear hK K)|refine ae.of rfl ?_|(with_reducible refine aD.aI (fun h =>?_) (fun h =>?_) <;>try simp only[h])) <;>try simp only[aK,R,simprocAttr])
   all_goals clear R
   refine ⟨(aA++[i],left.filter (· != i),some i),⟨hC2,fun j hj =>?_⟩,hm,?_⟩
   ·rcases X5.1 hj with hj | hj
    ·exact hA j hj
    ·rw[X3.1 hj,hx];simpa using q
   ·simp only[];refine bC.slots ?_ (fun n =>?_)
    ·simp[cF,cD]
    ·simp only[eg,qx];(repeat' split) <;>simp_all
  ·have hyes:s.e7 b=true:=by
    simp only[aB.e7,aB.bB,List.any_map,List.any_eq_true,Function.comp,decide_eq_true_eq];exact ⟨s.aQ[i],List.getElem_mem hib,by simpa using q⟩
   rw[hyes];have R:=y6 @hent (y6 @q aG)
   repeat' ((first |refine ae.aJ (by decide +kernel) rfl fun K hK =>?_|(refine .aA [0,1,4,6,11,13,21] hK ?_;clear hK K)|(with_reducible refine .done (hK _ ?_);clear hK K)|refine ae.of rfl ?_|(with_reducible refine aD.aI (fun h =>?_) (fun h =>?_) <;>try simp only[h])) <;>try simp only[aK,R,simprocAttr])
   all_goals clear R
theorem UD(s:aB)(x:bg):∃ v:I,v.bS=true∧b5 (some 4) v=true∧v.aX=.eD [.one,.one,.one,.one]∧fj (.bd [.i .i64,.i .i64]) (.agg [.int .i64 0,.int .i64 0,.int .i64 0,.int .i64 0]) (.agg [.int .i64 x.other,.int .i64 x.no]) (s.dV.map enc) (s.bn.map enc)=some (v,decide (fw x∈s.dV)):=by
 have h:=sI uW (.agg [.int .i64 0,.int .i64 0,.int .i64 0,.int .i64 0]) (fw x) s.dV (s.bn.map enc);have hm:=pZ (k:=fw x) (ks:=s.dV);have e:(enc (fw x):I)=.agg [.int .i64 x.other,.int .i64 x.no]:=rfl;rw[e] at h;rw[h,←hm];cases hf:s.dV.findIdx? fun y=>decide (fw x=y) with
 |none=>exact ⟨_,rfl,rfl,rfl,rfl⟩
 |some i =>
  have hi:=(List.findIdx?_eq_some_iff_getElem.1 hf).1;have hi2:i<s.bn.length:=by simpa[aB.dV] using hi
  refine ⟨enc s.bn[i],ep _,by rw[fg];rfl,eH _,?_⟩;simp[hi2]
theorem rK(s:aB)(x:bg):bf Tryz.prog 152 [dx s,enc x] (enc (s.unknown x)):=by
 refine bf.b7 Tryz.func152 Hs Is JH (u8 rfl) (fun hwf W0 bI E1 =>?_);simp only[yx,C3,bK,Z1];clear hwf;obtain ⟨v,hv1,hv2,hv3,hlk⟩:=UD s x;have hbld:(dK [.int .i64 0,.int .i64 0] [(0,.int .i64 x.other),(1,.int .i64 x.no)]).map I.agg=some (.agg [.int .i64 x.other,.int .i64 x.no]):=by simp[dK,I.bS,I.size]
 have hst:∀ A rest b,dk A (some 4) 5 [] b v rest (some (.agg [.int .i64 0,.int .i64 0,.int .i64 0,.int .i64 0]))=az rest (A.aV 5 (.box v)):=fun A rest b=>dP hv1 hv2 hv3;simp only[aB.unknown];rcases q:(x.other != s.aw) <;>rcases q2:decide (fw x∈s.dV)
 all_goals
  rw[q2] at hlk;have R:=y6 @q (y6 @hv1 (y6 @hv2 (y6 @hbld (y6 @hst (y6 @hlk (y6 @ez (y6 @bt aG)))))))
  repeat' ((first |(with_reducible refine .guard (fun hb =>?_) (fun hb =>?_) <;>try simp only[hb])|refine ae.aJ (by decide +kernel) rfl fun K hK =>?_|(refine .aA [0,1,3,4,6] hK ?_;clear hK K)|(with_reducible refine .done (hK _ ?_);clear hK K)|refine ae.of rfl ?_|(with_reducible refine aD.aI (fun h =>?_) (fun h =>?_) <;>try simp only[h])) <;>try simp only[aK,R,simprocAttr])
  all_goals clear R
  rfl
theorem Al{α β:Type}(f:α→β):∀ (l:List α) (k:Nat),(l.map f).eraseIdx k=(l.eraseIdx k).map f
 | [],_=>rfl
 |_::_,0=>rfl
 |x::l,k+1=>by simp only[Z3,List.eraseIdx_cons_succ,Al f l k]
section
variable {α ι:Type} [Enc α] [DecidableEq α] [DecidableEq ι] {ty:cz}
omit [Enc α] [DecidableEq ι] in
theorem AF(f:ι→α)(g:ι→I)(z:I)(k:α):∀ l:List ι,(match (l.map f).findIdx? fun x=>decide (k=x) with
   |some i=>((l.map g)[i]?).map fun v=>(v,true)
   |none=>some (z,false))=(match l.find? fun i=>decide (k=f i) with
   |some i=>some (g i,true)
   |none=>some (z,false))
 | []=>rfl
 |x::l=>by
  have ih:=AF f g z k l;simp only[Z3,List.findIdx?_cons,List.find?_cons];by_cases h:k=f x
  ·simp[h]
  ·simp only[h,decide_false,Z2,if_false];rw[←ih];cases (l.map f).findIdx? fun x=>decide (k=x) with
   |none=>rfl
   |some i=>simp
omit [DecidableEq ι] in
theorem BI(ay:∀ x y:α,bX ty (enc x) (enc y)=some (decide (x=y)))(f:ι→α)(g:ι→I)(z:I)(k:α)(l:List ι) :
  fj ty z (enc k) ((l.map f).map enc) (l.map g)=match l.find? fun i=>decide (k=f i) with
   |some i=>some (g i,true)
   |none=>some (z,false):=by
 exact (sI ay z k _ _).trans (AF f g z k l)
theorem BW(ay:∀ x y:α,bX ty (enc x) (enc y)=some (decide (x=y)))(f:ι→α)(g:ι→I)(hf:∀ a b,f a=f b→a=b){l:List ι}{i:ι}(hi:i∈l) :
  lE ty (enc (f i)) ((l.map f).map enc) (l.map g)=some (((l.erase i).map f).map enc,(l.erase i).map g):=by
 have hf2:∀ a,(f i=f a)=(i=a):=fun a=>propext ⟨hf i a,fun e=>by rw[e]⟩;have key:∀ l:List ι,i∈l→∃ k,(l.map f).findIdx? (fun x=>decide (f i=x))=some k∧l.eraseIdx k=l.erase i:=by
  intro l
  induction l with
  |nil=>intro h;cases h
  |cons x l ih =>
   intro h;simp only[Z3,List.findIdx?_cons,hf2];by_cases e:i=x
   ·subst e;exact ⟨0,by simp,by simp⟩
   ·obtain ⟨k,J,U⟩:=ih (by simpa[e] using h);refine ⟨k+1,?_,?_⟩
    ·simp only[e,decide_false,Z2,if_false,J,Z7]
    ·rw[List.eraseIdx_cons_succ,U,List.erase_cons_tail (by simpa using fun h=>e h.symm)]
 obtain ⟨k,J,U⟩:=key l hi;simp only[lE,ay,Option.isSome_some,if_true,sj ay,J,Z7,Nat.add_zero];rw[←U];simp only[Al]
end
theorem D9(l:List Int):List.replicate l.length (I.bool true)=l.map fun _=>.bool true:=by
 induction l with
 |nil=>rfl
 |cons x l ih=>simp[List.replicate_succ,ih]
theorem BX{l:List Int}{b:Int}(h:b∈l):lE (.i .i64) (.int .i64 b) (l.map enc) (List.replicate l.length (.bool true))=some ((l.erase b).map enc,List.replicate (l.erase b).length (.bool true)):=by
 have:=BW eM (fun x:Int=>x) (fun _=>.bool true) (fun _ _ h=>h) h;simp only[List.map_id',eC] at this;rw[D9,D9];exact this
theorem iY{s:aB}{no:Int}{i:Nat}(h:s.at no=some i):i∈s.aQ∧no=(i:Int)+1 :=
 ⟨List.mem_of_find?_eq_some h,by simpa using List.find?_some h⟩
theorem vR{s:aB}(g:Nat→I)(no:Int):fj (.i .i64) .nilp (.int .i64 no) (s.bA.map enc) (s.aQ.map g)=match s.at no with
   |some i=>some (g i,true)
   |none=>some (.nilp,false):=by
 have h:=BI eM (fun i:Nat=>(i:Int)+1) g .nilp no s.aQ;rw[eC] at h;refine h.trans ?_;unfold aB.at;generalize s.aQ.find? (fun i:Nat=>decide (no=(i:Int)+1))=q;cases q <;>rfl
theorem BY{s:aB}(g:Nat→I){i:Nat}(h:i∈s.aQ):lE (.i .i64) (.int .i64 ((i:Int)+1)) (s.bA.map enc) (s.aQ.map g)=some (({ s with aQ:=s.aQ.erase i } : aB).bA.map enc,(s.aQ.erase i).map g) :=
 BW eM (fun i:Nat=>(i:Int)+1) g (fun a b h=>by omega) h
theorem o7{s:aB}{x:bg}{i:Nat}(h:s.on x=some i):s.at x.no=some i∧(s.b8 i).to=x.other∧(s.b8 i).aH=x.aH:=by
 simp only[aB.on] at h;split at h
 ·rename_i j hj;split at h
  ·rename_i bH;cases h;exact ⟨hj,bH⟩
  ·cases h
 ·cases h
def eL(s:aB)(x:bg):Option aB :=
 if x.kind=1 then if x.aH∈s.here∨s.e7 x.aH=true then none else some { s with here:=gD s.here x.aH }
 else if x.kind=2 then if x.aH∈s.here then some { s with here:=s.here.erase x.aH } else none
 else if x.kind=3 then if x.aH∈s.here∧x.other≠s.aw∧x.no=(s.all.length:Int)+1 then
  some { s with here:=s.here.erase x.aH,all:=s.all++[⟨x.no,x.other,x.aH,false⟩],aQ:=s.aQ++[s.all.length] } else none
 else if x.kind=4 then match s.on x with
  |some i=>if (s.b8 i).dp then none else some { s with all:=s.all.set i { s.b8 i with dp:=true } }
  |none=>none
 else if x.kind=5 then match s.on x with
  |some i=>some { s with aQ:=s.aQ.erase i }
  |none=>none
 else if x.kind=6 then match s.on x with
  |some i=>if (s.b8 i).dp then some { s with aQ:=s.aQ.erase i,here:=gD s.here x.aH } else none
  |none=>none
 else if x.kind=7 then if s.unknown x=true∧x.aH∉s.here∧s.e7 x.aH=false then some { s with bn:=s.bn++[x],here:=gD s.here x.aH } else none
 else if x.kind=8 then if s.unknown x=true then some { s with bn:=s.bn++[x] } else none
 else none
def gp(s:aB)(x:bg):Option aB:=if gz x then eL s x else none
structure cu (s:aB):Prop where
 cw:∀ i∈s.aQ,i<s.all.length
 iw:s.aQ.Nodup
 af:s.here.Nodup
theorem mY{l:List Int}{b:Int}(h:l.Nodup):(gD l b).Nodup:=by
 unfold gD;split
 ·exact h
 ·rename_i hb;exact List.nodup_append.2 ⟨h,by simp,fun a ha c hc e=>by rw[X3.1 hc] at e;exact hb (e▸ha)⟩
theorem cu.next{s s':aB}{x:bg}(h:cu s)(hn:eL s x=some s'):cu s'∧s'.aw=s.aw∧s'.all.length≤s.all.length+1∧(x.kind≠3→s'.all.length=s.all.length):=by
 obtain ⟨J,U,ah⟩:=h;simp only[eL] at hn;split at hn
 ·split at hn <;>cases hn
  exact ⟨⟨J,U,mY ah⟩,rfl,by simp,fun _=>rfl⟩
 split at hn
 ·split at hn <;>cases hn
  exact ⟨⟨J,U,ah.erase _⟩,rfl,by simp,fun _=>rfl⟩
 split at hn
 ·rename_i hk;split at hn <;>cases hn
  refine ⟨⟨fun i hi =>?_,?_,ah.erase _⟩,rfl,by simp,fun h=>absurd hk h⟩
  ·simp only[X5,X3] at hi;simp only[Z6,List.length_singleton];rcases hi with hi | hi
   ·have:=J i hi;omega
   ·omega
  ·exact List.nodup_append.2 ⟨U,by simp,fun a ha c hc e=>by rw[X3.1 hc] at e;have:=J a ha;omega⟩
 split at hn
 ·split at hn
  ·split at hn <;>cases hn
   exact ⟨⟨fun i hi=>by simpa using J i hi,U,ah⟩,rfl,by simp,fun _=>by simp⟩
  ·cases hn
 split at hn
 ·split at hn <;>cases hn
  exact ⟨⟨fun i hi=>J i (List.mem_of_mem_erase hi),U.erase _,ah⟩,rfl,by simp,fun _=>rfl⟩
 split at hn
 ·split at hn
  ·split at hn <;>cases hn
   exact ⟨⟨fun i hi=>J i (List.mem_of_mem_erase hi),U.erase _,mY ah⟩,rfl,by simp,fun _=>rfl⟩
  ·cases hn
 split at hn
 ·split at hn <;>cases hn
  exact ⟨⟨J,U,mY ah⟩,rfl,by simp,fun _=>rfl⟩
 split at hn
 ·split at hn <;>cases hn
  exact ⟨⟨J,U,ah⟩,rfl,by simp,fun _=>rfl⟩
 cases hn
theorem gK{ts:List (Nat×I)}{os:List (Nat×aq)}{B:Nat}{ν:Nat→Nat}{s:aB}(hg:ga B ν s.all.length)(ao:∀ i∈s.aQ,i<s.all.length)(h:∀ n,av (dX B ν s) n=true→aj os n=aj (dX B ν s) n):xO (au ts os) B ν s:=by
 have go:∀ n x,aj (dX B ν s) n=some x→(au ts os).o n=some x:=fun n x hx=>(h n (by simp[av,hx])).trans hx;refine ⟨go _ _ fo,go _ _ fL,go _ _ fT,go _ _ fU,go _ _ n0,fun i hi =>?_,ao⟩;rw[go _ _ (iW hg hi)];simp[aB.b8,Z0,hi]
def fq:List PanicEntry:=[{ v:=.iface 144 (.agg #[]),recovered:=false }]
theorem UM(w:World):Calls Tryz.prog 114 #[.bool false] w fun e w'=>e=.panicked fq∧w'=w:=by
 go_enter Tryz.func114,Tryz.ntmps114
 go_wp2
 exact ⟨rfl,rfl,rfl⟩
theorem EY:e8 Tryz.prog 114 fq [enc false] [] (fun os'=>os'=[]) :=
 e8.V1 zm (fun w D vs hv=>by
  have hv':aE w D c9 [.bool false] vs:=hv;simp only[aE] at hv';obtain ⟨v,rest,cs,rfl,J,U,rfl⟩:=hv';have:v=.bool false:=j8 (jh J U);subst this;exact UM w) rfl
theorem kg:bf Tryz.prog 114 [enc true] (.tuple []):=by
 refine bf.b7 Tryz.func114 zm Iq Jw (u8 rfl) (fun hwf W0 bI E1 =>?_);simp only[yu,CS,bK];have R:=y6 @kb @bE
 repeat' ((first |refine ae.aJ (by decide +kernel) rfl fun K hK =>?_|(refine .aA [0,3] hK ?_;clear hK K)|(with_reducible refine .done (hK _ ?_);clear hK K)|refine ae.of rfl ?_|(with_reducible refine aD.aI (fun h =>?_) (fun h =>?_) <;>try simp only[h])) <;>try simp only[aK,R,simprocAttr])
 all_goals clear R
 all_goals rfl
theorem Wp:rM Tryz.prog 113:=⟨zl,fun b T w x hb=>by
 refine callsDIn_of_wpSIn Tryz.func113 rfl trivial fun c₀ cs hu =>?_;apply wpSIn_seq;apply wpSIn_region;simp[wpOpsSIn,go_sem,recoverD,hu,Tryz.ntmps113,Exit.thenS];apply wpSIn_seq;apply wpSIn_region;simp[wpOpsSIn,go_sem,Exit.thenS];refine wpSIn_cond (t:=false) (by simp[Act.eval,Array.replicate]) ?_;simp only[Z2,if_false];refine wpSIn_of_wpIn rfl (wpIn_skip ?_);cases c₀
 simp_all[bodyPostS,results,Tryz.results113]⟩
theorem Wo:rI Tryz.prog 113 fq:=⟨zl,fun b T w x hb=>by
 have hc:w.cell? ⟨b,0,none⟩=some (.bool x):=by simp[World.cell?,hb]
 have hz:w.frozen? ⟨b,0,none⟩=false:=by simp[World.frozen?,hb]
 have hta:∀ W,(Instr.typeAssert (.iface 144 (.agg #[])) 20 144 true).run Tryz.prog W=.ok (.tuple #[.agg #[],.bool true]) W:=fun W=>by
  simp[Instr.typeAssert,run_underlying Tryz.underlying144]
 refine callsDIn_of_wpSIn Tryz.func113 rfl trivial fun c₀ cs hu =>?_;apply wpSIn_seq;apply wpSIn_region;simp[wpOpsSIn,go_sem,recoverD,hu,Tryz.ntmps113,Exit.thenS,fq];apply wpSIn_seq;apply wpSIn_region;simp[wpOpsSIn,go_sem,Exit.thenS];refine wpSIn_cond (t:=true) (by simp[Act.eval,Array.replicate]) ?_;simp only[if_true];apply wpSIn_seq;apply wpSIn_seq;apply wpSIn_region;simp[wpOpsSIn,go_sem,Exit.thenS,hta];apply wpSIn_seq;apply wpSIn_region;simp[wpOpsSIn,go_sem,Exit.thenS];refine wpSIn_cond (t:=false) (by simp[Act.eval,Array.replicate]) ?_;simp only[Z2,if_false];refine wpSIn_of_wpIn rfl (wpIn_skip ?_);simp only[Exit.thenS];have hb2:(w.alloc (.cells #[] 144)).heap[b]?=some (.cells #[.bool x] T (0,0)):=(RowKit.Below.heap_alloc _ _ _ (fA hb)).trans hb;have hc2:(w.alloc (.cells #[] 144)).cell? ⟨b,0,none⟩=some (.bool x):=by simp[World.cell?,hb2]
 have hz2:(w.alloc (.cells #[] 144)).frozen? ⟨b,0,none⟩=false:=by simp[World.frozen?,hb2]
 apply wpSIn_region;simp[wpOpsSIn,go_sem,hc2,hz2,bodyPostS,results,Tryz.results113];exact ⟨rfl,_,pM _ _,rfl⟩⟩
abbrev aL(s:aB):List (Nat×aq):=dX 1000000 (bx 1000000) s
def mz(s:aB):cA:=fun r os'=>r=.tuple []∧os'=aL s
def jJ(s:aB)(os':List (Nat×aq)):Prop:=os'=aL s
theorem dy(k:Nat):ga 1000000 (bx 1000000) k:=ga.bx _ _
theorem dj{s:aB} : ∀ m,av (aL s) m=true→1000000≤m:=Xi (dy _) fun i _=>by simp[bx];omega
theorem h3{s:aB}(hk:cu s){n:Nat}{x:aq}(h:aj (aL s) n=some x):x.only (av (aL s))=true∧x.eb=true:=kU (dy _) hk.cw h
theorem lQ{ts:List (Nat×I)}{os os':List (Nat×aq)}{post:cA}(ho:∀ n,av os' n=true→aj os n=aj os' n)(hg:∀ n x,aj os' n=some x→x.only (av os')=true∧x.eb=true)(hp:post (jI []) os'):iL [] post (au ts os) :=
 ⟨os',[],fun n x hx=>⟨by show aj os n=some x;rw[ho n (by simp[av,hx])];exact hx,hg n x hx⟩,trivial,hp⟩
theorem lR(rs post)(A:ai):nN rs post .normal A=iL rs post A:=rfl
theorem h0{Q:Exit→ai→Prop}{ts:List (Nat×I)}{os0:List (Nat×aq)}(hq:Q (.panic fq) (au ts os0)):mW Tryz.prog Q 114 [.bool false] (au ts os0) :=
 .mk false [] [] [enc false] fq _ EY ⟨fun m x h=>by simp[aj] at h,fun m m' h=>by simp[av,aj] at h⟩ ⟨.inl ⟨rfl,rfl,rfl⟩,trivial⟩
  (fun os' h=>by subst h;exact ⟨fun m x h=>by simp[aj] at h,fun m m' h=>by simp[av,aj] at h,fun m h=>h,fun m h=>by simp[av,aj] at h,rfl,fun h=>by cases h⟩) (fun os' h=>by subst h;exact hq)
theorem gQ{s:aB}(hk:cu s){ts:List (Nat×I)}{z:aq} : wF fq (jJ s) (.panic fq) (au ts ((3,z)::aL s)) :=
 ⟨rfl,lQ (fun n hn=>by have:=dj n hn;simp only[aj];rw[if_neg (by omega)]) (fun _ _ h=>h3 hk h) ⟨rfl,rfl⟩⟩
theorem bw:(∀ (a b:Int) v,dq [.int .i64 a,.mref 1000001,.mref 1000002,.int .i64 b,.mref 1000003,.mref 1000004] 0 0 v=some v)∧(∀ (a b:Int) v,dq [.int .i64 a,.mref 1000001,.mref 1000002,.int .i64 b,.mref 1000003,.mref 1000004] 1 1 v=some v)∧(∀ (a b:Int) v,dq [.int .i64 a,.mref 1000001,.mref 1000002,.int .i64 b,.mref 1000003,.mref 1000004] 2 2 v=some v)∧(∀ (a b:Int) v,dq [.int .i64 a,.mref 1000001,.mref 1000002,.int .i64 b,.mref 1000003,.mref 1000004] 3 3 v=some v)∧(∀ (a b:Int) v,dq [.int .i64 a,.mref 1000001,.mref 1000002,.int .i64 b,.mref 1000003,.mref 1000004] 4 4 v=some v)∧(∀ (a b:Int) v,dq [.int .i64 a,.mref 1000001,.mref 1000002,.int .i64 b,.mref 1000003,.mref 1000004] 5 5 v=some v)∧(∀ a b c d e:I,(I.agg [a,.mref 1000001,b,c,d,e]).bq=false) :=
 ⟨fun _ _ _=>rfl,fun _ _ _=>rfl,fun _ _ _=>rfl,fun _ _ _=>rfl,fun _ _ _=>rfl,fun _ _ _=>rfl,fun a b c d e=>by simp[I.bq,I.b9]⟩
theorem E0(s:aB)(hk:cu s)(x:bg)(hy:x.aH∉s.here∧s.e7 x.aH=false):cN Tryz.prog 125 [.ptr 1000000 [],enc x] (aL s) (mz { s with here:=gD s.here x.aH }):=by
 refine cN.b7 Tryz.func125 zn zH Jx (u8 rfl) (u8 rfl) dj (fun hwf W0 bI E1 =>?_);simp only[uo,CT,bK,Z1];clear hwf;have n3:aj (aL s) 3=none:=eA (.inl (by omega)) fun i _=>by simp[bx];omega
 have aW:aj (aL s) 1000000=some (.box (.agg [.int .i64 s.aw,.mref 1000001,.mref 1000002,.int .i64 s.all.length,.mref 1000003,.mref 1000004])):=fo;have J:aj (aL s) 1000001=some (.bp (s.here.map enc) (List.replicate s.here.length (.bool true))):=fL;have U:aj (aL s) 1000002=some (.bp (s.bA.map enc) (dN (bx 1000000) s.aQ)):=fT;have ah:aj (aL s) 1000003=some (.bp (s.dV.map enc) (s.bn.map enc)):=fU;have hfin:∀ ts,cQ (au ts ((3,.box (enc x))::aL s)) 9 (.agg [.int .i64 s.aw,.mref 1000001,.mref 1000002,.int .i64 s.all.length,.mref 1000003,.mref 1000004])=some (fK s):=fun ts =>
  gH (gK (dy _) hk.cw fun n hn=>by have:=dj n hn;simp only[aj];rw[if_neg (by omega)]) 4
 have hlk:=fZ eM x.aH s.here;rw[eC] at hlk;have q1:decide (x.aH∈s.here)=false:=decide_eq_false hy.1;have hF:=pG s x.aH;rw[hy.2] at hF;have hup:=wc eM x.aH s.here;rw[eC] at hup;have R:=y6 @n3 (y6 @aW (y6 @J (y6 @hfin (y6 @hlk (y6 @q1 (y6 @hup (y6 @bw (y6 @bt aG))))))))
 repeat' ((first |(with_reducible refine .guard (fun hb =>?_) (fun hb =>?_) <;>try simp only[hb])|refine ae.aJ (by decide +kernel) rfl fun K hK =>?_|refine .flat _ (hF) rfl ?_|refine .flat _ (kg) rfl ?_|(refine .aA [0,1,3] hK ?_;clear hK K)|(with_reducible refine .done (hK _ ?_);clear hK K)|refine ae.of rfl ?_|(with_reducible refine aD.aI (fun h =>?_) (fun h =>?_) <;>try simp only[h])) <;>try simp only[aK,R,simprocAttr])
 all_goals clear R
 rw[lR];refine lQ (fun n hn =>?_) (fun _ _ h=>h3 (s := { s with here:=gD s.here x.aH }) ⟨hk.cw,hk.iw,mY hk.af⟩ h) ⟨rfl,rfl⟩;have:=dj n hn;simp only[aL,dX,aj];rw[if_neg (show ¬ n=3 by omega)]
 (repeat' split) <;>first | rfl | omega
theorem E5(s:aB)(hk:cu s)(x:bg)(hy:x.aH∈s.here∨s.e7 x.aH=true):e8 Tryz.prog 125 fq [.ptr 1000000 [],enc x] (aL s) (jJ s):=by
 refine e8.mk Tryz.func125 zn zH (u8 rfl) (u8 rfl) dj (fun hwf W0 bI E1 =>?_);simp only[uo,bK,Z1];clear hwf;have n3:aj (aL s) 3=none:=eA (.inl (by omega)) fun i _=>by simp[bx];omega
 have aW:aj (aL s) 1000000=some (.box (.agg [.int .i64 s.aw,.mref 1000001,.mref 1000002,.int .i64 s.all.length,.mref 1000003,.mref 1000004])):=fo;have J:aj (aL s) 1000001=some (.bp (s.here.map enc) (List.replicate s.here.length (.bool true))):=fL;have U:aj (aL s) 1000002=some (.bp (s.bA.map enc) (dN (bx 1000000) s.aQ)):=fT;have ah:aj (aL s) 1000003=some (.bp (s.dV.map enc) (s.bn.map enc)):=fU;have hfin:∀ ts,cQ (au ts ((3,.box (enc x))::aL s)) 9 (.agg [.int .i64 s.aw,.mref 1000001,.mref 1000002,.int .i64 s.all.length,.mref 1000003,.mref 1000004])=some (fK s):=fun ts =>
  gH (gK (dy _) hk.cw fun n hn=>by have:=dj n hn;simp only[aj];rw[if_neg (by omega)]) 4
 have hlk:=fZ eM x.aH s.here;rw[eC] at hlk;have hF:=pG s x.aH;rcases q1:decide (x.aH∈s.here)
 ·have q2:s.e7 x.aH=true:=hy.resolve_left (by simpa using q1);rw[q2] at hF;have R:=y6 @n3 (y6 @aW (y6 @J (y6 @hfin (y6 @hlk (y6 @q1 (y6 @bw (y6 @bt aG)))))))
  repeat' ((first |(with_reducible refine .guard (fun hb =>?_) (fun hb =>?_) <;>try simp only[hb])|(refine ae.jj (gs:=p7) 15 [] [] [0,1,2,3,4,5,6,7,8,9,10,11,12,13,14] (by decide +kernel) rfl (cP.of (by simp[fh])) fun K hK =>?_;simp only[eZ,p7,gf,Z9,X4,List.take_zero,Y5,Y6,R,simprocAttr])|refine ae.aJ (by decide +kernel) rfl fun K hK =>?_|refine .flat _ (hF) rfl ?_|(refine .aA [0,1,3] hK ?_;clear hK K)|(with_reducible refine .done (hK _ ?_);clear hK K)|refine ae.of rfl ?_|(with_reducible refine aD.aI (fun h =>?_) (fun h =>?_) <;>try simp only[h])) <;>try simp only[aK,R,simprocAttr])
  all_goals clear R
  exact .call (h0 (gQ hk))
 ·have R:=y6 @n3 (y6 @aW (y6 @J (y6 @hfin (y6 @hlk (y6 @q1 (y6 @bw (y6 @bt aG)))))))
  repeat' ((first |(with_reducible refine .guard (fun hb =>?_) (fun hb =>?_) <;>try simp only[hb])|(refine ae.jj (gs:=p7) 15 [] [] [0,1,2,3,4,5,6,7,8,9,10,11,12,13,14] (by decide +kernel) rfl (cP.of (by simp[fh])) fun K hK =>?_;simp only[eZ,p7,gf,Z9,X4,List.take_zero,Y5,Y6,R,simprocAttr])|refine ae.aJ (by decide +kernel) rfl fun K hK =>?_|refine .flat _ (hF) rfl ?_|(refine .aA [0,1,3] hK ?_;clear hK K)|(with_reducible refine .done (hK _ ?_);clear hK K)|refine ae.of rfl ?_|(with_reducible refine aD.aI (fun h =>?_) (fun h =>?_) <;>try simp only[h])) <;>try simp only[aK,R,simprocAttr])
  all_goals clear R
  exact .call (h0 (gQ hk))
theorem E6(s:aB)(hk:cu s)(x:bg)(hy:x.aH∈s.here):cN Tryz.prog 126 [.ptr 1000000 [],enc x] (aL s) (mz { s with here:=s.here.erase x.aH }):=by
 refine cN.b7 Tryz.func126 zo zI Jy (u8 rfl) (u8 rfl) dj (fun hwf W0 bI E1 =>?_);simp only[uq,CU,bK,Z1];clear hwf;have n3:aj (aL s) 3=none:=eA (.inl (by omega)) fun i _=>by simp[bx];omega
 have aW:aj (aL s) 1000000=some (.box (.agg [.int .i64 s.aw,.mref 1000001,.mref 1000002,.int .i64 s.all.length,.mref 1000003,.mref 1000004])):=fo;have J:aj (aL s) 1000001=some (.bp (s.here.map enc) (List.replicate s.here.length (.bool true))):=fL;have U:aj (aL s) 1000002=some (.bp (s.bA.map enc) (dN (bx 1000000) s.aQ)):=fT;have ah:aj (aL s) 1000003=some (.bp (s.dV.map enc) (s.bn.map enc)):=fU;have hfin:∀ ts,cQ (au ts ((3,.box (enc x))::aL s)) 9 (.agg [.int .i64 s.aw,.mref 1000001,.mref 1000002,.int .i64 s.all.length,.mref 1000003,.mref 1000004])=some (fK s):=fun ts =>
  gH (gK (dy _) hk.cw fun n hn=>by have:=dj n hn;simp only[aj];rw[if_neg (by omega)]) 4
 have hlk:=fZ eM x.aH s.here;rw[eC] at hlk;have q1:decide (x.aH∈s.here)=true:=decide_eq_true hy;have hdl:=BX hy;have R:=y6 @n3 (y6 @aW (y6 @J (y6 @hfin (y6 @hlk (y6 @q1 (y6 @hdl (y6 @bw (y6 @bt aG))))))))
 repeat' ((first |refine ae.aJ (by decide +kernel) rfl fun K hK =>?_|refine .flat _ (kg) rfl ?_|(refine .aA [0,1,3] hK ?_;clear hK K)|(with_reducible refine .done (hK _ ?_);clear hK K)|refine ae.of rfl ?_|(with_reducible refine aD.aI (fun h =>?_) (fun h =>?_) <;>try simp only[h])) <;>try simp only[aK,R,simprocAttr])
 all_goals clear R
 rw[lR];refine lQ (fun n hn =>?_) (fun _ _ h=>h3 (s := { s with here:=s.here.erase x.aH }) ⟨hk.cw,hk.iw,hk.af.erase _⟩ h) ⟨rfl,rfl⟩;have:=dj n hn;simp only[aL,dX,aj];rw[if_neg (show ¬ n=3 by omega)]
 (repeat' split) <;>first | rfl | omega
theorem E7(s:aB)(hk:cu s)(x:bg)(hy:x.aH∉s.here):e8 Tryz.prog 126 fq [.ptr 1000000 [],enc x] (aL s) (jJ s):=by
 refine e8.mk Tryz.func126 zo zI (u8 rfl) (u8 rfl) dj (fun hwf W0 bI E1 =>?_);simp only[uq,bK,Z1];clear hwf;have n3:aj (aL s) 3=none:=eA (.inl (by omega)) fun i _=>by simp[bx];omega
 have aW:aj (aL s) 1000000=some (.box (.agg [.int .i64 s.aw,.mref 1000001,.mref 1000002,.int .i64 s.all.length,.mref 1000003,.mref 1000004])):=fo;have J:aj (aL s) 1000001=some (.bp (s.here.map enc) (List.replicate s.here.length (.bool true))):=fL;have U:aj (aL s) 1000002=some (.bp (s.bA.map enc) (dN (bx 1000000) s.aQ)):=fT;have ah:aj (aL s) 1000003=some (.bp (s.dV.map enc) (s.bn.map enc)):=fU;have hfin:∀ ts,cQ (au ts ((3,.box (enc x))::aL s)) 9 (.agg [.int .i64 s.aw,.mref 1000001,.mref 1000002,.int .i64 s.all.length,.mref 1000003,.mref 1000004])=some (fK s):=fun ts =>
  gH (gK (dy _) hk.cw fun n hn=>by have:=dj n hn;simp only[aj];rw[if_neg (by omega)]) 4
 have hlk:=fZ eM x.aH s.here;rw[eC] at hlk;have q1:decide (x.aH∈s.here)=false:=decide_eq_false hy;have R:=y6 @n3 (y6 @aW (y6 @J (y6 @hfin (y6 @hlk (y6 @q1 (y6 @bw (y6 @bt aG)))))))
 repeat' ((first |(refine ae.jj (gs:=vt) 7 [] [] [0,1,2,3,4,5,6] (by decide +kernel) rfl (cP.of (by simp[fh])) fun K hK =>?_;simp only[eZ,vt,gf,Z9,X4,List.take_zero,Y5,Y6,R,simprocAttr])|refine ae.aJ (by decide +kernel) rfl fun K hK =>?_|(refine .aA [0,1,3] hK ?_;clear hK K)|(with_reducible refine .done (hK _ ?_);clear hK K)|refine ae.of rfl ?_|(with_reducible refine aD.aI (fun h =>?_) (fun h =>?_) <;>try simp only[h])) <;>try simp only[aK,R,simprocAttr])
 all_goals clear R
 exact .call (h0 (gQ hk))
def CA(s:aB)(i:Nat):cA:=fun r os'=>r=.ptr (bx 1000000 i) []∧os'=aL s
theorem jF:(∀ i,(3=bx 1000000 i)=False)∧(∀ i,(bx 1000000 i=3)=False):=⟨fun i=>by simp[bx];omega,fun i=>by simp[bx];omega⟩
theorem pC(s:aB)(hk:cu s)(x:bg)(i:Nat)(hy:s.on x=some i):cN Tryz.prog 151 [.ptr 1000000 [],enc x] (aL s) (CA s i):=by
 refine cN.b7 Tryz.func151 zx zP JG (u8 rfl) (u8 rfl) dj (fun hwf W0 bI E1 =>?_);simp only[uz,C2,bK,Z1];clear hwf;have n3:aj (aL s) 3=none:=eA (.inl (by omega)) fun i _=>by simp[bx];omega
 have aW:aj (aL s) 1000000=some (.box (.agg [.int .i64 s.aw,.mref 1000001,.mref 1000002,.int .i64 s.all.length,.mref 1000003,.mref 1000004])):=fo;have J:aj (aL s) 1000001=some (.bp (s.here.map enc) (List.replicate s.here.length (.bool true))):=fL;have U:aj (aL s) 1000002=some (.bp (s.bA.map enc) (dN (bx 1000000) s.aQ)):=fT;have ah:aj (aL s) 1000003=some (.bp (s.dV.map enc) (s.bn.map enc)):=fU;have hfin:∀ ts,cQ (au ts ((3,.box (enc x))::aL s)) 9 (.agg [.int .i64 s.aw,.mref 1000001,.mref 1000002,.int .i64 s.all.length,.mref 1000003,.mref 1000004])=some (fK s):=fun ts =>
  gH (gK (dy _) hk.cw fun n hn=>by have:=dj n hn;simp only[aj];rw[if_neg (by omega)]) 4
 have hlk:=fZ eM x.aH s.here;rw[eC] at hlk;obtain ⟨ha,hb1,hb2⟩:=o7 hy;have hil:=(iY ha).1;have hlt:=hk.cw i hil;have hlr:=vR (s:=s) (fun i=>.ptr (bx 1000000 i) []) x.no;have hpt:(s.aQ.map fun i=>I.ptr (bx 1000000 i) [])=dN (bx 1000000) s.aQ:=rfl;rw[hpt] at hlr;rw[ha] at hlr;simp only at hlr;have hb:aj (aL s) (bx 1000000 i)=some (.box (enc (s.b8 i))):=by
  have:=iW (dy s.all.length) (B:=1000000) hlt;rw[this];simp[aB.b8,Z0,hlt]
 have q1:((s.b8 i).to==x.other)=true:=by simpa using hb1
 have q2:((s.b8 i).aH==x.aH)=true:=by simpa using hb2
 have R:=y6 @n3 (y6 @aW (y6 @U (y6 @hb (y6 @hlr (y6 @q1 (y6 @q2 (y6 @jF (y6 @bw (y6 @bt aG)))))))))
 repeat' ((first |(with_reducible refine .guard (fun hb =>?_) (fun hb =>?_) <;>try simp only[hb])|refine ae.aJ (by decide +kernel) rfl fun K hK =>?_|refine .flat _ (kg) rfl ?_|(refine .aA [0,1,3,4,5,6] hK ?_;clear hK K)|(with_reducible refine .done (hK _ ?_);clear hK K)|refine ae.of rfl ?_|(with_reducible refine aD.aI (fun h =>?_) (fun h =>?_) <;>try simp only[h])) <;>try simp only[aK,R,simprocAttr])
 all_goals clear R
 refine ⟨aL s,[.ptr (bx 1000000 i) []],fun n y hy=>⟨?_,h3 hk hy⟩,⟨⟨_,rfl,.inl ⟨rfl,rfl,?_⟩⟩,trivial⟩,rfl,rfl⟩
 ·have:=dj (s:=s) n (by simp[av,hy])
  show aj ((3,_)::aL s) n=_
  simp only[aj];rw[if_neg (by omega)];exact hy
 ·exact (dG (dy _)).2 (.inr ⟨i,hlt,rfl⟩)
theorem Fj(s:aB)(hk:cu s)(x:bg)(hy:s.on x=none):e8 Tryz.prog 151 fq [.ptr 1000000 [],enc x] (aL s) (jJ s):=by
 refine e8.mk Tryz.func151 zx zP (u8 rfl) (u8 rfl) dj (fun hwf W0 bI E1 =>?_);simp only[uz,bK,Z1];clear hwf;have n3:aj (aL s) 3=none:=eA (.inl (by omega)) fun i _=>by simp[bx];omega
 have aW:aj (aL s) 1000000=some (.box (.agg [.int .i64 s.aw,.mref 1000001,.mref 1000002,.int .i64 s.all.length,.mref 1000003,.mref 1000004])):=fo;have J:aj (aL s) 1000001=some (.bp (s.here.map enc) (List.replicate s.here.length (.bool true))):=fL;have U:aj (aL s) 1000002=some (.bp (s.bA.map enc) (dN (bx 1000000) s.aQ)):=fT;have ah:aj (aL s) 1000003=some (.bp (s.dV.map enc) (s.bn.map enc)):=fU;have hfin:∀ ts,cQ (au ts ((3,.box (enc x))::aL s)) 9 (.agg [.int .i64 s.aw,.mref 1000001,.mref 1000002,.int .i64 s.all.length,.mref 1000003,.mref 1000004])=some (fK s):=fun ts =>
  gH (gK (dy _) hk.cw fun n hn=>by have:=dj n hn;simp only[aj];rw[if_neg (by omega)]) 4
 have hlk:=fZ eM x.aH s.here;rw[eC] at hlk;have hlr:=vR (s:=s) (fun i=>.ptr (bx 1000000 i) []) x.no;have hpt:(s.aQ.map fun i=>I.ptr (bx 1000000 i) [])=dN (bx 1000000) s.aQ:=rfl;rw[hpt] at hlr;cases ha:s.at x.no with
 |none =>
  rw[ha] at hlr;simp only at hlr;have R:=y6 @n3 (y6 @aW (y6 @U (y6 @hlr (y6 @jF (y6 @bw (y6 @bt aG))))))
  repeat' ((first |(with_reducible refine .guard (fun hb =>?_) (fun hb =>?_) <;>try simp only[hb])|(refine ae.jj (gs:=nq) 19 [] [] [0,1,2,3,4,5,6,7,8,9,10,11,12,13,14,15,16,17,18] (by decide +kernel) rfl (cP.of (by simp[fh])) fun K hK =>?_;simp only[eZ,nq,gf,Z9,X4,List.take_zero,Y5,Y6,R,simprocAttr])|refine ae.aJ (by decide +kernel) rfl fun K hK =>?_|(refine .aA [0,1,3,4,5,6] hK ?_;clear hK K)|(with_reducible refine .done (hK _ ?_);clear hK K)|refine ae.of rfl ?_|(with_reducible refine aD.aI (fun h =>?_) (fun h =>?_) <;>try simp only[h])) <;>try simp only[aK,R,simprocAttr])
  all_goals clear R
  exact .call (h0 (gQ hk))
 |some i =>
  have hil:=(iY ha).1;have hlt:=hk.cw i hil;rw[ha] at hlr;simp only at hlr;have hb:aj (aL s) (bx 1000000 i)=some (.box (enc (s.b8 i))):=by
   have:=iW (dy s.all.length) (B:=1000000) hlt;rw[this];simp[aB.b8,Z0,hlt]
  rcases q1:((s.b8 i).to==x.other)
  ·have R:=y6 @n3 (y6 @aW (y6 @U (y6 @hb (y6 @hlr (y6 @q1 (y6 @jF (y6 @bw (y6 @bt aG))))))))
   repeat' ((first |(with_reducible refine .guard (fun hb =>?_) (fun hb =>?_) <;>try simp only[hb])|(refine ae.jj (gs:=nq) 19 [] [] [0,1,2,3,4,5,6,7,8,9,10,11,12,13,14,15,16,17,18] (by decide +kernel) rfl (cP.of (by simp[fh])) fun K hK =>?_;simp only[eZ,nq,gf,Z9,X4,List.take_zero,Y5,Y6,R,simprocAttr])|refine ae.aJ (by decide +kernel) rfl fun K hK =>?_|(refine .aA [0,1,3,4,5,6] hK ?_;clear hK K)|(with_reducible refine .done (hK _ ?_);clear hK K)|refine ae.of rfl ?_|(with_reducible refine aD.aI (fun h =>?_) (fun h =>?_) <;>try simp only[h])) <;>try simp only[aK,R,simprocAttr])
   all_goals clear R
   exact .call (h0 (gQ hk))
  ·have q2:((s.b8 i).aH==x.aH)=false:=by
    simp only[aB.on,ha] at hy;split at hy
    ·cases hy
    ·rename_i h;simp only[beq_iff_eq] at q1;simp only[beq_eq_false_iff_ne,ne_eq];exact fun e=>h ⟨q1,e⟩
   have R:=y6 @n3 (y6 @aW (y6 @U (y6 @hb (y6 @hlr (y6 @q1 (y6 @q2 (y6 @jF (y6 @bw (y6 @bt aG)))))))))
   repeat' ((first |(with_reducible refine .guard (fun hb =>?_) (fun hb =>?_) <;>try simp only[hb])|(refine ae.jj (gs:=nq) 19 [] [] [0,1,2,3,4,5,6,7,8,9,10,11,12,13,14,15,16,17,18] (by decide +kernel) rfl (cP.of (by simp[fh])) fun K hK =>?_;simp only[eZ,nq,gf,Z9,X4,List.take_zero,Y5,Y6,R,simprocAttr])|refine ae.aJ (by decide +kernel) rfl fun K hK =>?_|(refine .aA [0,1,3,4,5,6] hK ?_;clear hK K)|(with_reducible refine .done (hK _ ?_);clear hK K)|refine ae.of rfl ?_|(with_reducible refine aD.aI (fun h =>?_) (fun h =>?_) <;>try simp only[h])) <;>try simp only[aK,R,simprocAttr])
   all_goals clear R
   exact .call (h0 (gQ hk))
theorem x5{ts:List (Nat×I)}{s:aB}{z:aq} : au ts (aL s++((3,z)::aL s))=au ts ((3,z)::aL s):=by
 simp only[au,ai.mk.injEq,true_and]
 funext n
 rw[fB];cases h:aj (aL s) n with
 |none=>rfl
 |some y =>
  have:=dj (s:=s) n (by simp[av,h]);simp only[aj];rw[if_neg (by omega),h]
theorem Bj{s:aB}(hk:cu s){z:aq} : fX [] (aL s) ((3,z)::aL s):=by
 refine ⟨fun m y hy=>⟨?_,h3 hk hy⟩,fun m m' _ _ h=>h⟩;have hm:=dj (s:=s) m (by simp[av,hy]);rw[aq.j5 (ρ:=bF []) (fun n=>rfl)]
 show aj ((3,z)::aL s) m=some y
 simp only[aj];rw[if_neg (by omega)];exact hy
theorem ui{s:aB}(hk:cu s){os0:List (Nat×aq)}{r:I}(hr:r.only (av (aL s))=true):gq false [] (aL s) os0 r (aL s) :=
 ⟨fun _ _ hy=>⟨(h3 hk hy).1,(h3 hk hy).2,fun h=>by cases h⟩,fun m m' _ _ h=>h,fun m hm=>hm,(fun m a b=>by rw[a] at b;cases b),hr,(fun h=>by cases h)⟩
theorem rY{s:aB}{x:bg}{A:ai} : gE false A [] (aL s) [.ptr 1000000 [],enc x] [.ptr 1000000 [],enc x] :=
 ⟨.inl ⟨rfl,(dG (dy _)).2 (.inl (by omega)),rfl⟩,.inl ⟨(kA _ _).symm,cI _ _,ep _⟩,trivial⟩
theorem aR.re{K:ai→Prop}{s:aB}{x:bg}{i:Nat}{avs:List I}{a1 a2:Option (List I)}{dst:Option Nat}{rest:List aC}{ts:List (Nat×I)}{z:aq}(hk:cu s)(hil:i<s.all.length)(hc:cN Tryz.prog 151 [.ptr 1000000 [],enc x] (aL s) (CA s i))(hav:avs=[.ptr 1000000 [],enc x])
  (h:aR Tryz.prog dh false K (az rest ((au ts ((3,z)::aL s)).aT dst (.ptr (bx 1000000 i) [])))):aR Tryz.prog dh false K (.call 151 avs a1 a2 dst rest (au ts ((3,z)::aL s))):=by
 subst hav;refine .bN false [] (aL s) [.ptr 1000000 [],enc x] _ rfl hc (Bj hk) rY ?_ ?_
 ·rintro r os' ⟨rfl,rfl⟩;exact ui hk ((dG (dy _)).2 (.inr ⟨i,hil,rfl⟩))
 ·rintro r os' ⟨rfl,rfl⟩;rw[lN,x5];exact h
theorem wG{Q:Exit→ai→Prop}{s:aB}(hk:cu s){x:bg}(hy:s.on x=none){ts:List (Nat×I)}{z:aq}(hq:Q (.panic fq) (au ts ((3,z)::aL s))):mW Tryz.prog Q 151 [.ptr 1000000 [],enc x] (au ts ((3,z)::aL s)) :=
 .mk false [] (aL s) [.ptr 1000000 [],enc x] fq _ (Fj s hk x hy) (Bj hk) rY (fun os' h=>by cases h;exact ui hk rfl) (fun os' h=>by cases h;rw[lN,x5];exact hq)
theorem Fb(s:aB)(hk:cu s)(x:bg)(i:Nat)(hy:s.on x=some i):cN Tryz.prog 129 [.ptr 1000000 [],enc x] (aL s) (mz { s with aQ:=s.aQ.erase i }):=by
 refine cN.b7 Tryz.func129 zr zL JB (u8 rfl) (u8 rfl) dj (fun hwf W0 bI E1 =>?_);simp only[uv,CX,bK,Z1];clear hwf;have n3:aj (aL s) 3=none:=eA (.inl (by omega)) fun i _=>by simp[bx];omega
 have aW:aj (aL s) 1000000=some (.box (.agg [.int .i64 s.aw,.mref 1000001,.mref 1000002,.int .i64 s.all.length,.mref 1000003,.mref 1000004])):=fo;have J:aj (aL s) 1000001=some (.bp (s.here.map enc) (List.replicate s.here.length (.bool true))):=fL;have U:aj (aL s) 1000002=some (.bp (s.bA.map enc) (dN (bx 1000000) s.aQ)):=fT;have ah:aj (aL s) 1000003=some (.bp (s.dV.map enc) (s.bn.map enc)):=fU;have hfin:∀ ts,cQ (au ts ((3,.box (enc x))::aL s)) 9 (.agg [.int .i64 s.aw,.mref 1000001,.mref 1000002,.int .i64 s.all.length,.mref 1000003,.mref 1000004])=some (fK s):=fun ts =>
  gH (gK (dy _) hk.cw fun n hn=>by have:=dj n hn;simp only[aj];rw[if_neg (by omega)]) 4
 have hlk:=fZ eM x.aH s.here;rw[eC] at hlk;obtain ⟨ha,hb1,hb2⟩:=o7 hy;have hil:=(iY ha).1;have hno:=(iY ha).2;have hlt:=hk.cw i hil;have hb:aj (aL s) (bx 1000000 i)=some (.box (enc (s.b8 i))):=by
  have:=iW (dy s.all.length) (B:=1000000) hlt;rw[this];simp[aB.b8,Z0,hlt]
 have hdl:=BY (s:=s) (fun i=>.ptr (bx 1000000 i) []) hil;rw[←hno] at hdl;have hpt:(s.aQ.map fun i=>I.ptr (bx 1000000 i) [])=dN (bx 1000000) s.aQ:=rfl;rw[hpt] at hdl;have R:=y6 @n3 (y6 @aW (y6 @U (y6 @hb (y6 @hdl (y6 @jF (y6 @bw (y6 @bt aG)))))))
 repeat' ((first |refine ae.aJ (by decide +kernel) rfl fun K hK =>?_|refine aR.re hk hlt (pC s hk x i hy) rfl ?_|(refine .aA [0,1,3] hK ?_;clear hK K)|(with_reducible refine .done (hK _ ?_);clear hK K)|refine ae.of rfl ?_|(with_reducible refine aD.aI (fun h =>?_) (fun h =>?_) <;>try simp only[h])) <;>try simp only[aK,R,simprocAttr])
 all_goals clear R
 rw[lR];refine lQ (fun n hn =>?_) (fun _ _ h=>h3 (s := { s with aQ:=s.aQ.erase i }) ⟨fun j hj=>hk.cw j (List.mem_of_mem_erase hj),hk.iw.erase _,hk.af⟩ h) ⟨rfl,rfl⟩;have:=dj n hn;simp only[aL,dX,aj];rw[if_neg (show ¬ n=3 by omega)]
 (repeat' split) <;>first | rfl | omega
theorem Fc(s:aB)(hk:cu s)(x:bg)(hy:s.on x=none):e8 Tryz.prog 129 fq [.ptr 1000000 [],enc x] (aL s) (jJ s):=by
 refine e8.mk Tryz.func129 zr zL (u8 rfl) (u8 rfl) dj (fun hwf W0 bI E1 =>?_);simp only[uv,bK,Z1];clear hwf;have n3:aj (aL s) 3=none:=eA (.inl (by omega)) fun i _=>by simp[bx];omega
 have aW:aj (aL s) 1000000=some (.box (.agg [.int .i64 s.aw,.mref 1000001,.mref 1000002,.int .i64 s.all.length,.mref 1000003,.mref 1000004])):=fo;have J:aj (aL s) 1000001=some (.bp (s.here.map enc) (List.replicate s.here.length (.bool true))):=fL;have U:aj (aL s) 1000002=some (.bp (s.bA.map enc) (dN (bx 1000000) s.aQ)):=fT;have ah:aj (aL s) 1000003=some (.bp (s.dV.map enc) (s.bn.map enc)):=fU;have hfin:∀ ts,cQ (au ts ((3,.box (enc x))::aL s)) 9 (.agg [.int .i64 s.aw,.mref 1000001,.mref 1000002,.int .i64 s.all.length,.mref 1000003,.mref 1000004])=some (fK s):=fun ts =>
  gH (gK (dy _) hk.cw fun n hn=>by have:=dj n hn;simp only[aj];rw[if_neg (by omega)]) 4
 have hlk:=fZ eM x.aH s.here;rw[eC] at hlk;have R:=y6 @n3 (y6 @aW (y6 @U (y6 @jF (y6 @bw (y6 @bt aG)))))
 repeat' ((first |(refine ae.nL (gs:=AM) (gs1:=[_,_]) rfl fun K hK =>?_)|refine ae.aJ (by decide +kernel) rfl fun K hK =>?_|(refine .aA [0,1,3] hK ?_;clear hK K)|(with_reducible refine .done (hK _ ?_);clear hK K)|refine ae.of rfl ?_|(with_reducible refine aD.aI (fun h =>?_) (fun h =>?_) <;>try simp only[h])) <;>try simp only[aK,R,simprocAttr])
 all_goals clear R
 exact .call (wG hk hy (gQ hk))
theorem Ia{s:aB}{i:Nat}(hlt:i<s.all.length)(r:da){z:aq} : ∀ n,1000000≤n→aj ((bx 1000000 i,.box (enc r))::(3,z)::aL s) n=aj (aL { s with all:=s.all.set i r }) n:=by
 intro n hn;have hlen:(s.all.set i r).length=s.all.length:=List.length_set;simp only[aj];rw[if_neg (show ¬ n=3 by omega)];rcases xn 1000000 (bx 1000000) s.all.length n with h | h | h | h | h | ⟨h,j,hj,e⟩ | ⟨h,hno⟩
 ·subst h;rw[if_neg (by simp[bx];omega)];simp only[aL,fo,hlen]
 ·subst h;rw[if_neg (by simp[bx];omega)];simp only[aL,fL]
 ·subst h;rw[if_neg (by simp[bx];omega)];simp only[aL,fT];rfl
 ·subst h;rw[if_neg (by simp[bx];omega)];simp only[aL,fU];rfl
 ·subst h;rw[if_neg (by simp[bx];omega)];simp only[aL,n0]
 ·subst e;have J:=iW (B:=1000000) (ν:=bx 1000000) (s:=s) (dy _) hj;have U:=iW (B:=1000000) (ν:=bx 1000000) (s := { s with all:=s.all.set i r }) (dy _) (i:=j) (by simpa using hj);simp only[aL,J,U];by_cases e:j=i
  ·subst e;simp
  ·have:¬ bx 1000000 j=bx 1000000 i:=by simp[bx];omega
   rw[if_neg this];simp[Ne.symm e]
 ·have J:=eA (B:=1000000) (ν:=bx 1000000) (s:=s) h hno;have U:=eA (B:=1000000) (ν:=bx 1000000) (s := { s with all:=s.all.set i r }) h (by simpa using hno);simp only[aL,J,U];rw[if_neg (hno i hlt)]
theorem Fa(s:aB)(hk:cu s)(x:bg)(i:Nat)(hy:s.on x=some i)(hc:(s.b8 i).dp=false):cN Tryz.prog 128 [.ptr 1000000 [],enc x] (aL s) (mz { s with all:=s.all.set i { s.b8 i with dp:=true } }):=by
 refine cN.b7 Tryz.func128 zq zK JA (u8 rfl) (u8 rfl) dj (fun hwf W0 bI E1 =>?_);simp only[uu,CW,bK,Z1];clear hwf;have n3:aj (aL s) 3=none:=eA (.inl (by omega)) fun i _=>by simp[bx];omega
 have aW:aj (aL s) 1000000=some (.box (.agg [.int .i64 s.aw,.mref 1000001,.mref 1000002,.int .i64 s.all.length,.mref 1000003,.mref 1000004])):=fo;have J:aj (aL s) 1000001=some (.bp (s.here.map enc) (List.replicate s.here.length (.bool true))):=fL;have U:aj (aL s) 1000002=some (.bp (s.bA.map enc) (dN (bx 1000000) s.aQ)):=fT;have ah:aj (aL s) 1000003=some (.bp (s.dV.map enc) (s.bn.map enc)):=fU;have hfin:∀ ts,cQ (au ts ((3,.box (enc x))::aL s)) 9 (.agg [.int .i64 s.aw,.mref 1000001,.mref 1000002,.int .i64 s.all.length,.mref 1000003,.mref 1000004])=some (fK s):=fun ts =>
  gH (gK (dy _) hk.cw fun n hn=>by have:=dj n hn;simp only[aj];rw[if_neg (by omega)]) 4
 have hlk:=fZ eM x.aH s.here;rw[eC] at hlk;obtain ⟨ha,hb1,hb2⟩:=o7 hy;have hil:=(iY ha).1;have hno:=(iY ha).2;have hlt:=hk.cw i hil;have hb:aj (aL s) (bx 1000000 i)=some (.box (enc (s.b8 i))):=by
  have:=iW (dy s.all.length) (B:=1000000) hlt;rw[this];simp[aB.b8,Z0,hlt]
 have hst:∀ A rest,dk A none (bx 1000000 i) [3] (enc (s.b8 i)) (.bool true) rest (some (.bool false))=az rest (A.aV (bx 1000000 i) (.box (enc { s.b8 i with dp:=true }))):=fun A rest=>dP rfl rfl rfl;have R:=y6 @n3 (y6 @aW (y6 @U (y6 @hb (y6 @hc (y6 @hst (y6 @jF (y6 @bw (y6 @bt aG))))))))
 repeat' ((first |refine ae.aJ (by decide +kernel) rfl fun K hK =>?_|refine aR.re hk hlt (pC s hk x i hy) rfl ?_|refine .flat _ (kg) rfl ?_|(refine .aA [0,1,3,4] hK ?_;clear hK K)|(with_reducible refine .done (hK _ ?_);clear hK K)|refine ae.of rfl ?_|(with_reducible refine aD.aI (fun h =>?_) (fun h =>?_) <;>try simp only[h])) <;>try simp only[aK,R,simprocAttr])
 all_goals clear R
 rw[lR];exact lQ (fun n hn=>Ia hlt _ n (dj n hn)) (fun _ _ h=>h3 (s := { s with all:=s.all.set i { s.b8 i with dp:=true } }) ⟨fun j hj=>by simpa using hk.cw j hj,hk.iw,hk.af⟩ h) ⟨rfl,rfl⟩
theorem xA(s:aB)(hk:cu s)(x:bg)(hy:∀ i,s.on x=some i→(s.b8 i).dp=true):e8 Tryz.prog 128 fq [.ptr 1000000 [],enc x] (aL s) (jJ s):=by
 refine e8.mk Tryz.func128 zq zK (u8 rfl) (u8 rfl) dj (fun hwf W0 bI E1 =>?_);simp only[uu,bK,Z1];clear hwf;have n3:aj (aL s) 3=none:=eA (.inl (by omega)) fun i _=>by simp[bx];omega
 have aW:aj (aL s) 1000000=some (.box (.agg [.int .i64 s.aw,.mref 1000001,.mref 1000002,.int .i64 s.all.length,.mref 1000003,.mref 1000004])):=fo;have J:aj (aL s) 1000001=some (.bp (s.here.map enc) (List.replicate s.here.length (.bool true))):=fL;have U:aj (aL s) 1000002=some (.bp (s.bA.map enc) (dN (bx 1000000) s.aQ)):=fT;have ah:aj (aL s) 1000003=some (.bp (s.dV.map enc) (s.bn.map enc)):=fU;have hfin:∀ ts,cQ (au ts ((3,.box (enc x))::aL s)) 9 (.agg [.int .i64 s.aw,.mref 1000001,.mref 1000002,.int .i64 s.all.length,.mref 1000003,.mref 1000004])=some (fK s):=fun ts =>
  gH (gK (dy _) hk.cw fun n hn=>by have:=dj n hn;simp only[aj];rw[if_neg (by omega)]) 4
 have hlk:=fZ eM x.aH s.here;rw[eC] at hlk;cases hy2:s.on x with
 |none =>
  have R:=y6 @n3 (y6 @aW (y6 @U (y6 @jF (y6 @bw (y6 @bt aG)))))
  repeat' ((first |(refine ae.nL (gs:=AK) (gs1:=[_,_]) rfl fun K hK =>?_)|refine ae.aJ (by decide +kernel) rfl fun K hK =>?_|(refine .aA [0,1,3,4] hK ?_;clear hK K)|(with_reducible refine .done (hK _ ?_);clear hK K)|refine ae.of rfl ?_|(with_reducible refine aD.aI (fun h =>?_) (fun h =>?_) <;>try simp only[h])) <;>try simp only[aK,R,simprocAttr])
  all_goals clear R
  exact .call (wG hk hy2 (gQ hk))
 |some i =>
  have hc:=hy i hy2;have hy:=hy2;obtain ⟨ha,hb1,hb2⟩:=o7 hy;have hil:=(iY ha).1;have hno:=(iY ha).2;have hlt:=hk.cw i hil;have hb:aj (aL s) (bx 1000000 i)=some (.box (enc (s.b8 i))):=by
   have:=iW (dy s.all.length) (B:=1000000) hlt;rw[this];simp[aB.b8,Z0,hlt]
  have R:=y6 @n3 (y6 @aW (y6 @U (y6 @hb (y6 @hc (y6 @jF (y6 @bw (y6 @bt aG)))))))
  repeat' ((first |(refine ae.nL (gs:=AL) (gs1:=[_,_,_,_,_]) rfl fun K hK =>?_)|refine ae.aJ (by decide +kernel) rfl fun K hK =>?_|refine aR.re hk hlt (pC s hk x i hy) rfl ?_|(refine .aA [0,1,3,4] hK ?_;clear hK K)|(with_reducible refine .done (hK _ ?_);clear hK K)|refine ae.of rfl ?_|(with_reducible refine aD.aI (fun h =>?_) (fun h =>?_) <;>try simp only[h])) <;>try simp only[aK,R,simprocAttr])
  all_goals clear R
  exact .call (h0 (gQ hk))
theorem Fe(s:aB)(hk:cu s)(x:bg)(i:Nat)(hy:s.on x=some i)(hc:(s.b8 i).dp=true):cN Tryz.prog 130 [.ptr 1000000 [],enc x] (aL s) (mz { s with aQ:=s.aQ.erase i,here:=gD s.here x.aH }):=by
 refine cN.b7 Tryz.func130 zt zM JC (u8 rfl) (u8 rfl) dj (fun hwf W0 bI E1 =>?_);simp only[uw,CY,bK,Z1];clear hwf;have n3:aj (aL s) 3=none:=eA (.inl (by omega)) fun i _=>by simp[bx];omega
 have aW:aj (aL s) 1000000=some (.box (.agg [.int .i64 s.aw,.mref 1000001,.mref 1000002,.int .i64 s.all.length,.mref 1000003,.mref 1000004])):=fo;have J:aj (aL s) 1000001=some (.bp (s.here.map enc) (List.replicate s.here.length (.bool true))):=fL;have U:aj (aL s) 1000002=some (.bp (s.bA.map enc) (dN (bx 1000000) s.aQ)):=fT;have ah:aj (aL s) 1000003=some (.bp (s.dV.map enc) (s.bn.map enc)):=fU;have hfin:∀ ts,cQ (au ts ((3,.box (enc x))::aL s)) 9 (.agg [.int .i64 s.aw,.mref 1000001,.mref 1000002,.int .i64 s.all.length,.mref 1000003,.mref 1000004])=some (fK s):=fun ts =>
  gH (gK (dy _) hk.cw fun n hn=>by have:=dj n hn;simp only[aj];rw[if_neg (by omega)]) 4
 have hlk:=fZ eM x.aH s.here;rw[eC] at hlk;obtain ⟨ha,hb1,hb2⟩:=o7 hy;have hil:=(iY ha).1;have hno:=(iY ha).2;have hlt:=hk.cw i hil;have hb:aj (aL s) (bx 1000000 i)=some (.box (enc (s.b8 i))):=by
  have:=iW (dy s.all.length) (B:=1000000) hlt;rw[this];simp[aB.b8,Z0,hlt]
 have hdl:=BY (s:=s) (fun i=>.ptr (bx 1000000 i) []) hil;rw[←hno] at hdl;have hpt:(s.aQ.map fun i=>I.ptr (bx 1000000 i) [])=dN (bx 1000000) s.aQ:=rfl;rw[hpt] at hdl;have hup:=wc eM x.aH s.here;rw[eC] at hup;have R:=y6 @n3 (y6 @aW (y6 @J (y6 @U (y6 @hb (y6 @hc (y6 @hdl (y6 @hup (y6 @jF (y6 @bw (y6 @bt aG))))))))))
 repeat' ((first |refine ae.aJ (by decide +kernel) rfl fun K hK =>?_|refine aR.re hk hlt (pC s hk x i hy) rfl ?_|refine .flat _ (kg) rfl ?_|(refine .aA [0,1,3] hK ?_;clear hK K)|(with_reducible refine .done (hK _ ?_);clear hK K)|refine ae.of rfl ?_|(with_reducible refine aD.aI (fun h =>?_) (fun h =>?_) <;>try simp only[h])) <;>try simp only[aK,R,simprocAttr])
 all_goals clear R
 rw[lR];refine lQ (fun n hn =>?_) (fun _ _ h=>h3 (s := { s with aQ:=s.aQ.erase i,here:=gD s.here x.aH }) ⟨fun j hj=>hk.cw j (List.mem_of_mem_erase hj),hk.iw.erase _,mY hk.af⟩ h) ⟨rfl,rfl⟩;have:=dj n hn;simp only[aL,dX,aj];rw[if_neg (show ¬ n=3 by omega)]
 (repeat' split) <;>first | rfl | omega
theorem xB(s:aB)(hk:cu s)(x:bg)(hy:∀ i,s.on x=some i→(s.b8 i).dp=false):e8 Tryz.prog 130 fq [.ptr 1000000 [],enc x] (aL s) (jJ s):=by
 refine e8.mk Tryz.func130 zt zM (u8 rfl) (u8 rfl) dj (fun hwf W0 bI E1 =>?_);simp only[uw,bK,Z1];clear hwf;have n3:aj (aL s) 3=none:=eA (.inl (by omega)) fun i _=>by simp[bx];omega
 have aW:aj (aL s) 1000000=some (.box (.agg [.int .i64 s.aw,.mref 1000001,.mref 1000002,.int .i64 s.all.length,.mref 1000003,.mref 1000004])):=fo;have J:aj (aL s) 1000001=some (.bp (s.here.map enc) (List.replicate s.here.length (.bool true))):=fL;have U:aj (aL s) 1000002=some (.bp (s.bA.map enc) (dN (bx 1000000) s.aQ)):=fT;have ah:aj (aL s) 1000003=some (.bp (s.dV.map enc) (s.bn.map enc)):=fU;have hfin:∀ ts,cQ (au ts ((3,.box (enc x))::aL s)) 9 (.agg [.int .i64 s.aw,.mref 1000001,.mref 1000002,.int .i64 s.all.length,.mref 1000003,.mref 1000004])=some (fK s):=fun ts =>
  gH (gK (dy _) hk.cw fun n hn=>by have:=dj n hn;simp only[aj];rw[if_neg (by omega)]) 4
 have hlk:=fZ eM x.aH s.here;rw[eC] at hlk;cases hy2:s.on x with
 |none =>
  have R:=y6 @n3 (y6 @aW (y6 @U (y6 @jF (y6 @bw (y6 @bt aG)))))
  repeat' ((first |(refine ae.nL (gs:=vu) (gs1:=[_,_]) rfl fun K hK =>?_)|refine ae.aJ (by decide +kernel) rfl fun K hK =>?_|(refine .aA [0,1,3] hK ?_;clear hK K)|(with_reducible refine .done (hK _ ?_);clear hK K)|refine ae.of rfl ?_|(with_reducible refine aD.aI (fun h =>?_) (fun h =>?_) <;>try simp only[h])) <;>try simp only[aK,R,simprocAttr])
  all_goals clear R
  exact .call (wG hk hy2 (gQ hk))
 |some i =>
  have hc:=hy i hy2;have hy:=hy2;obtain ⟨ha,hb1,hb2⟩:=o7 hy;have hil:=(iY ha).1;have hno:=(iY ha).2;have hlt:=hk.cw i hil;have hb:aj (aL s) (bx 1000000 i)=some (.box (enc (s.b8 i))):=by
   have:=iW (dy s.all.length) (B:=1000000) hlt;rw[this];simp[aB.b8,Z0,hlt]
  have R:=y6 @n3 (y6 @aW (y6 @U (y6 @hb (y6 @hc (y6 @jF (y6 @bw (y6 @bt aG)))))))
  repeat' ((first |(refine ae.nL (gs:=vu) (gs1:=[_,_,_,_,_,_]) rfl fun K hK =>?_)|refine ae.aJ (by decide +kernel) rfl fun K hK =>?_|refine aR.re hk hlt (pC s hk x i hy) rfl ?_|(refine .aA [0,1,3] hK ?_;clear hK K)|(with_reducible refine .done (hK _ ?_);clear hK K)|refine ae.of rfl ?_|(with_reducible refine aD.aI (fun h =>?_) (fun h =>?_) <;>try simp only[h])) <;>try simp only[aK,R,simprocAttr])
  all_goals clear R
  exact .call (h0 (gQ hk))
theorem B8{s:aB}{x:bg}(h:fw x∉s.dV):fk (.bd [.i .i64,.i .i64]) (.agg [.int .i64 x.other,.int .i64 x.no]) (enc x) (s.dV.map enc) (s.bn.map enc)=some ((({ s with bn:=s.bn++[x] } : aB).dV).map enc,(s.bn++[x]).map enc):=by
 have hm:=wb uW (fw x) (enc x) (ep x) s.dV (s.bn.map enc);have hf:=pZ (k:=fw x) (ks:=s.dV);rw[decide_eq_false h] at hf;have e:(enc (fw x):I)=.agg [.int .i64 x.other,.int .i64 x.no]:=rfl;rw[e] at hm;rw[hm];cases hq:s.dV.findIdx? fun y=>decide (fw x=y) with
 |none=>simp[aB.dV]
 |some i=>rw[hq] at hf;cases hf
theorem EL{s:aB}{x:bg}(h:s.unknown x=true):fw x∉s.dV:=by
 simp only[aB.unknown,t8,Bool.not_eq_true',decide_eq_false_iff_not] at h;exact h.2
theorem yd(x:bg):(dK [.int .i64 0,.int .i64 0] [(0,.int .i64 x.other),(1,.int .i64 x.no)]).map I.agg=some (.agg [.int .i64 x.other,.int .i64 x.no]):=by simp[dK,I.bS,I.size]
theorem Fh(s:aB)(hk:cu s)(x:bg)(hy:s.unknown x=true):cN Tryz.prog 132 [.ptr 1000000 [],enc x] (aL s) (mz { s with bn:=s.bn++[x] }):=by
 refine cN.b7 Tryz.func132 zw zO JE (u8 rfl) (u8 rfl) dj (fun hwf W0 bI E1 =>?_);simp only[uy,C0,bK,Z1];clear hwf;have n3:aj (aL s) 3=none:=eA (.inl (by omega)) fun i _=>by simp[bx];omega
 have aW:aj (aL s) 1000000=some (.box (.agg [.int .i64 s.aw,.mref 1000001,.mref 1000002,.int .i64 s.all.length,.mref 1000003,.mref 1000004])):=fo;have J:aj (aL s) 1000001=some (.bp (s.here.map enc) (List.replicate s.here.length (.bool true))):=fL;have U:aj (aL s) 1000002=some (.bp (s.bA.map enc) (dN (bx 1000000) s.aQ)):=fT;have ah:aj (aL s) 1000003=some (.bp (s.dV.map enc) (s.bn.map enc)):=fU;have hfin:∀ ts,cQ (au ts ((3,.box (enc x))::aL s)) 9 (.agg [.int .i64 s.aw,.mref 1000001,.mref 1000002,.int .i64 s.all.length,.mref 1000003,.mref 1000004])=some (fK s):=fun ts =>
  gH (gK (dy _) hk.cw fun n hn=>by have:=dj n hn;simp only[aj];rw[if_neg (by omega)]) 4
 have hlk:=fZ eM x.aH s.here;rw[eC] at hlk;have hF:=rK s x;rw[hy] at hF;have hup:=B8 (EL hy);have R:=y6 @n3 (y6 @aW (y6 @ah (y6 @hfin (y6 @hup (y6 @yd (y6 @bw (y6 @bt aG)))))))
 repeat' ((first |refine ae.aJ (by decide +kernel) rfl fun K hK =>?_|refine .flat _ (hF) rfl ?_|refine .flat _ (kg) rfl ?_|(refine .aA [0,1,3] hK ?_;clear hK K)|(with_reducible refine .done (hK _ ?_);clear hK K)|refine ae.of rfl ?_|(with_reducible refine aD.aI (fun h =>?_) (fun h =>?_) <;>try simp only[h])) <;>try simp only[aK,R,simprocAttr])
 all_goals clear R
 rw[lR];refine lQ (fun n hn =>?_) (fun _ _ h=>h3 (s := { s with bn:=s.bn++[x] }) ⟨hk.cw,hk.iw,hk.af⟩ h) ⟨rfl,rfl⟩;have:=dj n hn;simp only[aL,dX,aj];rw[if_neg (show ¬ n=3 by omega)]
 (repeat' split) <;>first | rfl | omega
theorem Fi(s:aB)(hk:cu s)(x:bg)(hy:s.unknown x=false):e8 Tryz.prog 132 fq [.ptr 1000000 [],enc x] (aL s) (jJ s):=by
 refine e8.mk Tryz.func132 zw zO (u8 rfl) (u8 rfl) dj (fun hwf W0 bI E1 =>?_);simp only[uy,bK,Z1];clear hwf;have n3:aj (aL s) 3=none:=eA (.inl (by omega)) fun i _=>by simp[bx];omega
 have aW:aj (aL s) 1000000=some (.box (.agg [.int .i64 s.aw,.mref 1000001,.mref 1000002,.int .i64 s.all.length,.mref 1000003,.mref 1000004])):=fo;have J:aj (aL s) 1000001=some (.bp (s.here.map enc) (List.replicate s.here.length (.bool true))):=fL;have U:aj (aL s) 1000002=some (.bp (s.bA.map enc) (dN (bx 1000000) s.aQ)):=fT;have ah:aj (aL s) 1000003=some (.bp (s.dV.map enc) (s.bn.map enc)):=fU;have hfin:∀ ts,cQ (au ts ((3,.box (enc x))::aL s)) 9 (.agg [.int .i64 s.aw,.mref 1000001,.mref 1000002,.int .i64 s.all.length,.mref 1000003,.mref 1000004])=some (fK s):=fun ts =>
  gH (gK (dy _) hk.cw fun n hn=>by have:=dj n hn;simp only[aj];rw[if_neg (by omega)]) 4
 have hlk:=fZ eM x.aH s.here;rw[eC] at hlk;have hF:=rK s x;rw[hy] at hF;have R:=y6 @n3 (y6 @aW (y6 @ah (y6 @hfin (y6 @bw (y6 @bt aG)))))
 repeat' ((first |(refine ae.nL (gs:=AN) (gs1:=[_,_,_]) rfl fun K hK =>?_)|refine ae.aJ (by decide +kernel) rfl fun K hK =>?_|refine .flat _ (hF) rfl ?_|(refine .aA [0,1,3] hK ?_;clear hK K)|(with_reducible refine .done (hK _ ?_);clear hK K)|refine ae.of rfl ?_|(with_reducible refine aD.aI (fun h =>?_) (fun h =>?_) <;>try simp only[h])) <;>try simp only[aK,R,simprocAttr])
 all_goals clear R
 exact .call (h0 (gQ hk))
theorem Ff(s:aB)(hk:cu s)(x:bg)(hy:s.unknown x=true∧x.aH∉s.here∧s.e7 x.aH=false):cN Tryz.prog 131 [.ptr 1000000 [],enc x] (aL s) (mz { s with bn:=s.bn++[x],here:=gD s.here x.aH }):=by
 refine cN.b7 Tryz.func131 zu zN JD (u8 rfl) (u8 rfl) dj (fun hwf W0 bI E1 =>?_);simp only[ux,CZ,bK,Z1];clear hwf;have n3:aj (aL s) 3=none:=eA (.inl (by omega)) fun i _=>by simp[bx];omega
 have aW:aj (aL s) 1000000=some (.box (.agg [.int .i64 s.aw,.mref 1000001,.mref 1000002,.int .i64 s.all.length,.mref 1000003,.mref 1000004])):=fo;have J:aj (aL s) 1000001=some (.bp (s.here.map enc) (List.replicate s.here.length (.bool true))):=fL;have U:aj (aL s) 1000002=some (.bp (s.bA.map enc) (dN (bx 1000000) s.aQ)):=fT;have ah:aj (aL s) 1000003=some (.bp (s.dV.map enc) (s.bn.map enc)):=fU;have hfin:∀ ts,cQ (au ts ((3,.box (enc x))::aL s)) 9 (.agg [.int .i64 s.aw,.mref 1000001,.mref 1000002,.int .i64 s.all.length,.mref 1000003,.mref 1000004])=some (fK s):=fun ts =>
  gH (gK (dy _) hk.cw fun n hn=>by have:=dj n hn;simp only[aj];rw[if_neg (by omega)]) 4
 have hlk:=fZ eM x.aH s.here;rw[eC] at hlk;have hF:=rK s x;rw[hy.1] at hF;have hF2:=pG s x.aH;rw[hy.2.2] at hF2;have q1:decide (x.aH∈s.here)=false:=decide_eq_false hy.2.1;have hup:=B8 (EL hy.1);have hup2:=wc eM x.aH s.here;rw[eC] at hup2;have R:=y6 @n3 (y6 @aW (y6 @J (y6 @ah (y6 @hfin (y6 @hlk (y6 @q1 (y6 @hup (y6 @hup2 (y6 @yd (y6 @bw (y6 @bt aG)))))))))))
 repeat' ((first |(with_reducible refine .guard (fun hb =>?_) (fun hb =>?_) <;>try simp only[hb])|refine ae.aJ (by decide +kernel) rfl fun K hK =>?_|refine .flat _ (hF) rfl ?_|refine .flat _ (hF2) rfl ?_|refine .flat _ (kg) rfl ?_|(refine .aA [0,1,3] hK ?_;clear hK K)|(with_reducible refine .done (hK _ ?_);clear hK K)|refine ae.of rfl ?_|(with_reducible refine aD.aI (fun h =>?_) (fun h =>?_) <;>try simp only[h])) <;>try simp only[aK,R,simprocAttr])
 all_goals clear R
 rw[lR];refine lQ (fun n hn =>?_) (fun _ _ h=>h3 (s := { s with bn:=s.bn++[x],here:=gD s.here x.aH }) ⟨hk.cw,hk.iw,mY hk.af⟩ h) ⟨rfl,rfl⟩;have:=dj n hn;simp only[aL,dX,aj];rw[if_neg (show ¬ n=3 by omega)]
 (repeat' split) <;>first | rfl | omega
theorem Fg(s:aB)(hk:cu s)(x:bg)(hy:¬ (s.unknown x=true∧x.aH∉s.here∧s.e7 x.aH=false)):e8 Tryz.prog 131 fq [.ptr 1000000 [],enc x] (aL s) (jJ s):=by
 refine e8.mk Tryz.func131 zu zN (u8 rfl) (u8 rfl) dj (fun hwf W0 bI E1 =>?_);simp only[ux,bK,Z1];clear hwf;have n3:aj (aL s) 3=none:=eA (.inl (by omega)) fun i _=>by simp[bx];omega
 have aW:aj (aL s) 1000000=some (.box (.agg [.int .i64 s.aw,.mref 1000001,.mref 1000002,.int .i64 s.all.length,.mref 1000003,.mref 1000004])):=fo;have J:aj (aL s) 1000001=some (.bp (s.here.map enc) (List.replicate s.here.length (.bool true))):=fL;have U:aj (aL s) 1000002=some (.bp (s.bA.map enc) (dN (bx 1000000) s.aQ)):=fT;have ah:aj (aL s) 1000003=some (.bp (s.dV.map enc) (s.bn.map enc)):=fU;have hfin:∀ ts,cQ (au ts ((3,.box (enc x))::aL s)) 9 (.agg [.int .i64 s.aw,.mref 1000001,.mref 1000002,.int .i64 s.all.length,.mref 1000003,.mref 1000004])=some (fK s):=fun ts =>
  gH (gK (dy _) hk.cw fun n hn=>by have:=dj n hn;simp only[aj];rw[if_neg (by omega)]) 4
 have hlk:=fZ eM x.aH s.here;rw[eC] at hlk;have hF:=rK s x;have hF2:=pG s x.aH;rcases q0:s.unknown x
 ·rw[q0] at hF;have R:=y6 @n3 (y6 @aW (y6 @J (y6 @ah (y6 @hfin (y6 @hlk (y6 @bw (y6 @bt aG)))))))
  repeat' ((first |(with_reducible refine .guard (fun hb =>?_) (fun hb =>?_) <;>try simp only[hb])|(refine ae.jj (gs:=np) 20 [] [] [0,1,2,3,4,5,6,7,8,9,10,11,12,13,14,15,16,17,18,19] (by decide +kernel) rfl (cP.of (by simp[fh])) fun K hK =>?_;simp only[eZ,np,gf,Z9,X4,List.take_zero,Y5,Y6,R,simprocAttr])|refine ae.aJ (by decide +kernel) rfl fun K hK =>?_|refine .flat _ (hF) rfl ?_|(refine .aA [0,1,3] hK ?_;clear hK K)|(with_reducible refine .done (hK _ ?_);clear hK K)|refine ae.of rfl ?_|(with_reducible refine aD.aI (fun h =>?_) (fun h =>?_) <;>try simp only[h])) <;>try simp only[aK,R,simprocAttr])
  all_goals clear R
  exact .call (h0 (gQ hk))
 rw[q0] at hF;rcases q1:decide (x.aH∈s.here)
 ·have q2:s.e7 x.aH=true:=by
   rcases q2:s.e7 x.aH
   ·exact absurd ⟨q0,of_decide_eq_false q1,q2⟩ hy
   ·rfl
  rw[q2] at hF2;have R:=y6 @n3 (y6 @aW (y6 @J (y6 @ah (y6 @hfin (y6 @hlk (y6 @q1 (y6 @bw (y6 @bt aG))))))))
  repeat' ((first |(with_reducible refine .guard (fun hb =>?_) (fun hb =>?_) <;>try simp only[hb])|(refine ae.jj (gs:=np) 20 [] [] [0,1,2,3,4,5,6,7,8,9,10,11,12,13,14,15,16,17,18,19] (by decide +kernel) rfl (cP.of (by simp[fh])) fun K hK =>?_;simp only[eZ,np,gf,Z9,X4,List.take_zero,Y5,Y6,R,simprocAttr])|refine ae.aJ (by decide +kernel) rfl fun K hK =>?_|refine .flat _ (hF) rfl ?_|refine .flat _ (hF2) rfl ?_|(refine .aA [0,1,3] hK ?_;clear hK K)|(with_reducible refine .done (hK _ ?_);clear hK K)|refine ae.of rfl ?_|(with_reducible refine aD.aI (fun h =>?_) (fun h =>?_) <;>try simp only[h])) <;>try simp only[aK,R,simprocAttr])
  all_goals clear R
  exact .call (h0 (gQ hk))
 ·have R:=y6 @n3 (y6 @aW (y6 @J (y6 @ah (y6 @hfin (y6 @hlk (y6 @q1 (y6 @bw (y6 @bt aG))))))))
  repeat' ((first |(with_reducible refine .guard (fun hb =>?_) (fun hb =>?_) <;>try simp only[hb])|(refine ae.jj (gs:=np) 20 [] [] [0,1,2,3,4,5,6,7,8,9,10,11,12,13,14,15,16,17,18,19] (by decide +kernel) rfl (cP.of (by simp[fh])) fun K hK =>?_;simp only[eZ,np,gf,Z9,X4,List.take_zero,Y5,Y6,R,simprocAttr])|refine ae.aJ (by decide +kernel) rfl fun K hK =>?_|refine .flat _ (hF) rfl ?_|(refine .aA [0,1,3] hK ?_;clear hK K)|(with_reducible refine .done (hK _ ?_);clear hK K)|refine ae.of rfl ?_|(with_reducible refine aD.aI (fun h =>?_) (fun h =>?_) <;>try simp only[h])) <;>try simp only[aK,R,simprocAttr])
  all_goals clear R
  exact .call (h0 (gQ hk))
abbrev gm(k:Nat)(s:aB):List (Nat×aq):=dX 1000000 (fJ 1000000 57 k) s
def s9(k:Nat)(s:aB):cA:=fun r os'=>r=.tuple []∧os'=gm k s
theorem gx{k m:Nat}(h:m≤k+1):ga 1000000 (fJ 1000000 57 k) m:=ga.fJ (by omega) h
theorem tx{s:aB}(hk:cu s){k:Nat}(h:s.all.length≤k):gm k s=aL s:=Xh hk.cw fun i hi=>lG (by omega)
def iD(s:aB)(x:bg):aB := { s with here:=s.here.erase x.aH,all:=s.all++[⟨x.no,x.other,x.aH,false⟩],aQ:=s.aQ++[s.all.length] }
theorem WW{s:aB}(hk:cu s)(x:bg):cu (iD s x):=by
 refine ⟨fun i hi =>?_,?_,hk.af.erase _⟩
 ·simp only[iD,X5,X3] at hi;simp only[iD,Z6,List.length_singleton];rcases hi with hi | hi
  ·have:=hk.cw i hi;omega
  ·omega
 ·exact List.nodup_append.2 ⟨hk.iw,by simp,fun a ha c hc e=>by rw[X3.1 hc] at e;have:=hk.cw a ha;omega⟩
theorem UT{s:aB}(hk:cu s){no:Int}(hno:no=(s.all.length:Int)+1)(v:I)(hv:v.bS=true):fk (.i .i64) (.int .i64 no) v (s.bA.map enc) (dN (bx 1000000) s.aQ)=some ((s.bA++[no]).map enc,dN (bx 1000000) s.aQ++[v]):=by
 have hm:=wb eM no v hv s.bA (dN (bx 1000000) s.aQ);rw[eC] at hm;rw[hm];have hf:=pZ (k:=no) (ks:=s.bA);have:no∉s.bA:=fun h=>by
  obtain ⟨i,hi,e⟩:=X1.1 h;have:=hk.cw i hi;omega
 rw[decide_eq_false this] at hf;cases hq:s.bA.findIdx? fun y=>decide (no=y) with
 |none=>rfl
 |some i=>rw[hq] at hf;cases hf
theorem E8(s:aB)(hk:cu s)(hlen:s.all.length≤100000)(x:bg)(hy:x.aH∈s.here∧x.other≠s.aw∧x.no=(s.all.length:Int)+1):cN Tryz.prog 127 [.ptr 1000000 [],enc x] (aL s) (s9 s.all.length (iD s x)):=by
 refine cN.b7 Tryz.func127 zp zJ Jz (u8 rfl) (u8 rfl) dj (fun hwf W0 bI E1 =>?_);simp only[ur,CV,bK,Z1];clear hwf;have n3:aj (aL s) 3=none:=eA (.inl (by omega)) fun i _=>by simp[bx];omega
 have n57:aj (aL s) 57=none:=eA (.inl (by omega)) fun i _=>by simp[bx];omega
 have aW:aj (aL s) 1000000=some (.box (.agg [.int .i64 s.aw,.mref 1000001,.mref 1000002,.int .i64 s.all.length,.mref 1000003,.mref 1000004])):=fo;have J:aj (aL s) 1000001=some (.bp (s.here.map enc) (List.replicate s.here.length (.bool true))):=fL;have U:aj (aL s) 1000002=some (.bp (s.bA.map enc) (dN (bx 1000000) s.aQ)):=fT;have hlk:=fZ eM x.aH s.here;rw[eC] at hlk;have q1:decide (x.aH∈s.here)=true:=decide_eq_true hy.1;have q2:(x.other != s.aw)=true:=by simpa using hy.2.1
 have hw:IntKind.i64.wrap ((s.all.length:Int)+1)=(s.all.length:Int)+1:=l3 _ (by omega) (by omega);have q3:(x.no==(s.all.length:Int)+1)=true:=by simpa using hy.2.2
 have hdl:=BX hy.1;have hup:=UT hk hy.2.2 (.ptr 57 []) rfl;have hst:∀ A rest,dk A none 1000000 [3] (.agg [.int .i64 s.aw,.mref 1000001,.mref 1000002,.int .i64 s.all.length,.mref 1000003,.mref 1000004]) (.int .i64 ((s.all.length:Int)+1)) rest (some (.int .i64 s.all.length)) =
   az rest (A.aV 1000000 (.box (.agg [.int .i64 s.aw,.mref 1000001,.mref 1000002,.int .i64 ((s.all.length:Int)+1),.mref 1000003,.mref 1000004]))):=fun A rest=>dP rfl rfl rfl
 have hbld:(dK [.int .i64 0,.int .i64 0,.int .i64 0,.bool false] [(0,.int .i64 x.no),(1,.int .i64 x.other),(2,.int .i64 x.aH)]).map I.agg=some (enc (⟨x.no,x.other,x.aH,false⟩:da)):=by simp[dK,I.bS,I.size];rfl
 have offT:∀ (a b:Int) v,dq [.int .i64 a,.mref 1000001,.mref 1000002,.int .i64 (b+1),.mref 1000003,.mref 1000004] 2 2 v=some v:=fun a b v=>rfl;have R:=y6 @n3 (y6 @n57 (y6 @aW (y6 @J (y6 @U (y6 @hlk (y6 @q1 (y6 @q2 (y6 @hw (y6 @q3 (y6 @hdl (y6 @hup (y6 @hst (y6 @hbld (y6 @offT (y6 @bw (y6 @bt aG))))))))))))))))
 repeat' ((first |(with_reducible refine .guard (fun hb =>?_) (fun hb =>?_) <;>try simp only[hb])|refine ae.aJ (by decide +kernel) rfl fun K hK =>?_|refine .flat _ (kg) rfl ?_|(refine .aA [0,1,3] hK ?_;clear hK K)|(with_reducible refine .done (hK _ ?_);clear hK K)|refine ae.of rfl ?_|(with_reducible refine aD.aI (fun h =>?_) (fun h =>?_) <;>try simp only[h])) <;>try simp only[aK,R,simprocAttr])
 all_goals clear R
 rw[lR];have hg:=gx (k:=s.all.length) (m:=(iD s x).all.length) (by simp[iD]);refine lQ (fun n hn =>?_) (fun _ _ h=>kU hg (WW hk x).cw h) ⟨rfl,rfl⟩;have hl1:(iD s x).all.length=s.all.length+1:=by simp[iD]
 have hp:dN (fJ 1000000 57 s.all.length) (s.aQ++[s.all.length])=dN (bx 1000000) s.aQ++[.ptr 57 []]:=by
  simp only[dN,Y3,Z3,X7]
  congr 1
  ·exact List.map_congr_left fun i hi=>by rw[lG (hk.cw i hi)]
  ·simp[fJ]
 have hnu:(iD s x).bA=s.bA++[x.no]:=by simp[aB.bA,iD,hy.2.2]
 rcases (dG hg).1 hn with hb | ⟨j,hj,rfl⟩
 ·have hc:n=1000000∨n=1000001∨n=1000002∨n=1000003∨n=1000004:=by omega
  rcases hc with rfl | rfl | rfl | rfl | rfl
  ·rw[fo];simp[aj,mQ,iD]
  ·rw[show (1000001:Nat)=1000000+1 from rfl,fL];simp[aj,oK,iD]
  ·rw[show (1000002:Nat)=1000000+2 from rfl,fT];simp only[nQ,hnu];simp only[iD,hp];simp[aj]
  ·rw[show (1000003:Nat)=1000000+3 from rfl,fU];have:=fU (B:=1000000) (ν:=bx 1000000) (s:=s);simp only[aj,Nat.reduceAdd,Nat.reduceEqDiff,if_false];exact this
  ·rw[show (1000004:Nat)=1000000+4 from rfl,n0];have:=n0 (B:=1000000) (ν:=bx 1000000) (s:=s);simp only[aj,Nat.reduceAdd,Nat.reduceEqDiff,if_false];exact this
 ·rw[iW hg hj];by_cases e:j=s.all.length
  ·subst e;simp[aj,fJ,iD]
  ·have hj2:j<s.all.length:=by omega
   rw[lG hj2];have:=iW (B:=1000000) (ν:=bx 1000000) (s:=s) (dy _) hj2;simp only[aj];rw[if_neg (by simp[bx];omega),if_neg (by simp[bx];omega),if_neg (by simp[bx];omega),if_neg (by simp[bx];omega),if_neg (by simp[bx];omega),this];simp[iD,List.getElem_append_left hj2]
theorem E9(s:aB)(hk:cu s)(hlen:s.all.length≤100000)(x:bg)(hy:¬ (x.aH∈s.here∧x.other≠s.aw∧x.no=(s.all.length:Int)+1)):e8 Tryz.prog 127 fq [.ptr 1000000 [],enc x] (aL s) (jJ s):=by
 refine e8.mk Tryz.func127 zp zJ (u8 rfl) (u8 rfl) dj (fun hwf W0 bI E1 =>?_);simp only[ur,bK,Z1];clear hwf;have n3:aj (aL s) 3=none:=eA (.inl (by omega)) fun i _=>by simp[bx];omega
 have aW:aj (aL s) 1000000=some (.box (.agg [.int .i64 s.aw,.mref 1000001,.mref 1000002,.int .i64 s.all.length,.mref 1000003,.mref 1000004])):=fo;have J:aj (aL s) 1000001=some (.bp (s.here.map enc) (List.replicate s.here.length (.bool true))):=fL;have hlk:=fZ eM x.aH s.here;rw[eC] at hlk;have hw:IntKind.i64.wrap ((s.all.length:Int)+1)=(s.all.length:Int)+1:=l3 _ (by omega) (by omega);rcases q1:decide (x.aH∈s.here)
 ·have R:=y6 @n3 (y6 @aW (y6 @J (y6 @hlk (y6 @q1 (y6 @bw (y6 @bt aG))))))
  repeat' ((first |(with_reducible refine .guard (fun hb =>?_) (fun hb =>?_) <;>try simp only[hb])|(refine ae.jj (gs:=nm) 26 [] [] [0,1,2,3,4,5,6,7,8,9,10,11,12,13,14,15,16,17,18,19,20,21,22,23,24,25] (by decide +kernel) rfl (cP.of (by simp[fh])) fun K hK =>?_;simp only[eZ,nm,gf,Z9,X4,List.take_zero,Y5,Y6,R,simprocAttr])|refine ae.aJ (by decide +kernel) rfl fun K hK =>?_|(refine .aA [0,1,3] hK ?_;clear hK K)|(with_reducible refine .done (hK _ ?_);clear hK K)|refine ae.of rfl ?_|(with_reducible refine aD.aI (fun h =>?_) (fun h =>?_) <;>try simp only[h])) <;>try simp only[aK,R,simprocAttr])
  all_goals clear R
  exact .call (h0 (gQ hk))
 rcases q2:(x.other != s.aw)
 ·have R:=y6 @n3 (y6 @aW (y6 @J (y6 @hlk (y6 @q1 (y6 @q2 (y6 @bw (y6 @bt aG)))))))
  repeat' ((first |(with_reducible refine .guard (fun hb =>?_) (fun hb =>?_) <;>try simp only[hb])|(refine ae.jj (gs:=nm) 26 [] [] [0,1,2,3,4,5,6,7,8,9,10,11,12,13,14,15,16,17,18,19,20,21,22,23,24,25] (by decide +kernel) rfl (cP.of (by simp[fh])) fun K hK =>?_;simp only[eZ,nm,gf,Z9,X4,List.take_zero,Y5,Y6,R,simprocAttr])|refine ae.aJ (by decide +kernel) rfl fun K hK =>?_|(refine .aA [0,1,3] hK ?_;clear hK K)|(with_reducible refine .done (hK _ ?_);clear hK K)|refine ae.of rfl ?_|(with_reducible refine aD.aI (fun h =>?_) (fun h =>?_) <;>try simp only[h])) <;>try simp only[aK,R,simprocAttr])
  all_goals clear R
  exact .call (h0 (gQ hk))
 have q3:(x.no==(s.all.length:Int)+1)=false:=by
  rcases q3:(x.no==(s.all.length:Int)+1)
  ·rfl
  ·exact absurd ⟨of_decide_eq_true q1,by simpa using q2,by simpa using q3⟩ hy
 have R:=y6 @n3 (y6 @aW (y6 @J (y6 @hlk (y6 @q1 (y6 @q2 (y6 @hw (y6 @q3 (y6 @bw (y6 @bt aG)))))))))
 repeat' ((first |(with_reducible refine .guard (fun hb =>?_) (fun hb =>?_) <;>try simp only[hb])|(refine ae.jj (gs:=nm) 26 [] [] [0,1,2,3,4,5,6,7,8,9,10,11,12,13,14,15,16,17,18,19,20,21,22,23,24,25] (by decide +kernel) rfl (cP.of (by simp[fh])) fun K hK =>?_;simp only[eZ,nm,gf,Z9,X4,List.take_zero,Y5,Y6,R,simprocAttr])|refine ae.aJ (by decide +kernel) rfl fun K hK =>?_|(refine .aA [0,1,3] hK ?_;clear hK K)|(with_reducible refine .done (hK _ ?_);clear hK K)|refine ae.of rfl ?_|(with_reducible refine aD.aI (fun h =>?_) (fun h =>?_) <;>try simp only[h])) <;>try simp only[aK,R,simprocAttr])
 all_goals clear R
 exact .call (h0 (gQ hk))
def dY(s:aB)(x:bg):aB×Bool:=match gp s x with
 |some s'=>(s',true)
 |none=>(s,false)
def CB(s:aB)(x:bg):cA:=fun r os'=>r=.bool (dY s x).2∧os'=gm s.all.length (dY s x).1
def jc(B:Nat):List I:=[.func 1000125 [.ptr B []],.func 1000126 [.ptr B []],.func 1000127 [.ptr B []],.func 1000128 [.ptr B []],.func 1000129 [.ptr B []],.func 1000130 [.ptr B []],.func 1000131 [.ptr B []],.func 1000132 [.ptr B []]]
def ke(s:aB)(x:bg)(f:FuncId):Prop:=match eL s x with
 |some s'=>cN Tryz.prog f [.ptr 1000000 [],enc x] (aL s) (s9 s.all.length s')
 |none=>e8 Tryz.prog f fq [.ptr 1000000 [],enc x] (aL s) (jJ s)
theorem cN.post{P:Program}{f:FuncId}{args:List I}{os:List (Nat×aq)}{post post':cA}(h:cN P f args os post)(hp:∀ r os',post r os'→post' r os'):cN P f args os post' :=
 ⟨h.1,fun w D E vs ab hD ho hv=>(h.2 w D E vs ab hD ho hv).mono fun _ _ ⟨v,D',E',r,os',k1,k2,k⟩=>⟨v,D',E',r,os',k1,hp _ _ k2,k⟩⟩
theorem nG{s s':aB}{x:bg}(hk:cu s)(hn:eL s x=some s')(hx:x.kind≠3):∀ r os',mz s' r os'→s9 s.all.length s' r os':=by
 rintro r os' ⟨rfl,rfl⟩;obtain ⟨J,_,_,ar⟩:=hk.next hn
 exact ⟨rfl,(tx J (Nat.le_of_eq (ar hx))).symm⟩
theorem vY{s:aB}(hk:cu s)(hlen:s.all.length≤100000){x:bg}(hx:gz x=true) :
  ∃ f:Nat,fj (.i .i64) .dn (.int .i64 x.kind) gy (jc 1000000)=some (.func (f+1000000) [.ptr 1000000 []],true)∧[125,126,127,128,129,130,131,132].contains f=true∧ke s x f:=by
 have ar:x.kind=1∨x.kind=2∨x.kind=3∨x.kind=4∨x.kind=5∨x.kind=6∨x.kind=7∨x.kind=8:=by
  simp only[gz] at hx;split at hx
  ·omega
  ·split at hx
   ·omega
   ·cases hx
 have lk:∀ n:Int,x.kind=n→fj (.i .i64) .dn (.int .i64 x.kind) gy (jc 1000000)=fj (.i .i64) .dn (.int .i64 n) gy (jc 1000000):=fun n h=>by rw[h]
 rcases ar with h | h | h | h | h | h | h | h
 ·refine ⟨125,by rw[h];simp[fj,ev,bX,gy,jc],rfl,?_⟩;simp only[ke,eL,h,if_true];split
  ·rename_i s' ab;split at ab
   ·cases ab
   ·rename_i bH;cases ab;have hy:x.aH∉s.here∧s.e7 x.aH=false:=⟨fun h=>bH (.inl h),by rcases q:s.e7 x.aH;rfl;exact absurd (.inr q) bH⟩
    exact cN.post (E0 s hk x hy) (nG (x:=x) hk (by simp[eL,h,hy.1,hy.2]) (by omega))
  ·rename_i ab;split at ab
   ·rename_i bH;exact E5 s hk x bH
   ·cases ab
 ·refine ⟨126,by rw[h];simp[fj,ev,bX,gy,jc],rfl,?_⟩;simp only[ke,eL,h,Int.reduceEq,if_false,if_true];split
  ·rename_i s' ab;split at ab
   ·rename_i bH;cases ab;exact cN.post (E6 s hk x bH) (nG (x:=x) hk (by simp[eL,h,bH]) (by omega))
   ·cases ab
  ·rename_i ab;split at ab
   ·cases ab
   ·rename_i bH;exact E7 s hk x bH
 ·refine ⟨127,by rw[h];simp[fj,ev,bX,gy,jc],rfl,?_⟩;simp only[ke,eL,h,Int.reduceEq,if_false,if_true];split
  ·rename_i s' ab;split at ab
   ·rename_i bH;cases ab;exact E8 s hk hlen x bH
   ·cases ab
  ·rename_i ab;split at ab
   ·cases ab
   ·rename_i bH;exact E9 s hk hlen x bH
 ·refine ⟨128,by rw[h];simp[fj,ev,bX,gy,jc],rfl,?_⟩;simp only[ke,eL,h,Int.reduceEq,if_false,if_true];cases ho:s.on x with
  |none=>exact xA s hk x fun i hi=>by rw[ho] at hi;cases hi
  |some i =>
   cases hc:(s.b8 i).dp with
   |true =>
    simp only[hc,if_true];exact xA s hk x fun j hj=>by rw[ho] at hj;cases hj;exact hc
   |false =>
    simp only[hc,Z2,if_false];exact cN.post (Fa s hk x i ho hc) (nG (x:=x) hk (by simp[eL,h,ho,hc]) (by omega))
 ·refine ⟨129,by rw[h];simp[fj,ev,bX,gy,jc],rfl,?_⟩;simp only[ke,eL,h,Int.reduceEq,if_false,if_true];cases ho:s.on x with
  |none=>exact Fc s hk x ho
  |some i=>exact cN.post (Fb s hk x i ho) (nG (x:=x) hk (by simp[eL,h,ho]) (by omega))
 ·refine ⟨130,by rw[h];simp[fj,ev,bX,gy,jc],rfl,?_⟩;simp only[ke,eL,h,Int.reduceEq,if_false,if_true];cases ho:s.on x with
  |none=>exact xB s hk x fun i hi=>by rw[ho] at hi;cases hi
  |some i =>
   cases hc:(s.b8 i).dp with
   |false =>
    simp only[hc,Z2,if_false];exact xB s hk x fun j hj=>by rw[ho] at hj;cases hj;exact hc
   |true =>
    simp only[hc,if_true];exact cN.post (Fe s hk x i ho hc) (nG (x:=x) hk (by simp[eL,h,ho,hc]) (by omega))
 ·refine ⟨131,by rw[h];simp[fj,ev,bX,gy,jc],rfl,?_⟩;simp only[ke,eL,h,Int.reduceEq,if_false,if_true];split
  ·rename_i s' ab;split at ab
   ·rename_i bH;cases ab;exact cN.post (Ff s hk x bH) (nG (x:=x) hk (by simp[eL,h,bH.1,bH.2.1,bH.2.2]) (by omega))
   ·cases ab
  ·rename_i ab;split at ab
   ·cases ab
   ·rename_i bH;exact Fg s hk x bH
 ·refine ⟨132,by rw[h];simp[fj,ev,bX,gy,jc],rfl,?_⟩;simp only[ke,eL,h,Int.reduceEq,if_false,if_true];cases hu:s.unknown x with
  |true =>
   simp only[if_true];exact cN.post (Fh s hk x hu) (nG (x:=x) hk (by simp[eL,h,hu]) (by omega))
  |false =>
   simp only[Z2,if_false];exact Fi s hk x hu
def dF(x:bg)(b:Bool)(l:List (Nat×aq)):List (Nat×aq):=(1900004,.box (.bool b))::(1900003,.box (enc x))::l
def lI(s:aB)(x:bg):cA:=fun r os'=>r=.bool (dY s x).2∧os'=dF x (dY s x).2 (gm s.all.length (dY s x).1)
def kM:List (Nat×Nat):=[(1900003,3),(1900004,4)]
theorem rq{s:aB}(hk:cu s)(x:bg):cu (dY s x).1∧(dY s x).1.aw=s.aw∧s.all.length≤(dY s x).1.all.length∧(dY s x).1.all.length≤s.all.length+1:=by
 simp only[dY];cases h:gp s x with
 |none=>exact ⟨hk,rfl,Z4 _,by simp⟩
 |some s' =>
  simp only[gp] at h;split at h
  ·obtain ⟨J,U,ah,ar⟩:=hk.next h
   refine ⟨J,U,?_,ah⟩;by_cases hk3:x.kind=3
   ·simp only[eL,hk3,Int.reduceEq,if_false,if_true] at h;split at h <;>cases h
    simp
   ·exact Nat.le_of_eq (ar hk3).symm
  ·cases h
theorem tw{s:aB}{k:Nat}(h:s.all.length≤k+1){n:Nat}(hn:av (gm k s) n=true):n=57∨(1000000≤n∧n<1000006+k):=by
 rcases (dG (gx h)).1 hn with U | ⟨i,hi,rfl⟩
 ·omega
 ·simp only[fJ];split <;>omega
theorem kS{s:aB}{n:Nat}(hn:av (aL s) n=true):1000000≤n∧n<1000005+s.all.length:=by
 rcases (dG (dy _)).1 hn with U | ⟨i,hi,rfl⟩
 ·omega
 ·simp only[bx];omega
theorem ji{x:bg}{b:Bool}{l:List (Nat×aq)}{n:Nat} : av (dF x b l) n=true↔n=1900004∨n=1900003∨av l n=true:=by
 simp only[av,dF,aj];by_cases J:n=1900004
 ·simp[J]
 by_cases U:n=1900003
 ·simp[U]
 simp[J,U]
theorem qK{x:bg}{b:Bool}{l:List (Nat×aq)}(ao:∀ m y,aj l m=some y→y.only (av l)=true∧y.eb=true){n:Nat}{y:aq}(h:aj (dF x b l) n=some y):y.only (av (dF x b l))=true∧y.eb=true:=by
 simp only[dF,aj] at h;split at h
 ·cases h;exact ⟨rfl,rfl⟩
 split at h
 ·cases h;exact ⟨cI _ _,rfl⟩
 obtain ⟨J,U⟩:=ao n y h;refine ⟨aq.iz (fun m hm=>ji.2 (.inr (.inr hm))) y J,U⟩
theorem wT(ρ:List (Nat×Nat))(k:Nat)(v:aq)(os:List (Nat×aq)):dv ρ ((k,v)::os)=(bF ρ k,v.bl (bF ρ))::dv ρ os:=rfl
theorem DZ{ρ:List (Nat×Nat)}{ν ν':Nat→Nat} : ∀ (l:List da) (i:Nat),(∀ k,k<i+l.length→bF ρ (ν k)=ν' k)→dv ρ (ja ν i l)=ja ν' i l
 | [],_,_=>rfl
 |r::l,i,h=>by
  simp only[zz6] at h;simp only[ja,wT,h i (by omega),aq.bl,kA,DZ l (i+1) fun k hk=>h k (by omega)]
theorem D6{ρ:Nat→Nat}{ν ν':Nat→Nat} : ∀ l:List Nat,(∀ i∈l,ρ (ν i)=ν' i)→I.dO ρ (dN ν l)=dN ν' l
 | [],_=>rfl
 |i::l,h=>by
  have ih:=D6 (ρ:=ρ) l fun j hj=>h j (by simp[hj]);simp only[dN] at ih;simp only[dN,Z3,I.dO,I.bl,h i (by simp),ih]
theorem D5{ρ:List (Nat×Nat)}{B B':Nat}{ν ν':Nat→Nat}{s:aB}(ao:∀ i∈s.aQ,i<s.all.length)(aW:∀ j,j<5→bF ρ (B+j)=B'+j)(h:∀ k,k<s.all.length→bF ρ (ν k)=ν' k):dv ρ (dX B ν s)=dX B' ν' s:=by
 have hB:bF ρ B=B':=aW 0 (by omega);have J:=aW 1 (by omega);have U:=aW 2 (by omega);have ah:=aW 3 (by omega);have ar:=aW 4 (by omega);have hp:=D6 (ρ:=bF ρ) s.aQ fun i hi=>h i (ao i hi);have hr:I.dO (bF ρ) (List.replicate s.here.length (.bool true))=List.replicate s.here.length (.bool true):=mE _ _ (pS _);simp only[dX,wT,hB,J,U,ah,ar,DZ s.all 0 (by simpa using h),mQ,oK,nQ,qo,ou,gy,aq.bl,I.bl,I.dO,tl,hp,hr]
theorem BQ{ρ:List (Nat×Nat)}{os:List (Nat×aq)}{m:Nat}{y:aq}(inj:∀ m',av os m'=true→bF ρ m'=bF ρ m→m'=m)(h:aj os m=some y):aj (dv ρ os) (bF ρ m)=some (y.bl (bF ρ)):=by
 have J:=qy ρ os [] (bF ρ m);rw[List.append_nil] at J;rw[J];cases hp:pre ρ os (bF ρ m) with
 |none=>exact absurd rfl (wI hp (by simp[av,h]))
 |some m' =>
  obtain ⟨k1,k2⟩:=kJ hp;have:=inj m' k1 k2;subst this;simp only[h,Z7]
theorem lT(m:Nat):bF kM m=if m=1900003 then 3 else if m=1900004 then 4 else m:=rfl
theorem DY{s:aB}(hk:cu s){k:Nat}(h:s.all.length≤k+1)(hlen:k≤100000):dv kM (gm k s)=gm k s :=
 D5 hk.cw (fun j hj=>by rw[lT,if_neg (by omega),if_neg (by omega)]) fun i hi=>by
  have:fJ 1000000 57 k i=57∨(1000000≤fJ 1000000 57 k i∧fJ 1000000 57 k i<1000006+k):=by simp only[fJ];split <;>omega
  rw[lT,if_neg (by omega),if_neg (by omega)]
theorem Ww{s:aB}(hk:cu s)(hlen:s.all.length≤100000):dv kM (aL s)=aL s:=by
 rw[←tx hk (Z4 _)];exact DY hk (by omega) hlen
def wX:br:=.seq (.cg none AV) (.seq (.cg KZ qa) (.seq (.cg none SE) .ret))
theorem K3:Tryz.f81.body.bind (uM Tryz.prog Tryz.f81.ntmps)=some (.cg none AU,113,4,5,wX):=by kernel_rfl
def o9(s:aB)(x:bg):List (Nat×aq):=(4,.box (.bool false))::(3,.box (enc x))::aL s
theorem T4{s:aB}(hk:cu s)(hlen:s.all.length≤100000)(x:bg):fX kM (dF x false (aL s)) (o9 s x):=by
 refine ⟨fun m y hy=>⟨?_,qK (fun _ _ h=>h3 hk h) hy⟩,fun m m' hm hm' e =>?_⟩
 ·simp only[dF,aj] at hy;split at hy
  ·rename_i h;subst h;cases hy;rfl
  split at hy
  ·rename_i h;subst h;cases hy;simp only[aq.bl,kA];rfl
  ·have hm:=kS (s:=s) (n:=m) (by simp[av,hy]);have e:bF kM m=m:=by rw[lT,if_neg (by omega),if_neg (by omega)]
   have:=BQ (ρ:=kM) (os:=aL s) (m:=m) (fun m' hm' he=>by
    have:=kS hm';rw[e,lT,if_neg (by omega),if_neg (by omega)] at he;exact he) hy
   rw[Ww hk hlen] at this;rw[e] at this ⊢;simp only[o9,aj];rw[if_neg (by omega),if_neg (by omega)];exact this
 ·have key:∀ m,av (dF x false (aL s)) m=true→m=1900004∨m=1900003∨(1000000≤m∧m<1900000):=fun m hm=>by
   rcases ji.1 hm with h | h | h
   ·exact .inl h
   ·exact .inr (.inl h)
   ·have:=kS h;exact .inr (.inr (by omega))
  have k1:=key m hm;have k2:=key m' hm';rw[lT,lT] at e
  (repeat' split at e) <;>omega
theorem GI{s:aB}(hk:cu s)(hlen:s.all.length≤100000)(x:bg):∀ r os',lI s x r os'→gq false kM (dF x false (aL s)) (o9 s x) r os':=by
 rintro r os' ⟨rfl,rfl⟩;obtain ⟨J,U,ah,ar⟩:=rq hk x;have hon:∀ m y,aj (gm s.all.length (dY s x).1) m=some y→y.only (av (gm s.all.length (dY s x).1))=true∧y.eb=true:=fun m y h=>kU (gx ar) J.cw h;have key:∀ m,av (dF x (dY s x).2 (gm s.all.length (dY s x).1)) m=true→m=1900004∨m=1900003∨m=57∨(1000000≤m∧m<1900000):=fun m hm=>by
  rcases ji.1 hm with h | h | h
  ·exact .inl h
  ·exact .inr (.inl h)
  ·have:=tw ar h;omega
 refine ⟨fun m y hy=>⟨(qK hon hy).1,(qK hon hy).2,fun h=>by cases h⟩,fun m m' hm hm' e =>?_,fun m hm =>?_,fun m hm hno =>?_,rfl,fun h=>by cases h⟩
 ·have k1:=key m hm;have k2:=key m' hm';rw[lT,lT] at e
  (repeat' split at e) <;>omega
 ·rcases ji.1 hm with h | h | h
  ·exact ji.2 (.inl h)
  ·exact ji.2 (.inr (.inl h))
  ·refine ji.2 (.inr (.inr ?_));rcases (dG (dy _)).1 h with h5 | ⟨i,hi,rfl⟩
   ·exact (dG (gx ar)).2 (.inl h5)
   ·exact (dG (gx ar)).2 (.inr ⟨i,by omega,(lG hi).symm⟩)
 ·have hno2:¬ (m=1900004∨m=1900003∨av (aL s) m=true):=fun h=>by
   rw[ji.2 h] at hno;cases hno
  rcases ji.1 hm with h | h | h
  ·exact absurd (.inl h) hno2
  ·exact absurd (.inr (.inl h)) hno2
  ·have h57:m=57:=by
    rcases (dG (gx ar)).1 h with h5 | ⟨i,hi,e⟩
    ·exact absurd (.inr (.inr ((dG (dy _)).2 (.inl h5)))) hno2
    ·by_cases hi2:i=s.all.length
     ·subst hi2;simpa[fJ] using e
     ·exact absurd (.inr (.inr ((dG (dy _)).2 (.inr ⟨i,by omega,by rw[e,lG (by omega)]⟩)))) hno2
   subst h57;refine ⟨?_,by decide⟩
   show aj (o9 s x) 57=none
   simp only[o9,aj,Nat.reduceEqDiff,if_false];exact eA (.inl (by omega)) fun i _=>by simp[bx];omega
theorem GH{s:aB}(hk:cu s)(hlen:s.all.length≤100000)(x:bg):∀ r os',lI s x r os'→∃ osF,r.flat=true∧r.bl (bF kM)=r∧(∀ m z,aj osF m=some z→aj (dv kM os'++o9 s x) m=some z∧z.only (av osF)=true∧z.eb=true)∧CB s x r osF:=by
 rintro r os' ⟨rfl,rfl⟩;obtain ⟨J,U,ah,ar⟩:=rq hk x;refine ⟨gm s.all.length (dY s x).1,rfl,rfl,fun m z hz=>⟨?_,kU (gx ar) J.cw hz⟩,rfl,rfl⟩;have hm:=tw ar (n:=m) (by simp[av,hz]);simp only[dF,wT,DY J ar hlen,Z9,aj,lT];rw[if_neg (by simp only[Nat.reduceEqDiff,if_false,if_true];omega),if_neg (by simp only[if_true];omega),fB,hz]
theorem UE(f:Nat):(f+1000000<1000000)=False:=by simp
theorem Bi{s:aB}(hk:cu s)(hlen:s.all.length≤100000)(x:bg)(b:Bool):fX [] (aL s) (dF x b (aL s)):=by
 refine ⟨fun m y hy=>⟨?_,h3 hk hy⟩,fun m m' _ _ h=>h⟩;have hm:=kS (s:=s) (n:=m) (by simp[av,hy]);rw[aq.j5 (ρ:=bF []) (fun n=>rfl)]
 show aj (dF x b (aL s)) m=some y
 simp only[dF,aj];rw[if_neg (by omega),if_neg (by omega)];exact hy
theorem Xb{s s':aB}(hk':cu s')(ah:s.all.length≤s'.all.length)(ar:s'.all.length≤s.all.length+1)(x:bg):gq false [] (aL s) (dF x false (aL s)) (.tuple []) (gm s.all.length s'):=by
 refine ⟨fun m y hy=>⟨(kU (gx ar) hk'.cw hy).1,(kU (gx ar) hk'.cw hy).2,fun h=>by cases h⟩,fun m m' _ _ h=>h,fun m hm =>?_,fun m hm hno =>?_,rfl,fun h=>by cases h⟩
 ·rcases (dG (dy _)).1 hm with h5 | ⟨i,hi,rfl⟩
  ·exact (dG (gx ar)).2 (.inl h5)
  ·exact (dG (gx ar)).2 (.inr ⟨i,by omega,(lG hi).symm⟩)
 ·have h57:m=57:=by
   rcases (dG (gx ar)).1 hm with h5 | ⟨i,hi,e⟩
   ·rw[(dG (dy _)).2 (.inl h5)] at hno;cases hno
   ·by_cases hi2:i=s.all.length
    ·subst hi2;simpa[fJ] using e
    ·rw[(dG (dy _)).2 (.inr ⟨i,by omega,by rw[e,lG (by omega)]⟩)] at hno;cases hno
  subst h57;refine ⟨?_,by decide⟩
  show aj (dF x false (aL s)) 57=none
  simp only[dF,aj,Nat.reduceEqDiff,if_false];exact eA (.inl (by omega)) fun i _=>by simp[bx];omega
theorem bM.vY{ab:List FuncId}{K:ai→Prop}{f:FuncId}{s s':aB}{x:bg}{avs:List I}{a1 a2:Option (List I)}{dst:Option Nat}{rest:List aC}{ts:List (Nat×I)}(hk:cu s)(hlen:s.all.length≤100000)(hk':cu s')(ah:s.all.length≤s'.all.length)(ar:s'.all.length≤s.all.length+1)
  (hf:ab.contains f=true) (hc:cN Tryz.prog f [.ptr 1000000 [],enc x] (aL s) (s9 s.all.length s')) (hav:avs=[.ptr 1000000 [],enc x])
  (h:bM Tryz.prog dh ab K (az rest ((au ts (gm s.all.length s'++dF x false (aL s))).aT dst (.tuple [])))):bM Tryz.prog dh ab K (.call f avs a1 a2 dst rest (au ts (dF x false (aL s)))):=by
 subst hav;refine .wk false [] (aL s) [.ptr 1000000 [],enc x] _ hf hc (Bi hk hlen x false) rY ?_ ?_
 ·rintro r os' ⟨rfl,rfl⟩;exact Xb hk' ah ar x
 ·rintro r os' ⟨rfl,rfl⟩;rw[lN];exact h
theorem VW{Q:Exit→ai→Prop}{f:FuncId}{s:aB}{x:bg}(hk:cu s)(hlen:s.all.length≤100000)(hc:e8 Tryz.prog f fq [.ptr 1000000 [],enc x] (aL s) (jJ s)){ts:List (Nat×I)}(hq:Q (.panic fq) (au ts (aL s++dF x false (aL s)))):mW Tryz.prog Q f [.ptr 1000000 [],enc x] (au ts (dF x false (aL s))) :=
 .mk false [] (aL s) [.ptr 1000000 [],enc x] fq _ hc (Bi hk hlen x false) rY (fun os' h=>by cases h;exact ui hk rfl) (fun os' h=>by cases h;rw[lN];exact hq)
theorem GG{ts:List (Nat×I)}{s:aB}{x:bg}(hlen:s.all.length≤100000):au ts (aL s++dF x false (aL s))=au ts (dF x false (aL s)):=by
 simp only[au,ai.mk.injEq,true_and]
 funext n
 rw[fB];cases h:aj (aL s) n with
 |none=>rfl
 |some y =>
  have:=kS (s:=s) (n:=n) (by simp[av,h]);simp only[dF,aj];rw[if_neg (by omega),if_neg (by omega),h]
theorem DU{s:aB}{x:bg}(hk:cu s)(hlen:s.all.length≤100000)(hn:dY s x=(s,false)){ts:List (Nat×I)}(ht:Abs.bU ts 4=.ptr 1900004 []):qR [.cell 4 none] (lI s x) fq 1900004 (.panic fq) (au ts (dF x false (aL s))):=by
 refine ⟨rfl,⟨false,rfl⟩,dF x false (aL s),[.bool false],fun m z hz=>⟨?_,qK (fun _ _ h=>h3 hk h) hz⟩,⟨⟨.bool false,?_,.inl ⟨rfl,rfl,rfl⟩⟩,trivial⟩,?_⟩
 ·show aj ((1900004,.box (.bool false))::dF x false (aL s)) m=some z
  simp only[aj];split
  ·rename_i h;subst h;exact hz
  ·exact hz
 ·show (match cC _ (Abs.bU ts 4) with | some x=>if b5 none x=true then some x else none | none=>none)=some (I.bool false)
  rw[ht];rfl
 ·show lI s x (.bool false) (dF x false (aL s))
  simp only[lI];rw[hn];exact ⟨rfl,congrArg _ (tx hk (Z4 _)).symm⟩
theorem WD{s:aB}(hk:cu s)(hlen:s.all.length≤100000)(x:bg)(W:World)(D:aP)(E:aY)(n:Nat)(d:Deferred) :
  ae ⟨Tryz.prog,W,D,n,cB E,E,dh,none,some [d]⟩ wX (qR [.cell 4 none] (lI s x) fq 1900004) (au [(0,.ptr 1000000 []),(3,.ptr 1900003 []),(4,.ptr 1900004 [])] (dF x false (aL s))):=by
 have aW:aj (dF x false (aL s)) 1000000=some (.box (.agg [.int .i64 s.aw,.mref 1000001,.mref 1000002,.int .i64 s.all.length,.mref 1000003,.mref 1000004])):=by
  simp only[dF,aj,Nat.reduceEqDiff,if_false];exact fo
 have ar:aj (dF x false (aL s)) 1000004=some (.bp gy (jc 1000000)):=by
  simp only[dF,aj,Nat.reduceEqDiff,if_false];exact n0
 have hb3:aj (dF x false (aL s)) 1900003=some (.box (enc x)):=rfl;have hb4:aj (dF x false (aL s)) 1900004=some (.box (.bool false)):=rfl;have hF:=xG x;simp only[wX];rcases hx:gz x
 ·rw[hx] at hF;have hn:dY s x=(s,false):=by simp[dY,gp,hx]
  have R:=y6 @aW (y6 @ar (y6 @hb3 (y6 @hb4 (y6 @bw (y6 @bt aG)))))
  repeat' ((first |(with_reducible refine .guard (fun hb =>?_) (fun hb =>?_) <;>try simp only[hb])|(refine ae.nL (gs:=AV) (gs1:=[_,_]) rfl fun K hK =>?_)|refine ae.aJ (by decide +kernel) rfl fun K hK =>?_|refine .flat _ (hF) rfl ?_|(refine .aA [0,1,3,4] hK ?_;clear hK K)|(with_reducible refine .done (hK _ ?_);clear hK K)|refine ae.of rfl ?_|(with_reducible refine aD.aI (fun h =>?_) (fun h =>?_) <;>try simp only[h])) <;>try simp only[aK,R,simprocAttr])
  all_goals clear R
  exact .call (h0 (DU hk hlen hn rfl))
 rw[hx] at hF;obtain ⟨f,hlk,hfc,hdo⟩:=vY hk hlen hx;have hfl:=sd f;have hlm:=UE f;have hkd:(enc x:I).dI=some [.int .i64 x.kind,.int .i64 x.aH,.int .i64 x.other,.int .i64 x.no]:=rfl;simp only[ke] at hdo;cases hn:eL s x with
 |none =>
  rw[hn] at hdo;have hn2:dY s x=(s,false):=by simp[dY,gp,hx,hn]
  have R:=y6 @aW (y6 @ar (y6 @hb3 (y6 @hb4 (y6 @hlk (y6 @hfl (y6 @hlm (y6 @bw (y6 @bt aG))))))))
  repeat' ((first |(with_reducible refine .guard (fun hb =>?_) (fun hb =>?_) <;>try simp only[hb])|(refine ae.jj (gs:=qa) 8 [] [] [0,1,2,3,4,5,6,7] (by decide +kernel) rfl (cP.of (by simp[fh])) fun K hK =>?_;simp only[eZ,qa,gf,Z9,X4,List.take_zero,Y5,Y6,R,simprocAttr])|refine ae.aJ (by decide +kernel) rfl fun K hK =>?_|refine .flat _ (hF) rfl ?_|refine .flat _ (kg) rfl ?_|(refine .aA [0,1,3,4] hK ?_;clear hK K)|(with_reducible refine .done (hK _ ?_);clear hK K)|refine ae.of rfl ?_|(with_reducible refine aD.aI (fun h =>?_) (fun h =>?_) <;>try simp only[h])) <;>try simp only[aK,R,simprocAttr])
  all_goals clear R
  refine .fF (f:=f+1000000) (caps:=[.ptr 1000000 []]) rfl ?_;rw[sd,u9];exact VW hk hlen hdo (by rw[GG hlen];exact DU hk hlen hn2 rfl)
 |some s' =>
  rw[hn] at hdo;have hn2:dY s x=(s',true):=by simp[dY,gp,hx,hn]
  have hso:=rq hk x;rw[hn2] at hso;simp only at hso;obtain ⟨k1,k2,k3,k4⟩:=hso;have e4:∀ n,n=1900004∨n=1900003→aj (gm s.all.length s') n=none:=fun n hn=>by
   rcases hn with rfl | rfl <;>exact eA (.inr (by omega)) fun i hi=>by simp only[fJ];split <;>omega
  have hb4':aj (gm s.all.length s'++dF x false (aL s)) 1900004=some (.box (.bool false)):=by
   rw[fB,e4 _ (.inl rfl)];exact hb4
  have hst:∀ A rest,dk A none 1900004 [] (.bool false) (.bool true) rest (some (.bool false))=az rest (A.aV 1900004 (.box (.bool true))):=fun A rest=>dP rfl rfl rfl;have R:=y6 @aW (y6 @ar (y6 @hb3 (y6 @hb4 (y6 @hb4' (y6 @hst (y6 @hlk (y6 @hfl (y6 @hlm (y6 @bw (y6 @bt aG))))))))))
  repeat' ((first |(with_reducible refine .guard (fun hb =>?_) (fun hb =>?_) <;>try simp only[hb])|(refine ae.qS (gs:=qa) [125,126,127,128,129,130,131,132] [] [0,1,2,3,4,5,6,7,8] (by decide +kernel) (cP.of (by simp[fh])) fun K hK =>?_;simp only[eZ,qa,Y5,Y6,R,simprocAttr])|refine ae.aJ (by decide +kernel) rfl fun K hK =>?_|refine .flat _ (hF) rfl ?_|refine .flat _ (kg) rfl ?_|refine bM.vY hk hlen k1 k3 k4 hfc hdo rfl ?_|(refine .aA [0,1,3,4] hK ?_;clear hK K)|(with_reducible refine .done (hK _ ?_);clear hK K)|refine ae.of rfl ?_|(with_reducible refine aD.aI (fun h =>?_) (fun h =>?_) <;>try simp only[h])) <;>try simp only[aK,R,simprocAttr])
  all_goals clear R
  refine ⟨⟨true,rfl⟩,dF x true (gm s.all.length s'),[.bool true],fun m z hz=>⟨?_,qK (fun _ _ h=>kU (gx k4) k1.cw h) hz⟩,⟨⟨.bool true,rfl,.inl ⟨rfl,rfl,rfl⟩⟩,trivial⟩,?_⟩
  ·show aj ((1900004,.box (.bool true))::(gm s.all.length s'++dF x false (aL s))) m=some z
   simp only[dF,aj] at hz ⊢;split
   ·rename_i h;rw[if_pos h] at hz;exact hz
   rename_i h;rw[if_neg h] at hz;rw[fB];split at hz
   ·rename_i U;rw[U,e4 _ (.inr rfl),←U];simp only[aj,if_neg h];exact hz
   ·rw[hz]
  ·show lI s x (.bool true) (dF x true (gm s.all.length s'))
   simp only[lI];rw[hn2];exact ⟨rfl,rfl⟩
theorem FV(s:aB)(hk:cu s)(hlen:s.all.length≤100000)(x:bg):cN Tryz.prog 81 [.ptr 1000000 [],enc x] (aL s) (CB s x):=by
 refine cN.VI Tryz.func81 H3 K3 Kg (u8 rfl) (u8 rfl) dj Wp Wo (by decide) fun hwf W0 bI E1 =>?_;simp only[bK,Z1];clear hwf;have n3:aj (aL s) 3=none:=eA (.inl (by omega)) fun i _=>by simp[bx];omega
 have n4:aj (aL s) 4=none:=eA (.inl (by omega)) fun i _=>by simp[bx];omega
 refine .j4 (by decide +kernel) fun K hK =>?_
 try simp only[AU,n3,n4,aG,bE,simprocAttr]
 refine .done (hK _ ?_);simp only[ej];refine ⟨_,_,kM,dF x false (aL s),[0,3,4],[.ptr 1000000 [],.ptr 1900003 [],.ptr 1900004 []],1900004,false,lI s x,rfl,?_⟩;exact {
  fx:=rfl
  Bh:=T4 hk hlen x
  arg:=⟨.inl ⟨rfl,ji.2 (.inr (.inr ((dG (dy _)).2 (.inl (by omega))))),rfl⟩,.inl ⟨rfl,ji.2 (.inr (.inl rfl)),rfl⟩,.inl ⟨rfl,ji.2 (.inl rfl),rfl⟩,trivial⟩
  x6:=GI hk hlen x
  Eu:=rfl
  box:=rfl
  lA:=fun m hm=>by
   have:1000000≤m:=by
    rcases ji.1 hm with h | h | h
    ·omega
    ·omega
    ·exact (kS h).1
   exact ⟨zz9 (u8 rfl) this,this⟩
  rest:=fun W D E d=>WD hk hlen x W D E _ d
  ib:=GH hk hlen x }
end Go.Proofs.YthbdbocionnfgaaGreatDoor
namespace Go.Abs
open Go Go.RowKit
theorem bC.fn{ts ts':List (Nat×I)}{os os':List (Nat×aq)}(J:cF ts ts')(U:∀ n,aj os' n=none∨aj os' n=aj os n)(ah:cS (av os') ts')(ar:∀ n x,aj os' n=some x→x.only (av os')=true):bC (au ts os) (au ts' os'):=by
 rintro c a w ⟨D,E,ab⟩;have hp:∀ n,av os' n=true→(if av os' n then E n else none)=E n:=fun n hn=>by simp[hn]
 refine ⟨D,fun n=>if av os' n then E n else none,ab.sz,ab.er,fun t =>?_,ab.dH,ab.cU,ab.aQ,fun n =>?_,fun n m e e' b J U ah ar =>?_,fun n e hn =>?_,ab.eK,ab.cM,ab.eS,ab.fp⟩
 ·have:=tE J t;rcases this with h | h
  ·simp only[au];rw[h];simp[aZ]
  ·refine aZ.cX (p:=av os') hp (wz ah t) ?_;have:=ab.dL t;simp only[au] at *;rw[h];exact this
 ·have ho:=ab.bN n;simp only[au] at *;rcases U n with h | h
  ·rw[h];simp[cR,av,h]
  ·rw[h];by_cases hin:aj os n=none
   ·rw[hin];simp[cR,av,h,hin]
   ·have ay:(if av os' n then E n else none)=E n:=hp n (by simp[av,h];cases bH:aj os n <;>simp_all);cases hx:aj os n with
    |none=>exact absurd hx hin
    |some x =>
     have hon:=ar n x (h.trans hx);rw[hx] at ho;cases x with
     |box x =>
      obtain ⟨b,cs,T,k1,k2,k3,k4,k5⟩:=ho;exact ⟨b,cs,T,ay.trans k1,k2,k3,al.cX hp _ _ (by simpa[aq.only] using hon) k4,k5⟩
     |bW T sz es =>
      obtain ⟨aF,k1,k2,k3⟩:=ho;refine ⟨aF,ay.trans k1,k2,?_⟩;cases aF with
      |none=>exact k3
      |some bc =>
       obtain ⟨b,cap⟩:=bc;obtain ⟨cs,pre,rest,q1,q2,q3,q4,q5⟩:=k3;exact ⟨cs,pre,rest,q1,q2,q3,aM.cX hp _ _ (by simpa[aq.only] using hon) q4,q5⟩
     |dC T xs =>
      obtain ⟨aF,k1,k2,k3⟩:=ho;exact ⟨aF,ay.trans k1,k2,k3⟩
     |dA x =>
      obtain ⟨b,k1,k2⟩:=ho;exact ⟨b,ay.trans k1,k2⟩
     |bp ks vs =>
      obtain ⟨b,es,ck,k1,k2,k3,k4,k5,k6,k7⟩:=ho;simp only[aq.only,t8] at hon;exact ⟨b,es,ck,ay.trans k1,k2,k3,k4,aE.cX hp _ _ hon.1 k5,aE.cX hp _ _ hon.2 k6,k7⟩
     |it ks vs left cur =>
      obtain ⟨r,b,es,ck,si,se,la,k1,k2,k3,k4,k5,k6,k7⟩:=ho;simp only[aq.only,t8] at hon;exact ⟨r,b,es,ck,si,se,la,ay.trans k1,k2,k3,k4,aE.cX hp _ _ hon.1 k5,aE.cX hp _ _ hon.2 k6,k7⟩
 ·refine ab.cJ n m e e' b ?_ ?_ ah ar
  ·split at J
   ·exact J
   ·cases J
  ·split at U
   ·exact U
   ·cases U
 ·by_cases hi:av os' n=true
  ·simp only[hi,if_true];exact ab.dM n e hn
  ·simp only[hi];exact .inl rfl
end Go.Abs
namespace Go.Proofs.YthbdbocionnfgaaGreatDoor
open Go Go.Abs
open Go.Abs.Enc (enc)
theorem B7:(∀ v:I,v.bS=true→fk (.i .i64) (.int .i64 1) v [] []=some ([.int .i64 1],[v]))∧(∀ a1 v:I,v.bS=true→fk (.i .i64) (.int .i64 2) v [.int .i64 1] [a1]=some ([.int .i64 1,.int .i64 2],[a1,v]))∧(∀ a1 a2 v:I,v.bS=true→fk (.i .i64) (.int .i64 3) v [.int .i64 1,.int .i64 2] [a1,a2]=some ([.int .i64 1,.int .i64 2,.int .i64 3],[a1,a2,v]))∧(∀ a1 a2 a3 v:I,v.bS=true→fk (.i .i64) (.int .i64 4) v [.int .i64 1,.int .i64 2,.int .i64 3] [a1,a2,a3]=some ([.int .i64 1,.int .i64 2,.int .i64 3,.int .i64 4],[a1,a2,a3,v]))∧(∀ a1 a2 a3 a4 v:I,v.bS=true→fk (.i .i64) (.int .i64 5) v [.int .i64 1,.int .i64 2,.int .i64 3,.int .i64 4] [a1,a2,a3,a4]=some ([.int .i64 1,.int .i64 2,.int .i64 3,.int .i64 4,.int .i64 5],[a1,a2,a3,a4,v]))∧(∀ a1 a2 a3 a4 a5 v:I,v.bS=true→fk (.i .i64) (.int .i64 6) v [.int .i64 1,.int .i64 2,.int .i64 3,.int .i64 4,.int .i64 5] [a1,a2,a3,a4,a5]=some ([.int .i64 1,.int .i64 2,.int .i64 3,.int .i64 4,.int .i64 5,.int .i64 6],[a1,a2,a3,a4,a5,v]))∧(∀ a1 a2 a3 a4 a5 a6 v:I,v.bS=true→fk (.i .i64) (.int .i64 7) v [.int .i64 1,.int .i64 2,.int .i64 3,.int .i64 4,.int .i64 5,.int .i64 6] [a1,a2,a3,a4,a5,a6]=some ([.int .i64 1,.int .i64 2,.int .i64 3,.int .i64 4,.int .i64 5,.int .i64 6,.int .i64 7],[a1,a2,a3,a4,a5,a6,v]))∧(∀ a1 a2 a3 a4 a5 a6 a7 v:I,v.bS=true→fk (.i .i64) (.int .i64 8) v [.int .i64 1,.int .i64 2,.int .i64 3,.int .i64 4,.int .i64 5,.int .i64 6,.int .i64 7] [a1,a2,a3,a4,a5,a6,a7]=some ([.int .i64 1,.int .i64 2,.int .i64 3,.int .i64 4,.int .i64 5,.int .i64 6,.int .i64 7,.int .i64 8],[a1,a2,a3,a4,a5,a6,a7,v])) :=
 ⟨fun  v h=>by simp[fk,ev,bX,I.bS];try exact h,fun a1 v h=>by simp[fk,ev,bX,I.bS];try exact h,fun a1 a2 v h=>by simp[fk,ev,bX,I.bS];try exact h,fun a1 a2 a3 v h=>by simp[fk,ev,bX,I.bS];try exact h,fun a1 a2 a3 a4 v h=>by simp[fk,ev,bX,I.bS];try exact h,fun a1 a2 a3 a4 a5 v h=>by simp[fk,ev,bX,I.bS];try exact h,fun a1 a2 a3 a4 a5 a6 v h=>by simp[fk,ev,bX,I.bS];try exact h,fun a1 a2 a3 a4 a5 a6 a7 v h=>by simp[fk,ev,bX,I.bS];try exact h⟩
theorem bY:(∀ f c,(I.func f c).bS=true)∧(∀ n,(I.mref n).bS=true)∧(∀ n p,(I.ptr n p).bS=true):=⟨fun _ _=>rfl,fun _=>rfl,fun _ _=>rfl⟩
def nz(aw:Int):List (Nat×aq):=[(9,.box (.agg [.int .i64 aw,.mref 5,.mref 6,.int .i64 0,.mref 7,.mref 11])),(5,.bp [] []),(6,.bp [] []),(7,.bp [] []),(11,.bp gy (jc 9))]
def eP(aw:Int):aB:=⟨aw,[],[],[],[]⟩
def V5(aw:Int):cA:=fun r os'=>r=.ptr 9 []∧os'=nz aw
theorem EW(aw:Int):cN Tryz.prog 106 [enc aw] [] (V5 aw):=by
 refine cN.b7 Tryz.func106 Hk Ii Jp (u8 rfl) (u8 rfl) (fun m hm=>by simp[av,aj] at hm) (fun hwf W0 bI E1 =>?_);simp only[yk,CL,bK];clear hwf;have hbld:(dK [.int .i64 0,.raw (.map none),.raw (.map none),.int .i64 0,.raw (.map none),.raw (.map none)] [(0,.int .i64 aw),(1,.mref 5),(2,.mref 6),(4,.mref 7)]).map I.agg=some (.agg [.int .i64 aw,.mref 5,.mref 6,.int .i64 0,.mref 7,.raw (.map none)]):=by simp[dK,I.bS,I.size]
 have hst:∀ A rest,dk A none 9 [5] (.agg [.int .i64 aw,.mref 5,.mref 6,.int .i64 0,.mref 7,.raw (.map none)]) (.mref 11) rest (some (.raw (.map none)))=az rest (A.aV 9 (.box (.agg [.int .i64 aw,.mref 5,.mref 6,.int .i64 0,.mref 7,.mref 11]))):=fun A rest=>dP rfl rfl rfl;have hval:∀ a b c d e f:I,(I.agg [a,b,c,d,e,f]).bS=true:=fun _ _ _ _ _ _=>rfl;have hoff:∀ v,dq [.int .i64 aw,.mref 5,.mref 6,.int .i64 0,.mref 7,.raw (.map none)] 5 5 v=some v:=fun _=>rfl;have hall:([I.ptr 9 []].all fun y=>y.bS)=true:=rfl;have R:=y6 @hall (y6 @hbld (y6 @hst (y6 @hval (y6 @hoff (y6 @B7 (y6 @bY (y6 @bw (y6 @bt aG))))))))
 repeat' ((first |refine ae.aJ (by decide +kernel) rfl fun K hK =>?_|(refine .aA [0,2,3] hK ?_;clear hK K)|(with_reducible refine .done (hK _ ?_);clear hK K)|refine ae.of rfl ?_|(with_reducible refine aD.aI (fun h =>?_) (fun h =>?_) <;>try simp only[h])) <;>try simp only[aK,R,simprocAttr])
 all_goals clear R
 refine ⟨nz aw,[.ptr 9 []],fun n x hx =>?_,⟨⟨_,rfl,.inl ⟨rfl,rfl,rfl⟩⟩,trivial⟩,rfl,rfl⟩;simp only[nz,aj] at hx
 (repeat' split at hx) <;>first
  |(cases hx;done)
  |(rename_i h;subst h;cases hx;exact ⟨rfl,rfl,rfl⟩)
abbrev de(s:aB):List (Nat×aq):=dX 2000 (bx 2000) s
def wY:List (Nat×Nat):=[(9,2000),(5,2001),(6,2002),(7,2003),(11,2004)]
theorem Wy(aw:Int):dv wY (nz aw)=de (eP aw):=rfl
theorem kH(aw:Int):cu (eP aw):=⟨fun i hi=>by simp[eP] at hi,by simp[eP],by simp[eP]⟩
theorem aR.eP{K:ai→Prop}{aw:Int}{avs:List I}{a1 a2:Option (List I)}{dst:Option Nat}{rest:List aC}{ts:List (Nat×I)}{os0:List (Nat×aq)}(hav:avs=[enc aw])(hno:∀ m,2000≤m→m<1000000→aj os0 m=none)
  (h:aR Tryz.prog dh false K (az rest ((au ts (de (Go.Proofs.YthbdbocionnfgaaGreatDoor.eP aw)++os0)).aT dst (.ptr 2000 [])))):aR Tryz.prog dh false K (.call 106 avs a1 a2 dst rest (au ts os0)):=by
 subst hav;have key:∀ m,av (nz aw) m=true→m=9∨m=5∨m=6∨m=7∨m=11:=fun m hm=>by
  simp only[av,nz,aj] at hm
  (repeat' split at hm) <;>first | omega | (simp at hm;done)
 refine .bN false wY [] [enc aw] _ rfl (EW aw) ⟨fun m x hx=>by simp[aj] at hx,fun m m' hm=>by simp[av,aj] at hm⟩ ⟨.inl ⟨(kA _ _).symm,cI _ _,ep _⟩,trivial⟩ ?_ ?_
 ·rintro r os' ⟨rfl,rfl⟩;refine ⟨fun m y hy =>?_,fun m m' hm hm' e =>?_,fun m hm=>by simp[av,aj] at hm,fun m hm _ =>?_,rfl,fun h=>by cases h⟩
  ·simp only[nz,aj] at hy
   (repeat' split at hy) <;>first
    |(cases hy;done)
    |(rename_i h;subst h;cases hy;exact ⟨rfl,rfl,fun h=>by cases h⟩)
  ·rcases key m hm with rfl | rfl | rfl | rfl | rfl <;>rcases key m' hm' with rfl | rfl | rfl | rfl | rfl <;>first | rfl | (simp[wY,bF] at e;done)
  ·rcases key m hm with rfl | rfl | rfl | rfl | rfl <;>exact ⟨hno _ (by decide) (by decide),by decide⟩
 ·rintro r os' ⟨rfl,rfl⟩;rw[Wy];exact h
def ph(k:Nat):List (Nat×Nat):=(57,2005+k)::(List.range' 0 400).map fun j=>(1000000+j,2000+j)
theorem Ec(m:Nat):∀ k a,bF ((List.range' a k).map fun j=>(1000000+j,2000+j)) m=if 1000000+a≤m∧m<1000000+a+k then m-998000 else m
 |0,a=>by
  rw[if_neg (by omega)];rfl
 |k+1,a=>by
  rw[List.range'_succ,Z3,bF,Ec m k (a+1)];by_cases h:m=1000000+a
  ·rw[if_pos h,if_pos (by omega)];omega
  ·rw[if_neg h];by_cases U:1000000+(a+1)≤m∧m<1000000+(a+1)+k
   ·rw[if_pos U,if_pos (by omega)]
   ·rw[if_neg U,if_neg (by omega)]
theorem jL(k m:Nat):bF (ph k) m=if m=57 then 2005+k else if 1000000≤m∧m<1000400 then m-998000 else m:=by
 simp only[ph,bF,Ec,Nat.add_zero,Nat.reduceAdd]
theorem im(k:Nat):ga 2000 (bx 2000) k:=ga.bx _ _
theorem kT{s:aB}(hk:cu s){n:Nat}{x:aq}(h:aj (de s) n=some x):x.only (av (de s))=true∧x.eb=true:=kU (im _) hk.cw h
theorem xl{s:aB}{n:Nat}(hn:av (de s) n=true):2000≤n∧n<2005+s.all.length:=by
 rcases (dG (im _)).1 hn with U | ⟨i,hi,rfl⟩
 ·omega
 ·simp only[bx];omega
theorem DX{s:aB}(hk:cu s){k:Nat}(h:s.all.length≤k+1)(hlen:k≤300):dv (ph k) (gm k s)=de s :=
 D5 hk.cw (fun j hj=>by rw[jL,if_neg (by omega),if_pos (by omega)];omega) fun i hi=>by
  simp only[fJ,bx];split
  ·rename_i e;rw[jL,if_pos rfl];omega
  ·rw[jL,if_neg (by omega),if_pos (by omega)];omega
theorem Wv{s:aB}(hk:cu s){k:Nat}(h:s.all.length≤k)(hlen:k≤300):dv (ph k) (aL s)=de s:=by
 rw[←tx hk h];exact DX hk (by omega) hlen
theorem aR.rz{K:ai→Prop}{s s2:aB}{b:Bool}{x:bg}{avs:List I}{a1 a2:Option (List I)}{dst:Option Nat}{rest:List aC}{ts:List (Nat×I)}{ow:List (Nat×aq)}(hk:cu s)(hlen:s.all.length≤300)(hav:avs=[.ptr 2000 [],enc x])(how:∀ m,2000≤m→aj ow m=none)(hst:dY s x=(s2,b))
  (h:aR Tryz.prog dh false K (az rest ((au ts (de s2++(ow++de s))).aT dst (.bool b)))):aR Tryz.prog dh false K (.call 81 avs a1 a2 dst rest (au ts (ow++de s))):=by
 subst hav;obtain ⟨J,U,ah,ar⟩:=rq hk x;refine .bN false (ph s.all.length) (aL s) [.ptr 1000000 [],enc x] _ rfl (FV s hk (by omega) x) ⟨fun m y hy=>⟨?_,h3 hk hy⟩,fun m m' hm hm' e =>?_⟩ ⟨.inl ⟨?_,(dG (dy _)).2 (.inl (by omega)),rfl⟩,.inl ⟨(kA _ _).symm,cI _ _,ep _⟩,trivial⟩ ?_ ?_
 ·have hm:=kS (s:=s) (n:=m) (by simp[av,hy]);have:=BQ (ρ:=ph s.all.length) (os:=aL s) (m:=m) (fun m' hm' he=>by
   have:=kS hm';rw[jL,jL] at he
   (repeat' split at he) <;>omega) hy
  rw[Wv hk (Z4 _) hlen] at this;rw[fB,how]
  ·exact this
  ·rw[jL,if_neg (by omega),if_pos (by omega)];omega
 ·have k1:=kS hm;have k2:=kS hm';rw[jL,jL] at e
  (repeat' split at e) <;>omega
 ·simp only[I.bl,jL];rfl
 ·rintro r os' ⟨rfl,rfl⟩;refine ⟨fun m y hy=>⟨(kU (gx ar) J.cw hy).1,(kU (gx ar) J.cw hy).2,fun h=>by cases h⟩,fun m m' hm hm' e =>?_,fun m hm =>?_,fun m hm hno =>?_,rfl,fun h=>by cases h⟩
  ·have k1:=tw ar hm;have k2:=tw ar hm';have e1:∀ m,m=57∨(1000000≤m∧m<1000005+s.all.length)→True:=fun _ _=>trivial;have key:∀ m,av (gm s.all.length (dY s x).1) m=true→m=57∨(1000000≤m∧m<1000005+s.all.length):=fun m hm=>by
    rcases (dG (gx ar)).1 hm with h5 | ⟨i,hi,rfl⟩
    ·omega
    ·simp only[fJ];split <;>omega
   have k1:=key m hm;have k2:=key m' hm';rw[jL,jL] at e
   (repeat' split at e) <;>omega
  ·rcases (dG (dy _)).1 hm with h5 | ⟨i,hi,rfl⟩
   ·exact (dG (gx ar)).2 (.inl h5)
   ·exact (dG (gx ar)).2 (.inr ⟨i,by omega,(lG hi).symm⟩)
  ·have h57:m=57:=by
    rcases (dG (gx ar)).1 hm with h5 | ⟨i,hi,e⟩
    ·rw[(dG (dy _)).2 (.inl h5)] at hno;cases hno
    ·by_cases hi2:i=s.all.length
     ·subst hi2;simpa[fJ] using e
     ·rw[(dG (dy _)).2 (.inr ⟨i,by omega,by rw[e,lG (by omega)]⟩)] at hno;cases hno
   subst h57;rw[jL,if_pos rfl];refine ⟨?_,by omega⟩;rw[fB,how _ (by omega)];exact eA (.inr (by omega)) fun i hi=>by simp only[bx];omega
 ·rintro r os' ⟨rfl,rfl⟩;rw[DX J ar hlen,hst];exact h
def fR:aB→List bg→Option aB
 |s,[]=>some s
 |s,x::l=>match gp s x with
  |some s'=>fR s' l
  |none=>none
theorem pk:∀ (l:List bg) (s:aB) (l2:List bg),fR s (l++l2)=(fR s l).bind fun s'=>fR s' l2
 | [],s,l2=>rfl
 |x::l,s,l2=>by
  simp only[Z9,fR];cases gp s x with
  |none=>rfl
  |some s'=>exact pk l s' l2
theorem xr{s s':aB}{x:bg}(hk:cu s)(h:gp s x=some s'):cu s'∧s'.aw=s.aw∧s'.all.length≤s.all.length+1:=by
 simp only[gp] at h;split at h
 ·obtain ⟨J,U,ah,_⟩:=hk.next h
  exact ⟨J,U,ah⟩
 ·cases h
theorem mG:∀ {l:List bg} {s s':aB},cu s→fR s l=some s'→cu s'∧s'.aw=s.aw∧s'.all.length≤s.all.length+l.length
 | [],s,s',hk,h=>by cases h;exact ⟨hk,rfl,Z4 _⟩
 |x::l,s,s',hk,h=>by
  simp only[fR] at h;cases hx:gp s x with
  |none=>rw[hx] at h;cases h
  |some s2 =>
   rw[hx] at h;obtain ⟨J,U,ah⟩:=xr hk hx;obtain ⟨k1,k2,k3⟩:=mG J h;exact ⟨k1,k2.trans U,by simp only[zz6];omega⟩
def fC(aw:Int)(l:List bg):Option aB:=fR (eP aw) l
def qM(aw:Int)(l:List bg):cA:=fun r os'=>match fC aw l with
 |some s=>r=.tuple [.ptr 2000 [],.bool true]∧os'=de s
 |none=>r=.tuple [.nilp,.bool false]∧os'=[]
def rP(l:List bg)(t:Nat×aB):ai:=au [(6,.ptr 2000 []),(11,enc l),(12,.int .i64 l.length),(13,.int .i64 t.1)] (de t.2)
theorem FE(aw:Int)(l:List bg)(ao:l.length≤200):cN Tryz.prog 62 [enc aw,enc l] [] (qM aw l):=by
 refine cN.b7 Tryz.func62 zB zS zZ (u8 rfl) (u8 rfl) (fun m hm=>by simp[av,aj] at hm) (fun hwf W0 bI E1 =>?_);simp only[uC,wO,bK,Z1];clear hwf;have R:=y6 @bY (y6 @bw (y6 @bt aG))
 repeat' ((first |refine ae.aJ (by decide +kernel) rfl fun K hK =>?_|refine aR.eP rfl (fun _ _ _=>rfl) ?_|(refine .aA [0,1,4,5,6,8,11,12,13,14,20] hK ?_;clear hK K)|(with_reducible refine .done (hK _ ?_);clear hK K)|refine ae.of rfl ?_|(with_reducible refine aD.aI (fun h =>?_) (fun h =>?_) <;>try simp only[h])) <;>try simp only[aK,R,simprocAttr])
 all_goals clear R
 refine ae.loop (rP l) (fun t=>t.1≤l.length∧fR (eP aw) (l.take t.1)=some t.2) (fun t=>l.length-t.1) (0,eP aw) ⟨zz5 _,rfl⟩ ?_ ?_
 ·rw[List.append_nil];refine bC.fn ?_ (fun n=>.inr rfl) ?_ (fun n x h=>(kT (kH aw) h).1)
  ·simp[cF,cD]
  ·have:=(dG (im (eP aw).all.length) (n:=2000)).2 (.inl (by omega));simp[cS,I.only,cI,this]
 rintro ⟨i,s⟩ ⟨hi,hrun⟩;simp only at hi hrun;obtain ⟨hk,hme,hln⟩:=mG (kH aw) hrun;have hln2:s.all.length≤i:=by simpa[eP,hi] using hln
 have n8:aj (de s) 8=none:=eA (.inl (by omega)) fun i _=>by simp[bx];omega
 simp only[rP];by_cases hlt:i<l.length
 ·have hc:=gO hlt;have he:=fun A=>fi (A:=A) 4 hlt rfl;have hw:=gR (i:=i) (by omega);have hst:∀ A rest,dk A (some 4) 8 [] (.agg [.int .i64 0,.int .i64 0,.int .i64 0,.int .i64 0]) (enc l[i]) rest (some (.agg [.int .i64 0,.int .i64 0,.int .i64 0,.int .i64 0]))=az rest (A.aV 8 (.box (enc l[i]))):=fun A rest=>dP (ep _) (by rw[fg];rfl) (eH _);have how:∀ (a b:aq) m,2000≤m→aj [(8,a),(8,b)] m=none:=fun a b m hm=>by simp only[aj];rw[if_neg (by omega),if_neg (by omega)]
  have hsp:l=l.take i++l[i]::l.drop (i+1):=by simp
  cases hn:gp s l[i] with
  |none =>
   have ab:dY s l[i]=(s,false):=by simp[dY,hn]
   have R:=y6 @hc (y6 @he (y6 @hst (y6 @n8 (y6 @bY (y6 @bw (y6 @bt aG))))))
   repeat' ((first |refine ae.aJ (by decide +kernel) rfl fun K hK =>?_|refine aR.rz (ow:=[(8,_),(8,_)]) hk (by omega) rfl (how _ _) ab ?_|(refine .aA [0,1,4,5,6,8,11,12,13,14,20] hK ?_;clear hK K)|(with_reducible refine .done (hK _ ?_);clear hK K)|refine ae.of rfl ?_|(with_reducible refine aD.aI (fun h =>?_) (fun h =>?_) <;>try simp only[h])) <;>try simp only[aK,R,simprocAttr])
   all_goals clear R
   have hno:fC aw l=none:=by
    rw[fC,hsp,pk,hrun];simp only[Option.bind_some,fR,hn]
   refine ⟨[],[.nilp,.bool false],fun n x hx=>by simp[aj] at hx,⟨⟨_,rfl,.inl ⟨rfl,rfl,rfl⟩⟩,⟨_,rfl,.inl ⟨rfl,rfl,rfl⟩⟩,trivial⟩,?_⟩;unfold qM;rw[hno];exact ⟨rfl,rfl⟩
  |some s2 =>
   have ab:dY s l[i]=(s2,true):=by simp[dY,hn]
   have R:=y6 @hc (y6 @he (y6 @hst (y6 @hw (y6 @n8 (y6 @bY (y6 @bw (y6 @bt aG)))))))
   repeat' ((first |refine ae.aJ (by decide +kernel) rfl fun K hK =>?_|refine aR.rz (ow:=[(8,_),(8,_)]) hk (by omega) rfl (how _ _) ab ?_|(refine .aA [0,1,4,5,6,8,11,12,13,14,20] hK ?_;clear hK K)|(with_reducible refine .done (hK _ ?_);clear hK K)|refine ae.of rfl ?_|(with_reducible refine aD.aI (fun h =>?_) (fun h =>?_) <;>try simp only[h])) <;>try simp only[aK,R,simprocAttr])
   all_goals clear R
   obtain ⟨hk2,hme2,hln3⟩:=xr hk hn;refine ⟨(i+1,s2),⟨by simp only;omega,?_⟩,by simp only;omega,?_⟩
   ·rw[Y7 hlt,pk,hrun];simp only[Option.bind_some,fR,hn]
   ·refine bC.fn ?_ (fun n =>?_) ?_ (fun n x h=>(kT hk2 h).1)
    ·simp[cF,cD]
    ·simp only[fB];cases aj (de s2) n with
     |none=>exact .inl rfl
     |some y=>exact .inr rfl
    ·have:=(dG (im s2.all.length) (n:=2000)).2 (.inl (by omega));simp[cS,I.only,cI,this]
 ·have hge:i=l.length:=by omega
  have hc:=gW hlt;subst hge;rw[List.take_length] at hrun;have R:=y6 @hc (y6 @bY (y6 @bw (y6 @bt aG)))
  repeat' ((first |refine ae.aJ (by decide +kernel) rfl fun K hK =>?_|(refine .aA [0,1,4,5,6,8,11,12,13,14,20] hK ?_;clear hK K)|(with_reducible refine .done (hK _ ?_);clear hK K)|refine ae.of rfl ?_|(with_reducible refine aD.aI (fun h =>?_) (fun h =>?_) <;>try simp only[h])) <;>try simp only[aK,R,simprocAttr])
  all_goals clear R
  refine ⟨de s,[.ptr 2000 [],.bool true],fun n x hx=>⟨hx,kT hk hx⟩,⟨⟨_,rfl,.inl ⟨rfl,rfl,?_⟩⟩,⟨_,rfl,.inl ⟨rfl,rfl,rfl⟩⟩,trivial⟩,?_⟩
  ·exact (dG (im s.all.length) (n:=2000)).2 (.inl (by omega))
  ·unfold qM fC;rw[hrun];exact ⟨rfl,rfl⟩
end Go.Proofs.YthbdbocionnfgaaGreatDoor
namespace Go.Proofs.YthbdbocionnfgaaGreatDoor
open Go Go.Abs Go.ChangeShapes Go.WideShapes Go.RowKit
open Go.Abs.Enc (enc)
theorem Tryz.own:ownKnob Tryz.prog.godebug=none:=by kernel_rfl
theorem Tryz.Up:laidOutB Tryz.prog=true:=by kernel_rfl
theorem jZ:iK Tryz.prog 3 Int:=VS (by kernel_rfl) (by kernel_rfl)
theorem Cb:iK Tryz.prog 37 bg:=⟨by kernel_rfl,by decide,fun h=>by
 obtain ⟨vs,hv,hr⟩:=Cq [(3,0),(3,1),(3,2),(3,3)]
  [(1,fun v=>∃ a:Int,v=enc a),(1,fun v=>∃ a:Int,v=enc a),(1,fun v=>∃ a:Int,v=enc a),(1,fun v=>∃ a:Int,v=enc a)]
  (by kernel_rfl) (by simp only[o6];exact ⟨trivial,jZ.aS,trivial,jZ.aS,trivial,jZ.aS,trivial,jZ.aS,trivial⟩) (by kernel_rfl) h
 obtain ⟨v0,vs0,e0,aW,hv0⟩:=lb hv;obtain ⟨a0,f0⟩:∃ a:Int,v0=enc a:=aW;obtain ⟨v1,vs1,e1,J,hv1⟩:=lb hv0;obtain ⟨a1,f1⟩:∃ a:Int,v1=enc a:=J;obtain ⟨v2,vs2,e2,U,hv2⟩:=lb hv1;obtain ⟨a2,f2⟩:∃ a:Int,v2=enc a:=U;obtain ⟨v3,vs3,e3,ah,hv3⟩:=lb hv2;obtain ⟨a3,f3⟩:∃ a:Int,v3=enc a:=ah;have e4:=xX hv3;rw[e0,e1,e2,e3,e4,f0,f1,f2,f3] at hr;exact ⟨⟨a0,a1,a2,a3⟩,hr⟩⟩
theorem U4:iK Tryz.prog 39 dE:=⟨by kernel_rfl,by decide,fun h=>by
 obtain ⟨vs,hv,hr⟩:=Cq [(3,0),(3,1),(3,2),(3,3),(3,4)]
  [(1,fun v=>∃ a:Int,v=enc a),(1,fun v=>∃ a:Int,v=enc a),(1,fun v=>∃ a:Int,v=enc a),(1,fun v=>∃ a:Int,v=enc a),(1,fun v=>∃ a:Int,v=enc a)]
  (by kernel_rfl) (by simp only[o6];exact ⟨trivial,jZ.aS,trivial,jZ.aS,trivial,jZ.aS,trivial,jZ.aS,trivial,jZ.aS,trivial⟩) (by kernel_rfl) h
 obtain ⟨v0,vs0,e0,aW,hv0⟩:=lb hv;obtain ⟨a0,f0⟩:∃ a:Int,v0=enc a:=aW;obtain ⟨v1,vs1,e1,J,hv1⟩:=lb hv0;obtain ⟨a1,f1⟩:∃ a:Int,v1=enc a:=J;obtain ⟨v2,vs2,e2,U,hv2⟩:=lb hv1;obtain ⟨a2,f2⟩:∃ a:Int,v2=enc a:=U;obtain ⟨v3,vs3,e3,ah,hv3⟩:=lb hv2;obtain ⟨a3,f3⟩:∃ a:Int,v3=enc a:=ah;obtain ⟨v4,vs4,e4,ar,hv4⟩:=lb hv3;obtain ⟨a4,f4⟩:∃ a:Int,v4=enc a:=ar;have e5:=xX hv4;rw[e0,e1,e2,e3,e4,e5,f0,f1,f2,f3,f4] at hr;exact ⟨⟨a0,a1,a2,a3,a4⟩,hr⟩⟩
theorem U2:iK Tryz.prog 22 (List bg):=VT (by kernel_rfl) Cb (by kernel_rfl)
theorem U3:iK Tryz.prog 24 bP:=⟨by kernel_rfl,by decide,fun h=>by
 obtain ⟨a,b,c,hab⟩:=VU (α:=Int) (β:=List bg) (γ:=Int) (u0:=3) (u1:=22) (u2:=3) (by kernel_rfl) jZ U2 jZ (by kernel_rfl) h;exact ⟨⟨a,b,c⟩,hab⟩⟩
theorem WT{w:World}{D:aP}{E:aY}{x y z:I}{a b c:Value}(hx:∃ cs,bu x a cs∧al w D E x cs)(hy:∃ cs,bu y b cs∧al w D E y cs)(hz:∃ cs,bu z c cs∧al w D E z cs):aE w D E [x,y,z] [a,b,c]:=by
 obtain ⟨c1,J,U⟩:=hx;obtain ⟨c2,ah,ar⟩:=hy;obtain ⟨c3,h5,h6⟩:=hz;simp only[aE];exact ⟨a,[b,c],c1,rfl,J,U,b,[c],c2,rfl,ah,ar,c,[],c3,rfl,h5,h6,rfl⟩
def oO : List (String × DataW Unit) := [("math/bits.deBruijn32tab", Rows.laid_math_bits_deBruijn32tab), ("math/bits.deBruijn64tab", Rows.laid_math_bits_deBruijn64tab), ("internal/strconv.uint64pow10", Rows.laid_internal_strconv_uint64pow10)]
def EV:List Int:=[1,10,100,1000,10000,100000,1000000,10000000,100000000,1000000000,10000000000,100000000000,1000000000000,10000000000000,100000000000000,1000000000000000,10000000000000000,100000000000000000,1000000000000000000,10000000000000000000]
theorem Ta : Tryz.prog.globalNamed "internal/strconv.uint64pow10" = some 3 := by kernel_rfl
theorem Xl:(Tryz.prog.globals[3]?).map (·.type)=some 209:=by kernel_rfl
theorem VJ{W:World}(h:laidMetH Tryz.prog oO W):gB Tryz.prog W (fun _=>False):=by
 rw[MakeChecks.laidMetH_plain _ _ _ (by kernel_rfl)] at h;obtain ⟨g', t', cs, fuel, p, hg', ht', hvar, af⟩ := Lib.laidMet.reads h (n := "internal/strconv.uint64pow10") (d := Rows.laid_internal_strconv_uint64pow10) (by simp [oO])
 obtain rfl:=Option.some.inj (Ta.symm.trans hg');obtain rfl:=Option.some.inj (Xl.symm.trans ht');have hd':DataW.trod (fun _=>()) Tryz.prog W 0 (fun _=>true) false fuel 209 cs.toList=some (Lib.tabData .u64 EV,p):=af;have hc:=Lib.cells_of_tab (n:=20) (e:=171) (T9 (by kernel_rfl)) (by kernel_rfl) (by kernel_rfl) (by kernel_rfl) hd';intro g hg;refine ⟨id,?_⟩
 show W.var? Tryz.prog "internal/strconv.uint64pow10" = _
 rw[hvar];have:cs=(EV.map fun z=>Value.int .u64 z).toArray:=by rw[←hc]
 rw[this];rfl
end Go.Proofs.YthbdbocionnfgaaGreatDoor
namespace Go.Proofs.YthbdbocionnfgaaGreatDoor
open Go Go.Abs
open Go.Abs.Enc (enc)
theorem aR.DR{K:ai→Prop}{aw:Int}{l:List bg}{avs:List I}{a1 a2:Option (List I)}{dst:Option Nat}{rest:List aC}{ts:List (Nat×I)}{os0:List (Nat×aq)}(ao:l.length≤200)(hav:avs=[enc aw,enc l])(hno:∀ m,2000≤m→m<1000000→aj os0 m=none)
  (J:fC aw l=none→aR Tryz.prog dh false K (az rest ((au ts os0).aT dst (.tuple [.nilp,.bool false]))))
  (U:∀ s,fC aw l=some s→aR Tryz.prog dh false K (az rest ((au ts (de s++os0)).aT dst (.tuple [.ptr 2000 [],.bool true])))):aR Tryz.prog dh false K (.call 62 avs a1 a2 dst rest (au ts os0)):=by
 subst hav;refine .bN false [] [] [enc aw,enc l] _ rfl (FE aw l ao) ⟨fun m x hx=>by simp[aj] at hx,fun m m' hm=>by simp[av,aj] at hm⟩ ⟨.inl ⟨(kA _ _).symm,cI _ _,ep _⟩,.inl ⟨(kA _ _).symm,cI _ _,ep _⟩,trivial⟩ ?_ ?_
 ·intro r os' hp;unfold qM at hp;cases hr:fC aw l with
  |none =>
   rw[hr] at hp;obtain ⟨rfl,rfl⟩:=hp;exact ⟨fun m y hy=>by simp[aj] at hy,fun m m' hm=>by simp[av,aj] at hm,fun m hm=>hm,fun m hm=>by simp[av,aj] at hm,rfl,fun h=>by cases h⟩
  |some s =>
   rw[hr] at hp;obtain ⟨rfl,rfl⟩:=hp;obtain ⟨hk,hme,hln⟩:=mG (kH aw) hr;have hln2:s.all.length≤200:=by have:(Go.Proofs.YthbdbocionnfgaaGreatDoor.eP aw).all.length=0:=rfl;omega
   refine ⟨fun m y hy=>⟨(kT hk hy).1,(kT hk hy).2,fun h=>by cases h⟩,fun m m' _ _ h=>h,fun m hm=>by simp[av,aj] at hm,fun m hm _ =>?_,?_,fun h=>by cases h⟩
   ·have:=xl hm;exact ⟨hno m (by omega) (by omega),by simp only[bF];omega⟩
   ·have:=(dG (im s.all.length) (n:=2000)).2 (.inl (by omega));simp[I.only,I.cn,this]
 ·intro r os' hp;unfold qM at hp;cases hr:fC aw l with
  |none =>
   rw[hr] at hp;obtain ⟨rfl,rfl⟩:=hp;exact J hr
  |some s =>
   rw[hr] at hp;obtain ⟨rfl,rfl⟩:=hp;rw[lN];exact U s hr
theorem aR.DS{K:ai→Prop}{aw:Int}{l:List bg}{avs:List I}{a1 a2:Option (List I)}{dst:Option Nat}{rest:List aC}{ts:List (Nat×I)}{os0:List (Nat×aq)}(ao:l.length≤200)(hr:fC aw l=none)(hav:avs=[enc aw,enc l])(hno:∀ m,2000≤m→m<1000000→aj os0 m=none)
  (J:aR Tryz.prog dh false K (az rest ((au ts os0).aT dst (.tuple [.nilp,.bool false])))):aR Tryz.prog dh false K (.call 62 avs a1 a2 dst rest (au ts os0)) :=
 aR.DR ao hav hno (fun _=>J) fun s h=>by rw[hr] at h;cases h
theorem aR.DT{K:ai→Prop}{aw:Int}{l:List bg}{s:aB}{avs:List I}{a1 a2:Option (List I)}{dst:Option Nat}{rest:List aC}{ts:List (Nat×I)}{os0:List (Nat×aq)}(ao:l.length≤200)(hr:fC aw l=some s)(hav:avs=[enc aw,enc l])(hno:∀ m,2000≤m→m<1000000→aj os0 m=none)
  (J:aR Tryz.prog dh false K (az rest ((au ts (de s++os0)).aT dst (.tuple [.ptr 2000 [],.bool true])))):aR Tryz.prog dh false K (.call 62 avs a1 a2 dst rest (au ts os0)) :=
 aR.DR ao hav hno (fun h=>by rw[hr] at h;cases h) fun s' h=>by rw[hr] at h;cases h;exact J
theorem sQ(k:Nat)(hk:k<2000)(z:aq):∀ m,2000≤m→m<1000000→aj [(k,z)] m=none:=fun m h _=>by simp only[aj];rw[if_neg (by omega)]
theorem bD:(∀ aN A,bh aN A .nilp=some .nilp)∧(∀ aN A (x:I),x.bq=true→bh aN A (.ref x)=some (.ref x)):=⟨fun _ _=>by simp only[bh],fun _ _ x h=>by simp only[bh,h,if_true]⟩
def iy(p:bP):Bool:=dz 0 5 p.aw&&(decide (p.j.length≤200)&&dz 0 p.j.length p.eI)
def du(p:bP):Option aB:=if iy p then fC p.aw p.j else none
def j2(o:Option aB):I:=match o with
 |some s=>.tuple [dx s,.int .i64 0]
 |none=>.tuple [.nilp,.int .i64 91]
def mA(p:bP):cA:=fun r os'=>match du p with
 |some s=>r=.tuple [.ptr 2000 [],.int .i64 0]∧os'=de s
 |none=>r=.tuple [.nilp,.int .i64 91]∧os'=[]
theorem iT{p:bP}{s:aB}(h:du p=some s):cu s∧s.aw=p.aw∧s.all.length≤p.j.length∧p.j.length≤200∧iy p=true∧fC p.aw p.j=some s:=by
 simp only[du] at h;split at h
 ·rename_i bH;obtain ⟨hk,hme,hln⟩:=mG (kH p.aw) h;refine ⟨hk,hme,by simpa[eP] using hln,?_,bH,h⟩;simp only[iy,t8,decide_eq_true_eq] at bH;exact bH.2.1
 ·cases h
theorem LR{s:aB}(hk:cu s)(z:aq):∀ ts,cQ (au ts (de s++[(1,z)])) 9 (.agg [.int .i64 s.aw,.mref 2001,.mref 2002,.int .i64 s.all.length,.mref 2003,.mref 2004])=some (fK s):=fun ts =>
 gH (gK (im _) hk.cw fun n hn=>by
  rw[fB];cases h:aj (de s) n with
  |none=>simp[av,h] at hn
  |some y=>rfl) 4
theorem we:∀ a b c d e:I,(I.agg [a,.mref 2001,b,c,d,e]).bq=false:=fun a b c d e=>by simp[I.bq,I.b9]
theorem BL(s:aB)(z:aq):aj (de s++[(1,z)]) 2000=some (.box (.agg [.int .i64 s.aw,.mref 2001,.mref 2002,.int .i64 s.all.length,.mref 2003,.mref 2004])):=by
 rw[fB,fo];rfl
theorem BM(s:aB)(z:aq):aj (de s++[(1,z)]) 1=some z:=by
 rw[fB,eA (.inl (by omega)) fun i _=>by simp only[bx];omega];rfl
theorem Cz{p:bP}(h:I.fV [enc p]):p.j.length≤maxLen :=
 ((mS p.j).1 (by have:=h.1;simp only[enc,I.wf,I.fV] at this;exact this.2.1)).1
theorem pE(p:bP):bf Tryz.prog 69 [enc p] (j2 (du p)):=by
 refine bf.b7 Tryz.func69 zC zT z7 (u8 rfl) (fun hwf W0 bI E1 =>?_);simp only[uD,wP,bK];have hlen:=Cz hwf;clear hwf;have hg:decide ((p.j.length:Int)>200) = !decide (p.j.length≤200):=by by_cases h:p.j.length≤200 <;>simp[h] <;>omega
 have hF1:=l5 p.aw;have hF2:=oc p.eI 0 p.j.length;rcases q1:dz 0 5 p.aw <;>rcases q2:decide (p.j.length≤200) <;>rcases q3:dz 0 p.j.length p.eI
 case true.true.true =>
  have hok:iy p=true:=by simp[iy,q1,q2,q3]
  have ao:p.j.length≤200:=of_decide_eq_true q2;have hop:du p=fC p.aw p.j:=by simp[du,hok]
  rw[q1] at hF1;rw[q3] at hF2;rw[q2] at hg;rw[hop];cases hr:fC p.aw p.j with
  |none =>
   have R:=y6 @hg (y6 @bD (y6 @eB (y6 @bY (y6 @bw (y6 @bt aG)))))
   repeat' ((first |(with_reducible refine .guard (fun hb =>?_) (fun hb =>?_) <;>try simp only[hb])|refine ae.aJ (by decide +kernel) rfl fun K hK =>?_|refine .flat _ (hF1) rfl ?_|refine .flat _ (hF2) rfl ?_|refine aR.DS ao hr rfl (sQ 1 (by decide) _) ?_|(refine .aA [0,1,2,3,4,5,24,34] hK ?_;clear hK K)|(with_reducible refine .done (hK _ ?_);clear hK K)|refine ae.of rfl ?_|(with_reducible refine aD.aI (fun h =>?_) (fun h =>?_) <;>try simp only[h])) <;>try simp only[aK,R,simprocAttr])
   all_goals clear R
   rfl
  |some s =>
   have hfin:=LR (mG (kH p.aw) hr).1 (.box (enc p));have hla:=BL s (.box (enc p));have hlb:=BM s (.box (enc p));have R:=y6 @hg (y6 @hfin (y6 @hla (y6 @hlb (y6 @we (y6 @bD (y6 @eB (y6 @bY (y6 @bw (y6 @bt aG)))))))))
   repeat' ((first |(with_reducible refine .guard (fun hb =>?_) (fun hb =>?_) <;>try simp only[hb])|refine ae.aJ (by decide +kernel) rfl fun K hK =>?_|refine .flat _ (hF1) rfl ?_|refine .flat _ (hF2) rfl ?_|refine aR.DT ao hr rfl (sQ 1 (by decide) _) ?_|(refine .aA [0,1,2,3,4,5,24,34] hK ?_;clear hK K)|(with_reducible refine .done (hK _ ?_);clear hK K)|refine ae.of rfl ?_|(with_reducible refine aD.aI (fun h =>?_) (fun h =>?_) <;>try simp only[h])) <;>try simp only[aK,R,simprocAttr])
   all_goals clear R
   rfl
 all_goals
  have hop:du p=none:=by simp[du,iy,q1,q2,q3]
  rw[q1] at hF1;rw[q3] at hF2;rw[q2] at hg;rw[hop];have R:=y6 @hg (y6 @bD (y6 @eB (y6 @bY (y6 @bw (y6 @bt aG)))))
  repeat' ((first |(with_reducible refine .guard (fun hb =>?_) (fun hb =>?_) <;>try simp only[hb])|refine ae.aJ (by decide +kernel) rfl fun K hK =>?_|refine .flat _ (hF1) rfl ?_|refine .flat _ (hF2) rfl ?_|(refine .aA [0,1,2,3,4,5,24,34] hK ?_;clear hK K)|(with_reducible refine .done (hK _ ?_);clear hK K)|refine ae.of rfl ?_|(with_reducible refine aD.aI (fun h =>?_) (fun h =>?_) <;>try simp only[h])) <;>try simp only[aK,R,simprocAttr])
  all_goals clear R
  rfl
theorem xI(p:bP):cN Tryz.prog 69 [enc p] [] (mA p):=by
 refine cN.b7 Tryz.func69 zC zT z7 (u8 rfl) (u8 rfl) (fun m hm=>by simp[av,aj] at hm) (fun hwf W0 bI E1 =>?_);simp only[uD,wP,bK];have hlen:=Cz hwf;clear hwf;have hg:decide ((p.j.length:Int)>200) = !decide (p.j.length≤200):=by by_cases h:p.j.length≤200 <;>simp[h] <;>omega
 have hF1:=l5 p.aw;have hF2:=oc p.eI 0 p.j.length;have fail:∀ ts os,du p=none→Abs.bU ts 2=.nilp→Abs.bU ts 3=.int .i64 91→iL [.tmp 2,.tmp 3] (mA p) (au ts os):=fun ts os hop U ah=>by
  refine ⟨[],[.nilp,.int .i64 91],fun n x hx=>by simp[aj] at hx,⟨⟨.nilp,congrArg some U,.inl ⟨rfl,rfl,rfl⟩⟩,⟨.int .i64 91,congrArg some ah,.inl ⟨rfl,rfl,rfl⟩⟩,trivial⟩,?_⟩;unfold mA;rw[hop];exact ⟨rfl,rfl⟩
 rcases q1:dz 0 5 p.aw <;>rcases q2:decide (p.j.length≤200) <;>rcases q3:dz 0 p.j.length p.eI
 case true.true.true =>
  have hok:iy p=true:=by simp[iy,q1,q2,q3]
  have ao:p.j.length≤200:=of_decide_eq_true q2;have hop:du p=fC p.aw p.j:=by simp[du,hok]
  rw[q1] at hF1;rw[q3] at hF2;rw[q2] at hg;cases hr:fC p.aw p.j with
  |none =>
   rw[hr] at hop;have R:=y6 @hg (y6 @bD (y6 @eB (y6 @bY (y6 @bw (y6 @bt aG)))))
   repeat' ((first |(with_reducible refine .guard (fun hb =>?_) (fun hb =>?_) <;>try simp only[hb])|refine ae.aJ (by decide +kernel) rfl fun K hK =>?_|refine .flat _ (hF1) rfl ?_|refine .flat _ (hF2) rfl ?_|refine aR.DS ao hr rfl (sQ 1 (by decide) _) ?_|(refine .aA [0,1,2,3,4,5,24,34] hK ?_;clear hK K)|(with_reducible refine .done (hK _ ?_);clear hK K)|refine ae.of rfl ?_|(with_reducible refine aD.aI (fun h =>?_) (fun h =>?_) <;>try simp only[h])) <;>try simp only[aK,R,simprocAttr])
   all_goals clear R
   exact fail _ _ hop rfl rfl
  |some s =>
   have hk:=(mG (kH p.aw) hr).1;rw[hr] at hop;have hla:=BL s (.box (enc p));have hlb:=BM s (.box (enc p));have R:=y6 @hg (y6 @hla (y6 @hlb (y6 @we (y6 @bD (y6 @eB (y6 @bY (y6 @bw (y6 @bt aG))))))))
   repeat' ((first |(with_reducible refine .guard (fun hb =>?_) (fun hb =>?_) <;>try simp only[hb])|refine ae.aJ (by decide +kernel) rfl fun K hK =>?_|refine .flat _ (hF1) rfl ?_|refine .flat _ (hF2) rfl ?_|refine aR.DT ao hr rfl (sQ 1 (by decide) _) ?_|(refine .aA [0,1,2,3,4,5,24,34] hK ?_;clear hK K)|(with_reducible refine .done (hK _ ?_);clear hK K)|refine ae.of rfl ?_|(with_reducible refine aD.aI (fun h =>?_) (fun h =>?_) <;>try simp only[h])) <;>try simp only[aK,R,simprocAttr])
   all_goals clear R
   refine ⟨de s,[.ptr 2000 [],.int .i64 0],fun n x hx=>⟨?_,kT hk hx⟩,⟨⟨_,rfl,.inl ⟨rfl,rfl,?_⟩⟩,⟨_,rfl,.inl ⟨rfl,rfl,rfl⟩⟩,trivial⟩,?_⟩
   ·show aj (de s++_) n=some x
    rw[fB,hx]
   ·exact (dG (im s.all.length) (n:=2000)).2 (.inl (by omega))
   ·unfold mA;rw[hop];exact ⟨rfl,rfl⟩
 all_goals
  have hop:du p=none:=by simp[du,iy,q1,q2,q3]
  rw[q1] at hF1;rw[q3] at hF2;rw[q2] at hg;have R:=y6 @hg (y6 @bD (y6 @eB (y6 @bY (y6 @bw (y6 @bt aG)))))
  repeat' ((first |(with_reducible refine .guard (fun hb =>?_) (fun hb =>?_) <;>try simp only[hb])|refine ae.aJ (by decide +kernel) rfl fun K hK =>?_|refine .flat _ (hF1) rfl ?_|refine .flat _ (hF2) rfl ?_|(refine .aA [0,1,2,3,4,5,24,34] hK ?_;clear hK K)|(with_reducible refine .done (hK _ ?_);clear hK K)|refine ae.of rfl ?_|(with_reducible refine aD.aI (fun h =>?_) (fun h =>?_) <;>try simp only[h])) <;>try simp only[aK,R,simprocAttr])
  all_goals clear R
  exact fail _ _ hop rfl rfl
def nf(p:bP):Int:=match du p with
 |some _=>0
 |none=>91
theorem rL(p:bP):bf Tryz.prog 23 [enc p] (enc (nf p)):=by
 refine bf.b7 Tryz.func23 HA IB JP (u8 rfl) (fun hwf W0 bI E1 =>?_);simp only[yG,Db,bK];have hF:=pE p;simp only[nf];cases ho:du p with
 |none =>
  rw[ho] at hF;simp only[j2] at hF;have R:=y6 @bD (y6 @eB (y6 @bY (y6 @bw (y6 @bt aG))))
  repeat' ((first |refine ae.aJ (by decide +kernel) rfl fun K hK =>?_|refine .lead _ (hF) ?_|(refine .aA [0,1,2,4] hK ?_;clear hK K)|(with_reducible refine .done (hK _ ?_);clear hK K)|refine ae.of rfl ?_|(with_reducible refine aD.aI (fun h =>?_) (fun h =>?_) <;>try simp only[h])) <;>try simp only[aK,R,simprocAttr])
  all_goals clear R
  all_goals rfl
 |some s =>
  rw[ho] at hF;simp only[j2] at hF;have R:=y6 @ez (y6 @bD (y6 @eB (y6 @bY (y6 @bw (y6 @bt aG)))))
  repeat' ((first |refine ae.aJ (by decide +kernel) rfl fun K hK =>?_|refine .lead _ (hF) ?_|(refine .aA [0,1,2,4] hK ?_;clear hK K)|(with_reducible refine .done (hK _ ?_);clear hK K)|refine ae.of rfl ?_|(with_reducible refine aD.aI (fun h =>?_) (fun h =>?_) <;>try simp only[h])) <;>try simp only[aK,R,simprocAttr])
  all_goals clear R
  all_goals rfl
def gX:bg:=⟨0,0,0,0⟩
theorem pT:I.agg [.int .i64 0,.int .i64 0,.int .i64 0,.int .i64 0]=enc gX:=rfl
def tr(k:Nat)(l:List bg)(m:Nat):List (Nat×aq):=[(k,.box (.agg ((l++List.replicate m gX).map enc)))]
def pR(l:List bg)(v:I)(os':List (Nat×aq)):Prop:=(l=[]∧(v=.nils 4∨v=.c0 4)∧os'=[])∨(l≠[]∧∃ m,v=.view 7 [] 4 0 l.length∧os'=tr 7 l m)
def V3(l:List bg):cA:=fun r os'=>pR l r os'
theorem FC(l:List bg)(ao:l.length≤1000):cN Tryz.prog 59 [enc l] [] (V3 l):=by
 refine cN.b7 Tryz.func59 zA zR zY (u8 rfl) (u8 rfl) (fun m hm=>by simp[av,aj] at hm) (fun hwf W0 bI E1 =>?_);simp only[uB,wN,bK];refine .gl (by decide +kernel) fun K hK =>?_;simp only[vw,bE,simprocAttr];refine .done (hK _ ?_);clear hK K;refine ae.seq (ae.seq ?_);by_cases hn:l=[]
 ·subst hn;refine .j4 (by decide +kernel) fun K hK =>?_;simp only[p8,bE,simprocAttr];simp only[tG,List.isEmpty_nil,oX];refine .any rfl fun b _ =>?_
  try simp only[bE,simprocAttr]
  generalize (b==0)=t;cases t
  ·refine .done (hK _ ?_);clear hK K;try simp only[ej]
   refine ae.jB ?_;simp only[aD,bE,simprocAttr];refine ⟨fun h =>?_,fun h =>?_⟩
   ·cases h
   refine ae.skip ?_;try simp only[ej,simprocAttr]
   refine .gl (by decide +kernel) fun K hK =>?_;simp only[p9,bE,simprocAttr]
   try simp only[kc,pT,bE,simprocAttr]
   refine .done (hK _ ?_);clear hK K;refine ae.ret ?_;simp only[nO];exact ⟨[],[.c0 4],Bk,⟨⟨.c0 4,rfl,.inl ⟨rfl,rfl,rfl⟩⟩,trivial⟩,.inl ⟨rfl,.inr rfl,rfl⟩⟩
  ·refine .done (hK _ ?_);clear hK K;refine ae.jB ?_;simp only[aD,bE,simprocAttr];refine ⟨fun h =>?_,fun h =>?_⟩
   ·refine .gl (by decide +kernel) fun K hK =>?_;simp only[vx,bE,simprocAttr];refine .done (hK _ ?_);clear hK K;refine ae.ret ?_;simp only[ej,nO];exact ⟨[],[.nils 4],Bk,⟨⟨.nils 4,rfl,.inl ⟨rfl,rfl,rfl⟩⟩,trivial⟩,.inl ⟨rfl,.inl rfl,rfl⟩⟩
   ·cases h
 ·have hu:js (enc l)=false:=by rw[tG];simpa using hn
  refine .j4 (by decide +kernel) fun K hK =>?_;simp only[p8,bE,simprocAttr]
  try simp only[hu,B9 _ l hn,bE,simprocAttr]
  refine .done (hK _ ?_);clear hK K;try simp only[ej]
  refine ae.jB ?_;simp only[aD,bE,simprocAttr];refine ⟨fun h =>?_,fun h =>?_⟩
  ·cases h
  refine ae.skip ?_;try simp only[ej,simprocAttr]
  refine .gl (by decide +kernel) fun K hK =>?_;simp only[p9,bE,simprocAttr]
  try simp only[kc,pT,bE,simprocAttr]
  refine aR.ud gX rfl hn rfl (by omega) (by simp only[maxLen];omega) fun m =>?_
  try simp only[bE,simprocAttr]
  refine .done (hK _ ?_);clear hK K;refine ae.ret ?_;simp only[nO];exact ⟨tr 7 l m,[.view 7 [] 4 0 l.length],T5 rfl (fun p=>by simp only[I.only];exact hU p _),⟨⟨_,rfl,.inl ⟨rfl,rfl,rfl⟩⟩,trivial⟩,.inr ⟨hn,m,rfl,rfl⟩⟩
theorem ox{l:List bg}{v:I}{os':List (Nat×aq)}(h:pR l v os'):(∀ n x,aj os' n=some x→x.only (av os')=true∧x.eb=true)∧v.only (av os')=true∧(∀ m,av os' m=true→m=7)∧v.bS=true∧b5 none v=true∧v.aX=.one∧v.size=1∧v.isAgg=false:=by
 rcases h with ⟨rfl,rfl | rfl,rfl⟩ | ⟨hn,m,rfl,rfl⟩
 ·exact ⟨fun n x hx=>by simp[aj] at hx,rfl,fun m hm=>by simp[av,aj] at hm,rfl,rfl,rfl,rfl,rfl⟩
 ·exact ⟨fun n x hx=>by simp[aj] at hx,rfl,fun m hm=>by simp[av,aj] at hm,rfl,rfl,rfl,rfl,rfl⟩
 ·refine ⟨fun n x hx =>?_,rfl,fun m hm =>?_,rfl,rfl,rfl,rfl,rfl⟩
  ·simp only[tr,aj] at hx;split at hx
   ·cases hx;exact ⟨by simp only[aq.only,I.only];exact hU _ _,rfl⟩
   ·cases hx
  ·simp only[av,tr,aj] at hm;split at hm
   ·assumption
   ·simp at hm
theorem EG{ts:List (Nat×I)}{os0 os':List (Nat×aq)}(hno:aj os0 7=none)(h:∀ m,av os' m=true→m=7):au ts (os'++os0)=au ts (os0++os'):=by
 simp only[au,ai.mk.injEq,true_and]
 funext n
 rw[fB,fB];cases J:aj os' n with
 |none=>simp only;cases aj os0 n <;>rfl
 |some y =>
  have:=h n (by simp[av,J]);subst this;rw[hno]
theorem aR.Jc{K:ai→Prop}{l:List bg}{avs:List I}{a1 a2:Option (List I)}{dst:Option Nat}{rest:List aC}{ts:List (Nat×I)}{os0:List (Nat×aq)}(ao:l.length≤1000)(hav:a1=some [enc l])(hf:bZ false (au ts os0) avs=some [enc l])(hno:aj os0 7=none)
  (h:∀ v os',pR l v os'→aR Tryz.prog dh false K (az rest ((au ts (os0++os')).aT dst v))):aR Tryz.prog dh false K (.call 59 avs a1 a2 dst rest (au ts os0)):=by
 have harg:gE false (au ts os0) [] [] avs [enc l]:=by
  match avs,hf with
  | [],hf=>simp[bZ] at hf
  | [x],hf =>
   refine ⟨.inr ?_,trivial⟩;simp only[bZ] at hf;split at hf
   ·rename_i y ys J U;cases U;cases hf;exact J
   ·cases hf
  |x::y::r,hf =>
   simp only[bZ] at hf;split at hf
   ·rename_i J U;split at U <;>cases U;cases hf
   ·cases hf
 refine .bN false [] [] [enc l] _ rfl (FC l ao) ⟨fun m x hx=>by simp[aj] at hx,fun m m' hm=>by simp[av,aj] at hm⟩ (by simpa[iv,Ac] using harg) ?_ ?_
 ·intro r os' hp;obtain ⟨J,U,ah,_⟩:=ox hp;exact ⟨fun m y hy=>⟨(J m y hy).1,(J m y hy).2,fun h=>by cases h⟩,fun m m' _ _ h=>h,fun m hm=>by simp[av,aj] at hm,fun m hm _=>by rw[ah m hm];exact ⟨hno,by decide⟩,U,fun h=>by cases h⟩
 ·intro r os' hp;rw[lN,j5 (ρ:=bF []) (fun _=>rfl),EG hno (ox hp).2.2.1];exact h r os' hp
def eY(p:bP)(v:I):I:=.agg [.int .i64 p.aw,v,.int .i64 p.eI]
def V4(p:bP):cA:=fun r os'=>∃ v,r=eY p v∧pR p.j v os'
theorem kv:(∀ p v,(eY p v).dI=some [.int .i64 p.aw,v,.int .i64 p.eI])∧(∀ p v,(eY p v).bS=true)∧(∀ (a c:Int) v w,dq [.int .i64 a,v,.int .i64 c] 1 1 w=some w)∧(∀ (a c:Int) v w,dq [.int .i64 a,v,.int .i64 c] 0 0 w=some w) :=
 ⟨fun _ _=>rfl,fun _ _=>rfl,fun _ _ _ _=>jG (by simp) rfl,fun _ _ _ _=>jG (by simp) rfl⟩
theorem FB(p:bP)(ao:p.j.length≤1000):cN Tryz.prog 57 [enc p] [] (V4 p):=by
 refine cN.b7 Tryz.func57 zy zQ zX (u8 rfl) (u8 rfl) (fun m hm=>by simp[av,aj] at hm) (fun hwf W0 bI E1 =>?_);simp only[uA,wM,bK];clear hwf;have hfe:∀ A,bZ false A [enc p.j]=some [enc p.j]:=fun A=>by simp only[bZ,ln]
 have R:=y6 @eB (y6 @bY (y6 @bw (y6 @bt aG)))
 repeat' ((first |refine ae.aJ (by decide +kernel) rfl fun K hK =>?_|refine aR.Jc ao rfl (hfe _) rfl (fun v os' hc =>?_)|(refine .aA [0,1,2] hK ?_;clear hK K)|(with_reducible refine .done (hK _ ?_);clear hK K)|refine ae.of rfl ?_|(with_reducible refine aD.aI (fun h =>?_) (fun h =>?_) <;>try simp only[h])) <;>try simp only[aK,R,Z9,simprocAttr])
 all_goals clear R
 obtain ⟨g1,g2,g3,g4,g5,g6,g7,g8⟩:=ox hc;have hst:∀ A rest,dk A none 1 [1] (enc p) v rest (some (enc p.j))=az rest (A.aV 1 (.box (eY p v))):=fun A rest=>dP g4 g5 (g6.trans rfl);have hok:b5 (some 3) (eY p v)=true:=by simp[b5,eY,I.isAgg,I.size,I.sizes,g7]
 have hsh:(eY p v).aX=.eD [.one,.one,.one]:=by simp[eY,I.aX,I.cT,g6]
 have hst2:∀ A rest,dk A (some 3) 2 [] (.agg [.int .i64 0,.nils 4,.int .i64 0]) (eY p v) rest (some (.agg [.int .i64 0,.nils 4,.int .i64 0]))=az rest (A.aV 2 (.box (eY p v))):=fun A rest=>dP rfl hok hsh
 try simp only[hst,bE,simprocAttr]
 have R:=y6 @hst (y6 @hok (y6 @hst2 (y6 @kv (y6 @eB (y6 @bY (y6 @bw (y6 @bt aG)))))))
 repeat' ((first |refine ae.aJ (by decide +kernel) rfl fun K hK =>?_|(refine .aA [0,1,2] hK ?_;clear hK K)|(with_reducible refine .done (hK _ ?_);clear hK K)|refine ae.of rfl ?_|(with_reducible refine aD.aI (fun h =>?_) (fun h =>?_) <;>try simp only[h])) <;>try simp only[aK,R,simprocAttr])
 all_goals clear R
 refine ⟨os',[eY p v],fun n x hx=>⟨?_,g1 n x hx⟩,⟨⟨eY p v,?_,.inl ⟨rfl,rfl,?_⟩⟩,trivial⟩,v,rfl,hc⟩
 ·have:=g3 n (by simp[av,hx]);subst this;simp only[au,aj,Nat.reduceEqDiff,if_false];exact hx
 ·simp[qO,cC,au,Abs.bU,aj,I.at,hok]
 ·simp[eY,I.only,I.cn,g2]
theorem FD(l:List bg)(ao:l.length≤1000):bf Tryz.prog 59 [enc l] (enc l):=by
 refine bf.b7 Tryz.func59 zA zR zY (u8 rfl) (fun hwf W0 bI E1 =>?_);simp only[uB,wN,bK];refine .gl (by decide +kernel) fun K hK =>?_;simp only[vw,bE,simprocAttr];refine .done (hK _ ?_);clear hK K;refine ae.seq (ae.seq ?_);by_cases hn:l=[]
 ·subst hn;refine .j4 (by decide +kernel) fun K hK =>?_;simp only[p8,bE,simprocAttr];simp only[tG,List.isEmpty_nil,oX];refine .any rfl fun b _ =>?_
  try simp only[bE,simprocAttr]
  generalize (b==0)=t;cases t
  ·refine .done (hK _ ?_);clear hK K;try simp only[ej]
   refine ae.jB ?_;simp only[aD,bE,simprocAttr];refine ⟨fun h =>?_,fun h =>?_⟩
   ·cases h
   refine ae.skip ?_;try simp only[ej,simprocAttr]
   refine .gl (by decide +kernel) fun K hK =>?_;simp only[p9,bE,simprocAttr]
   try simp only[kc,pT,bE,simprocAttr]
   refine .done (hK _ ?_);clear hK K;refine ae.ret ?_;simp only[bE,simprocAttr];rfl
  ·refine .done (hK _ ?_);clear hK K;refine ae.jB ?_;simp only[aD,bE,simprocAttr];refine ⟨fun h =>?_,fun h =>?_⟩
   ·refine .gl (by decide +kernel) fun K hK =>?_;simp only[vx,bE,simprocAttr];refine .done (hK _ ?_);clear hK K;refine ae.ret ?_;simp only[ej,bE,simprocAttr];rfl
   ·cases h
 ·have hu:js (enc l)=false:=by rw[tG];simpa using hn
  refine .j4 (by decide +kernel) fun K hK =>?_;simp only[p8,bE,simprocAttr]
  try simp only[hu,B9 _ l hn,bE,simprocAttr]
  refine .done (hK _ ?_);clear hK K;try simp only[ej]
  refine ae.jB ?_;simp only[aD,bE,simprocAttr];refine ⟨fun h =>?_,fun h =>?_⟩
  ·cases h
  refine ae.skip ?_;try simp only[ej,simprocAttr]
  refine .gl (by decide +kernel) fun K hK =>?_;simp only[p9,bE,simprocAttr]
  try simp only[kc,pT,bE,simprocAttr]
  refine aR.ud gX rfl hn rfl (by omega) (by simp only[maxLen];omega) fun m =>?_
  try simp only[bE,simprocAttr]
  refine .done (hK _ ?_);clear hK K;refine ae.ret ?_;simp only[bE,simprocAttr]
  try simp only[vi (α:=bg) (sz:=4) rfl,List.take_left,bE,simprocAttr]
theorem xF(p:bP)(ao:p.j.length≤1000):bf Tryz.prog 57 [enc p] (enc p):=by
 refine bf.b7 Tryz.func57 zy zQ zX (u8 rfl) (fun hwf W0 bI E1 =>?_);simp only[uA,wM,bK];clear hwf;have hst:∀ A rest,dk A none 1 [1] (enc p) (enc p.j) rest (some (enc p.j))=az rest (A.aV 1 (.box (enc p))):=fun A rest=>dP (ep _) (by simp[lq,lp]) rfl;have hst2:∀ A rest,dk A (some 3) 2 [] (.agg [.int .i64 0,.nils 4,.int .i64 0]) (enc p) rest (some (.agg [.int .i64 0,.nils 4,.int .i64 0]))=az rest (A.aV 2 (.box (enc p))):=fun A rest=>dP (ep _) (by rw[fg];rfl) (eH _);have R:=y6 @hst (y6 @hst2 (y6 @eB (y6 @bY (y6 @bw (y6 @bt aG)))))
 repeat' ((first |refine ae.aJ (by decide +kernel) rfl fun K hK =>?_|refine .lead _ (FD p.j ao) ?_|(refine .aA [0,1,2] hK ?_;clear hK K)|(with_reducible refine .done (hK _ ?_);clear hK K)|refine ae.of rfl ?_|(with_reducible refine aD.aI (fun h =>?_) (fun h =>?_) <;>try simp only[h])) <;>try simp only[aK,R,simprocAttr])
 all_goals clear R
def jt(p:bP)(x:bg):bP×Int:=if p.j.length=200 then (⟨0,[],0⟩,2) else (⟨p.aw,p.j++[x],p.eI⟩,0)
theorem aR.Jm{K:ai→Prop}{p:bP}{avs:List I}{a1 a2:Option (List I)}{dst:Option Nat}{rest:List aC}{ts:List (Nat×I)}{os0:List (Nat×aq)}(ao:p.j.length≤1000)(hav:avs=[enc p])(hno:aj os0 7=none)
  (h:∀ v os',pR p.j v os'→aR Tryz.prog dh false K (az rest ((au ts (os0++os')).aT dst (eY p v)))):aR Tryz.prog dh false K (.call 57 avs a1 a2 dst rest (au ts os0)):=by
 subst hav;refine .bN false [] [] [enc p] _ rfl (FB p ao) ⟨fun m x hx=>by simp[aj] at hx,fun m m' hm=>by simp[av,aj] at hm⟩ ⟨.inl ⟨(kA _ _).symm,cI _ _,ep _⟩,trivial⟩ ?_ ?_
 ·rintro r os' ⟨v,rfl,hp⟩;obtain ⟨J,U,ah,_⟩:=ox hp;exact ⟨fun m y hy=>⟨(J m y hy).1,(J m y hy).2,fun h=>by cases h⟩,fun m m' _ _ h=>h,fun m hm=>by simp[av,aj] at hm,fun m hm _=>by rw[ah m hm];exact ⟨hno,by decide⟩,by simp[eY,I.only,I.cn,U],fun h=>by cases h⟩
 ·rintro r os' ⟨v,rfl,hp⟩;rw[lN,j5 (ρ:=bF []) (fun _=>rfl),EG hno (ox hp).2.2.1];exact h v os' hp
theorem sh{p:bP}{k n:Nat}{xs l:List bg}{A:ai}(hA:A.o k=some (.box (.agg (xs.map enc))))(hx:xs.take n=l):bh true A (eY p (.view k [] 4 0 n))=some (enc (⟨p.aw,l,p.eI⟩:bP)):=by
 have J:bh true A (.view k [] 4 0 n)=some (enc l):=by
  rw[vk,hA];have:lv 4 0 n (some (xs.map enc))=some (enc l):=by rw[vi (α:=bg) (sz:=4) rfl,hx]
  exact this
 have U:∀ k n,bh true A (.int k n)=some (.int k n):=fun k n=>by simp only[bh]
 simp only[eY,vj,vl,vn,J,U,jT,Z7];rfl
theorem tT(p:bP)(x:bg)(ao:p.j.length≤200):bf Tryz.prog 73 [enc p,enc x] (.tuple [enc (jt p x).1,enc (jt p x).2]):=by
 refine bf.b7 Tryz.func73 HY I0 Kc (u8 rfl) (fun hwf W0 bI E1 =>?_);simp only[y8,DB,bK,Z1];clear hwf;rcases q:((p.j.length:Int)==200)
 case true =>
  have U:p.j.length=200:=by simp at q;omega
  have hw:jt p x=(⟨0,[],0⟩,2):=by simp[jt,U]
  rw[hw];have R:=y6 @q (y6 @pN (y6 @rn (y6 @eB (y6 @bY (y6 @bw (y6 @bt aG))))))
  repeat' ((first |refine ae.aJ (by decide +kernel) rfl fun K hK =>?_|(refine .aA [0,1,2,3,4,5,9] hK ?_;clear hK K)|(with_reducible refine .done (hK _ ?_);clear hK K)|refine ae.of rfl ?_|(with_reducible refine aD.aI (fun h =>?_) (fun h =>?_) <;>try simp only[h])) <;>try simp only[aK,R,simprocAttr])
  all_goals clear R
  rfl
 have hne:¬ p.j.length=200:=fun h=>by rw[h] at q;simp at q
 have hw:jt p x=(⟨p.aw,p.j++[x],p.eI⟩,0):=by simp[jt,hne]
 rw[hw];have hbs:=jb 4 x rfl;have R:=y6 @hbs (y6 @q (y6 @eB (y6 @bY (y6 @bw (y6 @bt aG)))))
 repeat' ((first |refine ae.aJ (by decide +kernel) rfl fun K hK =>?_|refine aR.Jm (by omega) rfl rfl (fun v os' hc =>?_)|(refine .aA [0,1,2,3,4,5,9] hK ?_;clear hK K)|(with_reducible refine .done (hK _ ?_);clear hK K)|refine ae.of rfl ?_|(with_reducible refine aD.aI (fun h =>?_) (fun h =>?_) <;>try simp only[h])) <;>try simp only[aK,R,Z9,simprocAttr])
 all_goals clear R
 obtain ⟨g1,g2,g3,g4,g5,g6,g7,g8⟩:=ox hc;have hok:b5 (some 3) (eY p v)=true:=by simp[b5,eY,I.isAgg,I.size,I.sizes,g7]
 have hsh:(eY p v).aX=.eD [.one,.one,.one]:=by simp[eY,I.aX,I.cT,g6]
 have hst:∀ A rest,dk A (some 3) 2 [] (enc p) (eY p v) rest (some (enc p))=az rest (A.aV 2 (.box (eY p v))):=fun A rest=>dP rfl hok hsh
 try simp only[hst,bE,simprocAttr]
 have R:=y6 @hbs (y6 @pT (y6 @g5 (y6 @kv (y6 @eB (y6 @bY (y6 @bw (y6 @bt aG)))))))
 repeat' ((first |refine ae.aJ (by decide +kernel) rfl fun K hK =>?_|(refine .aA [0,1,2,3,4,5,9] hK ?_;clear hK K)|(with_reducible refine .done (hK _ ?_);clear hK K)|refine ae.of rfl ?_|(with_reducible refine aD.aI (fun h =>?_) (fun h =>?_) <;>try simp only[h])) <;>try simp only[aK,R,simprocAttr])
 all_goals clear R
 have hst2:∀ A rest k n w,dk A none 2 [1] (eY p w) (.view k [] 4 0 n) rest (some v)=az rest (A.aV 2 (.box (eY p (.view k [] 4 0 n)))):=fun A rest k n w=>dP rfl rfl (by rw[g6];rfl);have hok2:∀ k n,b5 (some 3) (eY p (.view k [] 4 0 n))=true:=fun _ _=>rfl;have hst3:∀ A rest k n,dk A (some 3) 4 [] (.agg [.int .i64 0,.nils 4,.int .i64 0]) (eY p (.view k [] 4 0 n)) rest (some (.agg [.int .i64 0,.nils 4,.int .i64 0]))=az rest (A.aV 4 (.box (eY p (.view k [] 4 0 n)))):=fun A rest k n=>dP rfl rfl rfl;have hlx:([x]:List bg).length=1:=rfl;rcases hc with ⟨hj,rfl | rfl,rfl⟩ | ⟨hj,m,rfl,rfl⟩
 ·refine aR.Gs gX rfl (by simp) rfl (by simp) (by simp[maxLen]) fun q =>?_;have hf:=fun A h=>sh (p:=p) (k:=17) (n:=1) (xs:=[x]++List.replicate q gX) (l:=p.j++[x]) (A:=A) h (by rw[hj];rfl)
  try simp only[hlx,hst2,kv,aG,bE,simprocAttr]
  have R:=y6 @hst2 (y6 @hok2 (y6 @hst3 (y6 @hf (y6 @kv (y6 @eB (y6 @bY (y6 @bw (y6 @bt aG))))))))
  repeat' ((first |refine ae.aJ (by decide +kernel) rfl fun K hK =>?_|(refine .aA [0,1,2,3,4,5,9] hK ?_;clear hK K)|(with_reducible refine .done (hK _ ?_);clear hK K)|refine ae.of rfl ?_|(with_reducible refine aD.aI (fun h =>?_) (fun h =>?_) <;>try simp only[h])) <;>try simp only[aK,R,simprocAttr])
  all_goals clear R
 ·refine aR.ud gX rfl (by simp) rfl (by simp) (by simp[maxLen]) fun q =>?_;have hf:=fun A h=>sh (p:=p) (k:=17) (n:=1) (xs:=[x]++List.replicate q gX) (l:=p.j++[x]) (A:=A) h (by rw[hj];rfl)
  try simp only[hlx,hst2,kv,aG,bE,simprocAttr]
  have R:=y6 @hst2 (y6 @hok2 (y6 @hst3 (y6 @hf (y6 @kv (y6 @eB (y6 @bY (y6 @bw (y6 @bt aG))))))))
  repeat' ((first |refine ae.aJ (by decide +kernel) rfl fun K hK =>?_|(refine .aA [0,1,2,3,4,5,9] hK ?_;clear hK K)|(with_reducible refine .done (hK _ ?_);clear hK K)|refine ae.of rfl ?_|(with_reducible refine aD.aI (fun h =>?_) (fun h =>?_) <;>try simp only[h])) <;>try simp only[aK,R,simprocAttr])
  all_goals clear R
 ·by_cases hm:m=0
  ·subst hm;refine aR.Gq (esz:=4) gX rfl (xs:=p.j++List.replicate 0 gX) (ys:=[x]) (by simp) rfl (by simp) (by simp) rfl (by simp;omega) (by simp[maxLen];omega) fun q =>?_;have hf:=fun A h=>sh (p:=p) (k:=17) (n:=p.j.length+1) (xs:=(p.j++List.replicate 0 gX).take p.j.length++([x]++List.replicate q gX)) (l:=p.j++[x]) (A:=A) h (by simp[List.take_append];exact List.take_of_length_le (by omega))
   try simp only[hlx,hst2,kv,aG,bE,simprocAttr]
   have R:=y6 @hst2 (y6 @hok2 (y6 @hst3 (y6 @hf (y6 @kv (y6 @eB (y6 @bY (y6 @bw (y6 @bt aG))))))))
   repeat' ((first |refine ae.aJ (by decide +kernel) rfl fun K hK =>?_|(refine .aA [0,1,2,3,4,5,9] hK ?_;clear hK K)|(with_reducible refine .done (hK _ ?_);clear hK K)|refine ae.of rfl ?_|(with_reducible refine aD.aI (fun h =>?_) (fun h =>?_) <;>try simp only[h])) <;>try simp only[aK,R,simprocAttr])
   all_goals clear R
  ·rw[x1 (esz:=4) _ rfl (xs:=p.j++List.replicate m gX) (ys:=[x]) (by simp) rfl (by simp;omega)];have hf:=fun A h=>sh (p:=p) (k:=7) (n:=p.j.length+1) (xs:=(p.j++List.replicate m gX).take p.j.length++([x]++(p.j++List.replicate m gX).drop (p.j.length+1))) (l:=p.j++[x]) (A:=A) h (by simp[List.take_append];exact List.take_of_length_le (by omega))
   try simp only[hlx,hst2,kv,aG,bE,simprocAttr]
   have R:=y6 @hst2 (y6 @hok2 (y6 @hst3 (y6 @hf (y6 @kv (y6 @eB (y6 @bY (y6 @bw (y6 @bt aG))))))))
   repeat' ((first |refine ae.aJ (by decide +kernel) rfl fun K hK =>?_|(refine .aA [0,1,2,3,4,5,9] hK ?_;clear hK K)|(with_reducible refine .done (hK _ ?_);clear hK K)|refine ae.of rfl ?_|(with_reducible refine aD.aI (fun h =>?_) (fun h =>?_) <;>try simp only[h])) <;>try simp only[aK,R,simprocAttr])
   all_goals clear R
def gA:bP:=⟨0,[],0⟩
theorem Ew:(∀ A n b rest (q:bP) x y,dk A (some 3) n [] b (enc q) rest (some (.agg [.int .i64 x,.nils 4,.int .i64 y]))=az rest (A.aV n (.box (enc q))))∧(∀ A n b rest (q:bP) (r:bP),dk A (some 3) n [] b (enc q) rest (some (enc r))=az rest (A.aV n (.box (enc q)))) :=
 ⟨fun A n b rest q x y=>dP (ep _) (by rw[fg];rfl) (eH _),fun A n b rest q r=>dP (ep _) (by rw[fg];rfl) ((eH _).trans (eH _).symm)⟩
theorem ya(a b:Int):(dK [.int .i64 0,.int .i64 0,.int .i64 0,.int .i64 0] [(0,.int .i64 a),(1,.int .i64 b)]).map I.agg=some (enc (⟨a,b,0,0⟩:bg)):=by simp[dK,I.bS,I.size];rfl
theorem uj(a b c d:Int):(dK [.int .i64 0,.int .i64 0,.int .i64 0,.int .i64 0] [(0,.int .i64 a),(1,.int .i64 b),(2,.int .i64 c),(3,.int .i64 d)]).map I.agg=some (enc (⟨a,b,c,d⟩:bg)):=by simp[dK,I.bS,I.size];rfl
theorem c8:(type_of% @Ew)∧(type_of% @ya)∧(type_of% @uj)∧(type_of% @pN)∧(type_of% @rn)∧(type_of% @eB):=⟨Ew,ya,uj,pN,rn,eB⟩
def sB(p:bP)(b:Int):bP×Int:=match du p with
 |none=>(gA,91)
 |some s=>if dz 1 9999 b=false then (gA,1) else if b∈s.here∨s.e7 b=true then (gA,92) else jt p ⟨1,b,0,0⟩
theorem Ft(p:bP)(b:Int):bf Tryz.prog 27 [enc p,enc b] (.tuple [enc (sB p b).1,enc (sB p b).2]):=by
 refine bf.b7 Tryz.func27 HE IF JT (u8 rfl) (fun hwf W0 bI E1 =>?_);simp only[yK,Df,bK,Z1];clear hwf;have hF:=pE p;simp only[sB];cases ho:du p with
 |none =>
  rw[ho] at hF;simp only[j2] at hF;have R:=y6 @c8 (y6 @bD (y6 @bY (y6 @bw (y6 @bt aG))))
  repeat' ((first |(with_reducible refine .guard (fun hb =>?_) (fun hb =>?_) <;>try simp only[hb])|refine ae.aJ (by decide +kernel) rfl fun K hK =>?_|refine .lead _ (hF) ?_|(refine .aA [0,1,2,4,5,6,7,13,18,23] hK ?_;clear hK K)|(with_reducible refine .done (hK _ ?_);clear hK K)|refine ae.of rfl ?_|(with_reducible refine aD.aI (fun h =>?_) (fun h =>?_) <;>try simp only[h])) <;>try simp only[aK,R,simprocAttr])
  all_goals clear R
  rfl
 |some s =>
  have hjl:=(iT ho).2.2.2.1;rw[ho] at hF;simp only[j2] at hF;have hlk:=fZ eM b s.here;rw[eC] at hlk;have hB:=pF b;have hR:=pG s b;have hW:=tT p ⟨1,b,0,0⟩ hjl;rcases q1:dz 1 9999 b
  ·rw[q1] at hB;have R:=y6 @ez (y6 @c8 (y6 @bD (y6 @bY (y6 @bw (y6 @bt aG)))))
   repeat' ((first |(with_reducible refine .guard (fun hb =>?_) (fun hb =>?_) <;>try simp only[hb])|refine ae.aJ (by decide +kernel) rfl fun K hK =>?_|refine .lead _ (hF) ?_|refine .flat _ (hB) rfl ?_|(refine .aA [0,1,2,4,5,6,7,13,18,23] hK ?_;clear hK K)|(with_reducible refine .done (hK _ ?_);clear hK K)|refine ae.of rfl ?_|(with_reducible refine aD.aI (fun h =>?_) (fun h =>?_) <;>try simp only[h])) <;>try simp only[aK,R,simprocAttr])
   all_goals clear R
   rfl
  rw[q1] at hB;rcases q2:decide (b∈s.here)
  ·rcases q3:s.e7 b
   ·rw[q3] at hR;have bH:(b∈s.here∨s.e7 b=true)=False:=by simpa[q3] using q2
    simp only[Bool.true_eq_false,if_false,bH];have R:=y6 @q2 (y6 @hlk (y6 @ez (y6 @c8 (y6 @bD (y6 @bY (y6 @bw (y6 @bt aG)))))))
    repeat' ((first |(with_reducible refine .guard (fun hb =>?_) (fun hb =>?_) <;>try simp only[hb])|refine ae.aJ (by decide +kernel) rfl fun K hK =>?_|refine .lead _ (hF) ?_|refine .flat _ (hB) rfl ?_|refine .flat _ (hR) rfl ?_|refine .lead _ (hW) ?_|(refine .aA [0,1,2,4,5,6,7,13,18,23] hK ?_;clear hK K)|(with_reducible refine .done (hK _ ?_);clear hK K)|refine ae.of rfl ?_|(with_reducible refine aD.aI (fun h =>?_) (fun h =>?_) <;>try simp only[h])) <;>try simp only[aK,R,simprocAttr])
    all_goals clear R
   ·rw[q3] at hR;have bH:(b∈s.here∨s.e7 b=true)=True:=by simp[q3]
    simp only[Bool.true_eq_false,if_false,bH,if_true];have R:=y6 @q2 (y6 @hlk (y6 @ez (y6 @c8 (y6 @bD (y6 @bY (y6 @bw (y6 @bt aG)))))))
    repeat' ((first |(with_reducible refine .guard (fun hb =>?_) (fun hb =>?_) <;>try simp only[hb])|refine ae.aJ (by decide +kernel) rfl fun K hK =>?_|refine .lead _ (hF) ?_|refine .flat _ (hB) rfl ?_|refine .flat _ (hR) rfl ?_|(refine .aA [0,1,2,4,5,6,7,13,18,23] hK ?_;clear hK K)|(with_reducible refine .done (hK _ ?_);clear hK K)|refine ae.of rfl ?_|(with_reducible refine aD.aI (fun h =>?_) (fun h =>?_) <;>try simp only[h])) <;>try simp only[aK,R,simprocAttr])
    all_goals clear R
    rfl
  ·have bH:b∈s.here:=of_decide_eq_true q2;simp only[Bool.true_eq_false,if_false,bH,true_or,if_true];have R:=y6 @q2 (y6 @hlk (y6 @ez (y6 @c8 (y6 @bD (y6 @bY (y6 @bw (y6 @bt aG)))))))
   repeat' ((first |(with_reducible refine .guard (fun hb =>?_) (fun hb =>?_) <;>try simp only[hb])|refine ae.aJ (by decide +kernel) rfl fun K hK =>?_|refine .lead _ (hF) ?_|refine .flat _ (hB) rfl ?_|(refine .aA [0,1,2,4,5,6,7,13,18,23] hK ?_;clear hK K)|(with_reducible refine .done (hK _ ?_);clear hK K)|refine ae.of rfl ?_|(with_reducible refine aD.aI (fun h =>?_) (fun h =>?_) <;>try simp only[h])) <;>try simp only[aK,R,simprocAttr])
   all_goals clear R
   rfl
def pw(p:bP):bP×Int:=match du p with
 |none=>(gA,91)
 |some _=>(⟨p.aw,p.j,p.j.length⟩,0)
theorem Xc(A:ai)(n:Nat)(p:bP)(v:Int)(rest:List aC)(u:Int):dk A none n [2] (enc p) (.int .i64 v) rest (some (.int .i64 u))=az rest (A.aV n (.box (enc (⟨p.aw,p.j,v⟩:bP)))):=dP rfl rfl rfl
theorem tP(p:bP):bf Tryz.prog 10 [enc p] (.tuple [enc (pw p).1,enc (pw p).2]):=by
 refine bf.b7 Tryz.func10 Hi Ig Jn (u8 rfl) (fun hwf W0 bI E1 =>?_);simp only[yi,CJ,bK];clear hwf;have hF:=rL p;simp only[nf] at hF;simp only[pw];cases ho:du p with
 |none =>
  rw[ho] at hF;have R:=y6 @c8 (y6 @bD (y6 @bY (y6 @bw (y6 @bt aG))))
  repeat' ((first |refine ae.aJ (by decide +kernel) rfl fun K hK =>?_|refine .lead _ (hF) ?_|(refine .aA [0,1,2,3,4,8] hK ?_;clear hK K)|(with_reducible refine .done (hK _ ?_);clear hK K)|refine ae.of rfl ?_|(with_reducible refine aD.aI (fun h =>?_) (fun h =>?_) <;>try simp only[h])) <;>try simp only[aK,R,simprocAttr])
  all_goals clear R
  rfl
 |some s =>
  have hjl:=(iT ho).2.2.2.1;rw[ho] at hF;have R:=y6 @Xc (y6 @c8 (y6 @bD (y6 @bY (y6 @bw (y6 @bt aG)))))
  repeat' ((first |refine ae.aJ (by decide +kernel) rfl fun K hK =>?_|refine .lead _ (hF) ?_|refine .lead _ (xF p (by omega)) ?_|(refine .aA [0,1,2,3,4,8] hK ?_;clear hK K)|(with_reducible refine .done (hK _ ?_);clear hK K)|refine ae.of rfl ?_|(with_reducible refine aD.aI (fun h =>?_) (fun h =>?_) <;>try simp only[h])) <;>try simp only[aK,R,simprocAttr])
  all_goals clear R
theorem xj{α:Type}[Enc α]{A:ai}(esz:Nat){l:List α}{i:Nat}(h:i≤l.length)(ab:Enc.sz α=esz):jN A esz none (some (.int .i64 i)) none (enc l)=some (enc (l.take i)):=by
 simp only[jN,gT,ab,if_true,iF,iZ,Z8];rw[if_pos ⟨by omega,by omega,by omega,by omega⟩];simp
def kK:da:=⟨0,0,0,false⟩
theorem mP:(∀ A n b rest (q:da) x y z w,dk A (some 4) n [] b (enc q) rest (some (.agg [.int .i64 x,.int .i64 y,.int .i64 z,.bool w]))=az rest (A.aV n (.box (enc q))))∧(∀ A n b rest (q r:da),dk A (some 4) n [] b (enc q) rest (some (enc r))=az rest (A.aV n (.box (enc q)))) :=
 ⟨fun A n b rest q x y z w=>dP (ep _) (by rw[fg];rfl) (eH _),fun A n b rest q r=>dP (ep _) (by rw[fg];rfl) ((eH _).trans (eH _).symm)⟩
theorem na:(dK [.int .i64 0,.int .i64 0,.int .i64 0,.bool false] []).map I.agg=some (enc kK):=by simp[dK];rfl
theorem r2(a b c:Int):(dK [.int .i64 0,.int .i64 0,.int .i64 0,.bool false] [(0,.int .i64 a),(1,.int .i64 b),(2,.int .i64 c)]).map I.agg=some (enc (⟨a,b,c,false⟩:da)):=by simp[dK,I.bS,I.size];rfl
def rl(p:bP)(b to:Int):bP×da×Int:=match du p with
 |none=>(gA,kK,91)
 |some s=>if dz 1 9999 b=false then (gA,kK,1) else if dz 0 5 to=false∨to=p.aw then (gA,kK,90) else if b∉s.here then (gA,kK,93) else
  if p.j.length=200 then (gA,kK,2) else ((jt p ⟨3,b,to,(s.all.length:Int)+1⟩).1,⟨(s.all.length:Int)+1,to,b,false⟩,0)
theorem Fu(p:bP)(b to:Int):bf Tryz.prog 31 [enc p,enc b,enc to] (.tuple [enc (rl p b to).1,enc (rl p b to).2.1,enc (rl p b to).2.2]):=by
 refine bf.b7 Tryz.func31 HF IG JU (u8 rfl) (fun hwf W0 bI E1 =>?_);simp only[yL,Dg,bK,Z1,Nat.reduceAdd];clear hwf;have hF:=pE p;simp only[rl];cases ho:du p with
 |none =>
  rw[ho] at hF;simp only[j2] at hF;have R:=y6 @na (y6 @mP (y6 @c8 (y6 @bD (y6 @bY (y6 @bw (y6 @bt aG))))))
  repeat' ((first |(with_reducible refine .guard (fun hb =>?_) (fun hb =>?_) <;>try simp only[hb])|refine ae.aJ (by decide +kernel) rfl fun K hK =>?_|refine .lead _ (hF) ?_|(refine .aA [0,1,2,3,6,7,8,9,10,11,17,23,29,41,70] hK ?_;clear hK K)|(with_reducible refine .done (hK _ ?_);clear hK K)|refine ae.of rfl ?_|(with_reducible refine aD.aI (fun h =>?_) (fun h =>?_) <;>try simp only[h])) <;>try simp only[aK,R,simprocAttr])
  all_goals clear R
  rfl
 |some s =>
  have hjl:=(iT ho).2.2.2.1;have hsl:=(iT ho).2.2.1;rw[ho] at hF;simp only[j2] at hF;have hlk:=fZ eM b s.here;rw[eC] at hlk;have hB:=pF b;have hT:=l5 to;have hW:=tT p ⟨3,b,to,(s.all.length:Int)+1⟩ hjl;have hw:IntKind.i64.wrap ((s.all.length:Int)+1)=(s.all.length:Int)+1:=l3 _ (by omega) (by omega);rcases q1:dz 1 9999 b
  ·rw[q1] at hB;have R:=y6 @na (y6 @mP (y6 @ez (y6 @c8 (y6 @bD (y6 @bY (y6 @bw (y6 @bt aG)))))))
   repeat' ((first |(with_reducible refine .guard (fun hb =>?_) (fun hb =>?_) <;>try simp only[hb])|refine ae.aJ (by decide +kernel) rfl fun K hK =>?_|refine .lead _ (hF) ?_|refine .flat _ (hB) rfl ?_|(refine .aA [0,1,2,3,6,7,8,9,10,11,17,23,29,41,70] hK ?_;clear hK K)|(with_reducible refine .done (hK _ ?_);clear hK K)|refine ae.of rfl ?_|(with_reducible refine aD.aI (fun h =>?_) (fun h =>?_) <;>try simp only[h])) <;>try simp only[aK,R,simprocAttr])
   all_goals clear R
   rfl
  rw[q1] at hB;rcases q2:dz 0 5 to
  ·rw[q2] at hT;simp only[Bool.true_eq_false,if_false,true_or,if_true];have R:=y6 @na (y6 @mP (y6 @ez (y6 @c8 (y6 @bD (y6 @bY (y6 @bw (y6 @bt aG)))))))
   repeat' ((first |(with_reducible refine .guard (fun hb =>?_) (fun hb =>?_) <;>try simp only[hb])|refine ae.aJ (by decide +kernel) rfl fun K hK =>?_|refine .lead _ (hF) ?_|refine .flat _ (hB) rfl ?_|refine .flat _ (hT) rfl ?_|(refine .aA [0,1,2,3,6,7,8,9,10,11,17,23,29,41,70] hK ?_;clear hK K)|(with_reducible refine .done (hK _ ?_);clear hK K)|refine ae.of rfl ?_|(with_reducible refine aD.aI (fun h =>?_) (fun h =>?_) <;>try simp only[h])) <;>try simp only[aK,R,simprocAttr])
   all_goals clear R
   rfl
  rw[q2] at hT;rcases q3:(to==p.aw)
  case true =>
   have e:to=p.aw:=by simpa using q3
   simp only[Bool.true_eq_false,if_false,false_or,e,if_true];rw[e] at hT q3;have R:=y6 @q3 (y6 @na (y6 @mP (y6 @ez (y6 @c8 (y6 @bD (y6 @bY (y6 @bw (y6 @bt aG))))))))
   repeat' ((first |(with_reducible refine .guard (fun hb =>?_) (fun hb =>?_) <;>try simp only[hb])|refine ae.aJ (by decide +kernel) rfl fun K hK =>?_|refine .lead _ (hF) ?_|refine .flat _ (hB) rfl ?_|refine .flat _ (hT) rfl ?_|(refine .aA [0,1,2,3,6,7,8,9,10,11,17,23,29,41,70] hK ?_;clear hK K)|(with_reducible refine .done (hK _ ?_);clear hK K)|refine ae.of rfl ?_|(with_reducible refine aD.aI (fun h =>?_) (fun h =>?_) <;>try simp only[h])) <;>try simp only[aK,R,simprocAttr])
   all_goals clear R
   rfl
  have e:¬ to=p.aw:=by simpa using q3
  simp only[Bool.true_eq_false,if_false,false_or,e];rcases q4:decide (b∈s.here)
  ·have bH:b∉s.here:=of_decide_eq_false q4;rw[if_pos bH];have R:=y6 @q3 (y6 @q4 (y6 @hlk (y6 @na (y6 @mP (y6 @ez (y6 @c8 (y6 @bD (y6 @bY (y6 @bw (y6 @bt aG))))))))))
   repeat' ((first |(with_reducible refine .guard (fun hb =>?_) (fun hb =>?_) <;>try simp only[hb])|refine ae.aJ (by decide +kernel) rfl fun K hK =>?_|refine .lead _ (hF) ?_|refine .flat _ (hB) rfl ?_|refine .flat _ (hT) rfl ?_|(refine .aA [0,1,2,3,6,7,8,9,10,11,17,23,29,41,70] hK ?_;clear hK K)|(with_reducible refine .done (hK _ ?_);clear hK K)|refine ae.of rfl ?_|(with_reducible refine aD.aI (fun h =>?_) (fun h =>?_) <;>try simp only[h])) <;>try simp only[aK,R,simprocAttr])
   all_goals clear R
   rfl
  ·have bH:b∈s.here:=of_decide_eq_true q4;rw[if_neg (by simpa using bH)];by_cases U:p.j.length=200
   ·have hw1:jt p ⟨3,b,to,(s.all.length:Int)+1⟩=(gA,2):=by simp[jt,U,gA]
    rw[hw1] at hW;simp only[if_pos U];have R:=y6 @hw (y6 @q3 (y6 @q4 (y6 @hlk (y6 @na (y6 @r2 (y6 @mP (y6 @ez (y6 @c8 (y6 @bD (y6 @bY (y6 @bw (y6 @bt aG))))))))))))
    repeat' ((first |(with_reducible refine .guard (fun hb =>?_) (fun hb =>?_) <;>try simp only[hb])|refine ae.aJ (by decide +kernel) rfl fun K hK =>?_|refine .lead _ (hF) ?_|refine .flat _ (hB) rfl ?_|refine .flat _ (hT) rfl ?_|refine .lead _ (hW) ?_|(refine .aA [0,1,2,3,6,7,8,9,10,11,17,23,29,41,70] hK ?_;clear hK K)|(with_reducible refine .done (hK _ ?_);clear hK K)|refine ae.of rfl ?_|(with_reducible refine aD.aI (fun h =>?_) (fun h =>?_) <;>try simp only[h])) <;>try simp only[aK,R,simprocAttr])
    all_goals clear R
    rfl
   ·have hw1:(jt p ⟨3,b,to,(s.all.length:Int)+1⟩).2=0:=by simp[jt,U]
    rw[hw1] at hW;simp only[if_neg U];have R:=y6 @hw (y6 @q3 (y6 @q4 (y6 @hlk (y6 @na (y6 @r2 (y6 @mP (y6 @ez (y6 @c8 (y6 @bD (y6 @bY (y6 @bw (y6 @bt aG))))))))))))
    repeat' ((first |(with_reducible refine .guard (fun hb =>?_) (fun hb =>?_) <;>try simp only[hb])|refine ae.aJ (by decide +kernel) rfl fun K hK =>?_|refine .lead _ (hF) ?_|refine .flat _ (hB) rfl ?_|refine .flat _ (hT) rfl ?_|refine .lead _ (hW) ?_|(refine ae.qS (gs:=vv) [] [(3,[3]),(6,[6]),(7,[7]),(11,[11])] [0,1,2,3,4] (by decide +kernel) (cP.of (by simp[fh,cD,I.only])) fun K hK =>?_;simp only[eZ,vv,Y5,Y6,R,simprocAttr])|(refine .aA [0,1,2,3,6,7,8,9,10,11,17,23,29,41,70] hK ?_;clear hK K)|(with_reducible refine .done (hK _ ?_);clear hK K)|refine ae.of rfl ?_|(with_reducible refine aD.aI (fun h =>?_) (fun h =>?_) <;>try simp only[h])) <;>try simp only[aK,R,simprocAttr])
    all_goals clear R
def qn(k:Int):Int:=if k=1 then 7 else if k=2 then 5 else if k=3 then 8 else if k=4 then 6 else 0
theorem UC(k:Int):fj (.i .i64) (.int .i64 0) (.int .i64 k) [.int .i64 1,.int .i64 2,.int .i64 3,.int .i64 4] [.int .i64 7,.int .i64 5,.int .i64 8,.int .i64 6]=some (.int .i64 (qn k),decide (k=1∨k=2∨k=3∨k=4)):=by
 have h:=sI eM (.int .i64 0) k [1,2,3,4] [.int .i64 7,.int .i64 5,.int .i64 8,.int .i64 6];simp only[Z3,X7,eC] at h;rw[h];by_cases J:k=1
 ·subst J;rfl
 by_cases U:k=2
 ·subst U;rfl
 by_cases ah:k=3
 ·subst ah;rfl
 by_cases ar:k=4
 ·subst ar;rfl
 simp[List.findIdx?_cons,J,U,ah,ar,qn]
theorem FU(k:Int):bf Tryz.prog 80 [enc k] (enc (qn k)):=by
 refine bf.b7 Tryz.func80 H2 I3 Kf (u8 rfl) (fun hwf W0 bI E1 =>?_);simp only[zb,DF,bK];clear hwf;have hv:∀ k n,(I.int k n).bS=true:=fun _ _=>rfl;have ao:=UC k;have R:=y6 @hv (y6 @ao (y6 @B7 (y6 @bY (y6 @bw (y6 @bt aG)))))
 repeat' ((first |refine ae.aJ (by decide +kernel) rfl fun K hK =>?_|(refine .aA [0,2] hK ?_;clear hK K)|(with_reducible refine .done (hK _ ?_);clear hK K)|refine ae.of rfl ?_|(with_reducible refine aD.aI (fun h =>?_) (fun h =>?_) <;>try simp only[h])) <;>try simp only[aK,R,simprocAttr])
 all_goals clear R
def lD(r:dE):bg:=⟨qn r.kind,r.aH,r.cZ,r.no⟩
def qb(p:bP)(r:dE):bP×Int:=match du p with
 |none=>(gA,91)
 |some s=>if nC r=false∨r.to≠p.aw then (gA,95) else match gp s (lD r) with
  |none=>(p,0)
  |some _=>jt p (lD r)
theorem EH{ts:List (Nat×I)}{os0:List (Nat×aq)}{s:aB}(hno:∀ m,2000≤m→aj os0 m=none):au ts (de s++os0)=au ts (os0++de s):=by
 simp only[au,ai.mk.injEq,true_and]
 funext n
 rw[fB,fB];cases J:aj (de s) n with
 |none=>simp only;cases aj os0 n <;>rfl
 |some y=>rw[hno n (xl (s:=s) (by simp[av,J])).1]
theorem aR.VP{K:ai→Prop}{p:bP}{avs:List I}{a1 a2:Option (List I)}{dst:Option Nat}{rest:List aC}{ts:List (Nat×I)}{os0:List (Nat×aq)}(ho:du p=none)(hav:avs=[enc p])
  (h:aR Tryz.prog dh false K (az rest ((au ts os0).aT dst (.tuple [.nilp,.int .i64 91])))):aR Tryz.prog dh false K (.call 69 avs a1 a2 dst rest (au ts os0)):=by
 subst hav;refine .bN false [] [] [enc p] _ rfl (xI p) ⟨fun m x hx=>by simp[aj] at hx,fun m m' hm=>by simp[av,aj] at hm⟩ ⟨.inl ⟨(kA _ _).symm,cI _ _,ep _⟩,trivial⟩ ?_ ?_
 ·intro r os' hp;unfold mA at hp;rw[ho] at hp;obtain ⟨rfl,rfl⟩:=hp;exact ⟨fun m y hy=>by simp[aj] at hy,fun m m' hm=>by simp[av,aj] at hm,fun m hm=>hm,fun m hm=>by simp[av,aj] at hm,rfl,fun h=>by cases h⟩
 ·intro r os' hp;unfold mA at hp;rw[ho] at hp;obtain ⟨rfl,rfl⟩:=hp;exact h
theorem aR.sX{K:ai→Prop}{p:bP}{s:aB}{avs:List I}{a1 a2:Option (List I)}{dst:Option Nat}{rest:List aC}{ts:List (Nat×I)}{os0:List (Nat×aq)}(ho:du p=some s)(hav:avs=[enc p])(hno:∀ m,2000≤m→aj os0 m=none)
  (h:aR Tryz.prog dh false K (az rest ((au ts (os0++de s)).aT dst (.tuple [.ptr 2000 [],.int .i64 0])))):aR Tryz.prog dh false K (.call 69 avs a1 a2 dst rest (au ts os0)):=by
 subst hav;obtain ⟨hk,_,ah,ar,_⟩:=iT ho;refine .bN false [] [] [enc p] _ rfl (xI p) ⟨fun m x hx=>by simp[aj] at hx,fun m m' hm=>by simp[av,aj] at hm⟩ ⟨.inl ⟨(kA _ _).symm,cI _ _,ep _⟩,trivial⟩ ?_ ?_
 ·intro r os' hp;unfold mA at hp;rw[ho] at hp;obtain ⟨rfl,rfl⟩:=hp;refine ⟨fun m y hy=>⟨(kT hk hy).1,(kT hk hy).2,fun h=>by cases h⟩,fun m m' _ _ h=>h,fun m hm=>by simp[av,aj] at hm,fun m hm _ =>?_,?_,fun h=>by cases h⟩
  ·have:=xl hm;exact ⟨hno m this.1,by simp only[bF];omega⟩
  ·have:=(dG (im s.all.length) (n:=2000)).2 (.inl (by omega));simp[I.only,I.cn,this]
 ·intro r os' hp;unfold mA at hp;rw[ho] at hp;obtain ⟨rfl,rfl⟩:=hp;rw[lN,EH hno];exact h
theorem aR.EI{K:ai→Prop}{s s2:aB}{b:Bool}{x:bg}{avs:List I}{a1 a2:Option (List I)}{dst:Option Nat}{rest:List aC}{ts:List (Nat×I)}{ow:List (Nat×aq)}(hk:cu s)(hlen:s.all.length≤300)(hav:avs=[.ptr 2000 [],enc x])(how:∀ m,2000≤m→aj ow m=none)(hst:dY s x=(s2,b))
  (h:aR Tryz.prog dh false K (az rest ((au ts (ow++de s2)).aT dst (.bool b)))):aR Tryz.prog dh false K (.call 81 avs a1 a2 dst rest (au ts (ow++de s))):=by
 refine aR.rz hk hlen hav how hst ?_;have hso:=rq hk x;rw[hst] at hso;obtain ⟨k1,k2,k3,k4⟩:=hso;have e:au ts (de s2++(ow++de s))=au ts (ow++de s2):=by
  rw[←EH how];simp only[au,ai.mk.injEq,true_and]
  funext n
  rw[fB (de s2) (ow++de s),fB (de s2) ow,fB ow (de s)];cases J:aj (de s2) n with
  |some y=>rfl
  |none =>
   simp only;have:aj (de s) n=none:=by
    cases U:aj (de s) n with
    |none=>rfl
    |some y =>
     exfalso
     have hin:av (de s) n=true:=by simp[av,U]
     have:av (de s2) n=true:=by
      rcases (dG (im _)).1 hin with h5 | ⟨i,hi,rfl⟩
      ·exact (dG (im _)).2 (.inl h5)
      ·exact (dG (im _)).2 (.inr ⟨i,Nat.lt_of_lt_of_le hi k3,rfl⟩)
     simp[av,J] at this
   rw[this];cases aj ow n <;>rfl
 rw[e];exact h
theorem xE(p:bP)(r:dE):bf Tryz.prog 35 [enc p,enc r] (.tuple [enc (qb p r).1,enc (qb p r).2]):=by
 refine bf.b7 Tryz.func35 HG IH JV (u8 rfl) (fun hwf W0 bI E1 =>?_);simp only[yM,Di,bK,Z1];clear hwf;simp only[qb];have how:∀ (a b c:aq) m,2000≤m→aj [(4,a),(3,b),(2,c)] m=none:=fun a b c m hm=>by simp only[aj];rw[if_neg (by omega),if_neg (by omega),if_neg (by omega)]
 have how2:∀ (a b c d e:aq) m,2000≤m→aj [(8,a),(8,b),(4,c),(3,d),(2,e)] m=none:=fun a b c d e m hm=>by simp only[aj];rw[if_neg (by omega),if_neg (by omega),if_neg (by omega),if_neg (by omega),if_neg (by omega)]
 cases ho:du p with
 |none =>
  have R:=y6 @c8 (y6 @bD (y6 @bY (y6 @bw (y6 @bt aG))))
  repeat' ((first |(with_reducible refine .guard (fun hb =>?_) (fun hb =>?_) <;>try simp only[hb])|refine ae.aJ (by decide +kernel) rfl fun K hK =>?_|refine aR.VP ho rfl ?_|(refine .aA [0,1,2,3,4,5,6,7,8,14,19,44] hK ?_;clear hK K)|(with_reducible refine .done (hK _ ?_);clear hK K)|refine ae.of rfl ?_|(with_reducible refine aD.aI (fun h =>?_) (fun h =>?_) <;>try simp only[h])) <;>try simp only[aK,R,simprocAttr])
  all_goals clear R
  rfl
 |some s =>
  obtain ⟨hk,hme,ah,hjl,_⟩:=iT ho
  dsimp only
  have hR:=xJ r;have n8:aj (de s) 8=none:=eA (.inl (by omega)) fun i _=>by simp only[bx];omega
  rcases q1:nC r
  ·rw[q1] at hR;simp only[true_or,if_true];have R:=y6 @n8 (y6 @c8 (y6 @bD (y6 @bY (y6 @bw (y6 @bt aG)))))
   repeat' ((first |(with_reducible refine .guard (fun hb =>?_) (fun hb =>?_) <;>try simp only[hb])|refine ae.aJ (by decide +kernel) rfl fun K hK =>?_|refine aR.sX ho rfl (how _ _ _) ?_|refine .flat _ (hR) rfl ?_|(refine .aA [0,1,2,3,4,5,6,7,8,14,19,44] hK ?_;clear hK K)|(with_reducible refine .done (hK _ ?_);clear hK K)|refine ae.of rfl ?_|(with_reducible refine aD.aI (fun h =>?_) (fun h =>?_) <;>try simp only[h])) <;>try simp only[aK,R,Z9,simprocAttr])
   all_goals clear R
   rfl
  rw[q1] at hR;rcases q2:(r.to != p.aw)
  case true =>
   have e:r.to≠p.aw:=by simpa using q2
   simp only[Bool.true_eq_false,false_or,if_pos e];have R:=y6 @n8 (y6 @q2 (y6 @c8 (y6 @bD (y6 @bY (y6 @bw (y6 @bt aG))))))
   repeat' ((first |(with_reducible refine .guard (fun hb =>?_) (fun hb =>?_) <;>try simp only[hb])|refine ae.aJ (by decide +kernel) rfl fun K hK =>?_|refine aR.sX ho rfl (how _ _ _) ?_|refine .flat _ (hR) rfl ?_|(refine .aA [0,1,2,3,4,5,6,7,8,14,19,44] hK ?_;clear hK K)|(with_reducible refine .done (hK _ ?_);clear hK K)|refine ae.of rfl ?_|(with_reducible refine aD.aI (fun h =>?_) (fun h =>?_) <;>try simp only[h])) <;>try simp only[aK,R,Z9,simprocAttr])
   all_goals clear R
   rfl
  have e:¬ r.to≠p.aw:=by simpa using q2
  simp only[Bool.true_eq_false,false_or,if_neg e];have hKd:=FU r.kind;have hst:∀ A rest b,dk A (some 4) 8 [] b (enc (lD r)) rest (some (.agg [.int .i64 0,.int .i64 0,.int .i64 0,.int .i64 0]))=az rest (A.aV 8 (.box (enc (lD r)))):=fun A rest b=>dP (ep _) (by rw[fg];rfl) (eH _);have hbl:(dK [.int .i64 0,.int .i64 0,.int .i64 0,.int .i64 0] [(0,.int .i64 (qn r.kind)),(1,.int .i64 r.aH),(2,.int .i64 r.cZ),(3,.int .i64 r.no)]).map I.agg=some (enc (lD r)):=uj _ _ _ _;cases ht:gp s (lD r) with
  |none =>
   have ab:dY s (lD r)=(s,false):=by simp[dY,ht]
   have R:=y6 @n8 (y6 @q2 (y6 @hst (y6 @hbl (y6 @c8 (y6 @bD (y6 @bY (y6 @bw (y6 @bt aG))))))))
   repeat' ((first |(with_reducible refine .guard (fun hb =>?_) (fun hb =>?_) <;>try simp only[hb])|refine ae.aJ (by decide +kernel) rfl fun K hK =>?_|refine aR.sX ho rfl (how _ _ _) ?_|refine .flat _ (hR) rfl ?_|refine .flat _ (hKd) rfl ?_|refine aR.EI (ow:=[(8,_),(8,_),(4,_),(3,_),(2,_)]) hk (by omega) rfl (how2 _ _ _ _ _) ab ?_|refine .lead _ (xF p (by omega)) ?_|(refine .aA [0,1,2,3,4,5,6,7,8,14,19,44] hK ?_;clear hK K)|(with_reducible refine .done (hK _ ?_);clear hK K)|refine ae.of rfl ?_|(with_reducible refine aD.aI (fun h =>?_) (fun h =>?_) <;>try simp only[h])) <;>try simp only[aK,R,Z9,simprocAttr])
   all_goals clear R
  |some s2 =>
   have ab:dY s (lD r)=(s2,true):=by simp[dY,ht]
   have hW:=tT p (lD r) hjl;have R:=y6 @n8 (y6 @q2 (y6 @hst (y6 @hbl (y6 @c8 (y6 @bD (y6 @bY (y6 @bw (y6 @bt aG))))))))
   repeat' ((first |(with_reducible refine .guard (fun hb =>?_) (fun hb =>?_) <;>try simp only[hb])|refine ae.aJ (by decide +kernel) rfl fun K hK =>?_|refine aR.sX ho rfl (how _ _ _) ?_|refine .flat _ (hR) rfl ?_|refine .flat _ (hKd) rfl ?_|refine aR.EI (ow:=[(8,_),(8,_),(4,_),(3,_),(2,_)]) hk (by omega) rfl (how2 _ _ _ _ _) ab ?_|refine .lead _ (hW) ?_|(refine .aA [0,1,2,3,4,5,6,7,8,14,19,44] hK ?_;clear hK K)|(with_reducible refine .done (hK _ ?_);clear hK K)|refine ae.of rfl ?_|(with_reducible refine aD.aI (fun h =>?_) (fun h =>?_) <;>try simp only[h])) <;>try simp only[aK,R,Z9,simprocAttr])
   all_goals clear R
end Go.Proofs.YthbdbocionnfgaaGreatDoor
namespace Go.Proofs.YthbdbocionnfgaaGreatDoor
open Go Go.Abs Go.Shelf
open Go.Abs.Enc (enc)
def Us:Go.Shelf.Ren:=⟨fun | 189=>89 | 125=>117 | 257=>116 | 128=>142 | 129=>143 | 294=>133 | 295=>134 | 296=>135 | 297=>136 | 298=>137 | 299=>138 | 216=>139 | 300=>140 | 301=>141 | 328=>153 | 329=>154 | 330=>155 | 331=>156 | 332=>157 | 215=>158 | 343=>169 | n=>n,fun | 28=>54 | 3=>3 | 46=>151 | 0=>0 | 51=>169 | 53=>171 | 4=>4 | 183=>161 | 182=>160 | 131=>166 | 5=>5 | 9=>9 | 218=>178 | 222=>182 | 228=>195 | 229=>196 | n=>n,fun | n=>n⟩
theorem By:Go.Proofs.Lays.n189 Tryz.prog Us := {
 mixed:=by kernel_rfl
 f125:=Tryz.func117.trans (congrArg some (by kernel_rfl))
 f128:=Tryz.func142.trans (congrArg some (by kernel_rfl))
 f129:=Tryz.func143.trans (congrArg some (by kernel_rfl))
 f189:=Tryz.func89.trans (congrArg some (by kernel_rfl))
 f215:=Tryz.func158.trans (congrArg some (by kernel_rfl))
 f216:=Tryz.func139.trans (congrArg some (by kernel_rfl))
 f257:=Tryz.func116.trans (congrArg some (by kernel_rfl))
 f294:=Tryz.func133.trans (congrArg some (by kernel_rfl))
 f295:=Tryz.func134.trans (congrArg some (by kernel_rfl))
 f296:=Tryz.func135.trans (congrArg some (by kernel_rfl))
 f297:=Tryz.func136.trans (congrArg some (by kernel_rfl))
 f298:=Tryz.func137.trans (congrArg some (by kernel_rfl))
 f299:=Tryz.func138.trans (congrArg some (by kernel_rfl))
 f300:=Tryz.func140.trans (congrArg some (by kernel_rfl))
 f301:=Tryz.func141.trans (congrArg some (by kernel_rfl))
 f328:=Tryz.func153.trans (congrArg some (by kernel_rfl))
 f329:=Tryz.func154.trans (congrArg some (by kernel_rfl))
 f330:=Tryz.func155.trans (congrArg some (by kernel_rfl))
 f331:=Tryz.func156.trans (congrArg some (by kernel_rfl))
 f332:=Tryz.func157.trans (congrArg some (by kernel_rfl))
 f343:=Tryz.func169.trans (congrArg some (by kernel_rfl))
 t0:=Tryz.underlying0
 a0:=Tryz.isAgg0
 z0:=Tryz.sizeOf0
 v0:=Tryz.zeroValue0
 t3:=Tryz.underlying3
 a3:=Tryz.isAgg3
 z3:=Tryz.sizeOf3
 v3:=Tryz.zeroValue3
 t4:=Tryz.underlying4
 a4:=Tryz.isAgg4
 z4:=Tryz.sizeOf4
 v4:=Tryz.zeroValue4
 t5:=Tryz.underlying5
 a5:=Tryz.isAgg5
 z5:=Tryz.sizeOf5
 v5:=Tryz.zeroValue5
 t9:=Tryz.underlying9
 a9:=Tryz.isAgg9
 z9:=Tryz.sizeOf9
 v9:=Tryz.zeroValue9
 t28:=Tryz.underlying54
 a28:=Tryz.isAgg54
 z28:=Tryz.sizeOf54
 v28:=Tryz.zeroValue54
 t46:=Tryz.underlying151
 a46:=Tryz.isAgg151
 z46:=Tryz.sizeOf151
 v46:=Tryz.zeroValue151
 t51:=Tryz.underlying169
 a51:=Tryz.isAgg169
 z51:=Tryz.sizeOf169
 v51:=Tryz.zeroValue169
 t53:=Tryz.underlying171
 a53:=Tryz.isAgg171
 z53:=Tryz.sizeOf171
 v53:=Tryz.zeroValue171
 t131:=Tryz.underlying166
 a131:=Tryz.isAgg166
 z131:=Tryz.sizeOf166
 v131:=Tryz.zeroValue166
 t182:=Tryz.underlying160
 a182:=Tryz.isAgg160
 z182:=Tryz.sizeOf160
 v182:=Tryz.zeroValue160
 t183:=Tryz.underlying161
 a183:=Tryz.isAgg161
 z183:=Tryz.sizeOf161
 v183:=Tryz.zeroValue161
 t218:=Tryz.underlying178
 a218:=Tryz.isAgg178
 z218:=Tryz.sizeOf178
 v218:=Tryz.zeroValue178
 t222:=Tryz.underlying182
 a222:=Tryz.isAgg182
 z222:=Tryz.sizeOf182
 v222:=Tryz.zeroValue182
 t228:=Tryz.underlying195
 a228:=Tryz.isAgg195
 z228:=Tryz.sizeOf195
 v228:=Tryz.zeroValue195
 t229:=Tryz.underlying196
 a229:=Tryz.isAgg196
 z229:=Tryz.sizeOf196
 v229:=Tryz.zeroValue196 }
def jM(k:Nat)(ws:List Int):List (Nat×aq):=[(k,.box (.agg (ws.map enc)))]
theorem BR(p:Nat→Bool)(l:List Int):(I.agg (l.map enc)).only p=true:=by simp only[I.only];exact hU p l
def WR(ws:List Int):cA:=fun r os'=>r=.tuple []∧os'=jM 1000000 ws
def cj(xs:List Int):List Int:=xs.mergeSort fun x y=>decide (x≤y)
theorem DO{w:World}{D:aP}{E:aY} : ∀ {xs:List Int} {cs:List Value},aM w D E (xs.map enc) cs→cs=xs.map (Value.int .i64)∧∀ x∈xs,IntKind.i64.min≤x∧x≤IntKind.i64.max
 | [],cs,h=>by
  simp only[X7,aM] at h;subst h;exact ⟨rfl,by simp⟩
 |x::xs,cs,h=>by
  simp only[Z3,aM] at h;obtain ⟨c1,c2,rfl,J,U⟩:=h;obtain ⟨rfl,ah⟩:=DO U;have h1':c1=[.int .i64 x]∧IntKind.i64.min≤x∧x≤IntKind.i64.max:=J;obtain ⟨rfl,ar⟩:=h1';refine ⟨rfl,fun y hy =>?_⟩;rcases zz8.1 hy with rfl | hy
  ·exact ar
  ·exact ah y hy
theorem qP{w:World}{D:aP}{E:aY} : ∀ {xs:List Int},(∀ x∈xs,IntKind.i64.min≤x∧x≤IntKind.i64.max)→aM w D E (xs.map enc) (xs.map (Value.int .i64))
 | [],_=>rfl
 |x::xs,h=>⟨[.int .i64 x],xs.map (Value.int .i64),rfl,⟨rfl,h x (by simp)⟩,qP fun y hy=>h y (by simp[hy])⟩
theorem rm(xs:List Int):(I.agg (xs.map enc)).aX=.eD (List.replicate xs.length .one):=by
 show cK.eD (I.cT _)=_
 congr 1
 induction xs with
 |nil=>rfl
 |cons x xs ih=>simp only[Z3,I.cT,ih,zz6,List.replicate_succ];rfl
theorem Wh{xs ys q:List Int}(ao:ys.length=xs.length){cs:Array Value}(hc:cs.toList=(xs++q).map (Value.int .i64)):(Sort.putCells (Value.int .i64) 0 ys.toArray cs).toList=(ys++q).map (Value.int .i64):=by
 apply List.ext_getElem?;intro k;have J:cs[k]?=((xs++q).map (Value.int .i64))[k]?:=by rw[←hc,X8]
 rw[X8,Sort.putCells,Array.getElem?_mapIdx,J];simp only[Y9,List.size_toArray,zz5,true_and,Z1,Nat.sub_zero];by_cases hk:k<ys.length
 ·simp only[hk,if_true];rw[Y4 (by omega),Y4 hk,Y2 (by omega),Y2 hk];simp[hk]
 ·simp only[hk,if_false];rw[zz0 (by omega),zz0 (by omega),ao];cases (q[k-xs.length]?) <;>rfl
open Go.Sort Go.RowKit in
theorem FX(xs q:List Int)(hn:xs.length≤1000):cN Tryz.prog 89 [.view 1000000 [] 1 0 xs.length] (jM 1000000 (xs++q)) (WR (cj xs++q)):=by
 refine ⟨zD,fun w D E vs _ hD hO hv =>?_⟩;have ho:=hO.bN 1000000;simp only[jM,aj,if_true] at ho;obtain ⟨b,cs,T,ay,-,hb,hr,hnD⟩:=ho;have hEn:∀ n,n≠1000000→E n=none:=fun n hn=>by
  have:=hO.bN n;simpa only[jM,aj,if_neg hn,cR] using this
 simp only[aE] at hv;obtain ⟨v,rest,cs',rfl,hp,hr',rfl⟩:=hv;obtain ⟨b',aX,off,l,hE',hoff,hpart,rfl,hl1,hl2,hl3⟩:=hr';rw[ay] at hE';simp only[v6,bJ.aN.injEq] at hE';obtain ⟨rfl,rfl⟩:=hE';have hoff':off=0:=by
  have:(some 0:Option Nat)=some off:=by rw[←hoff];rw[rm];rfl
  injection this with this;exact this.symm
 subst hoff';have hp':v=.slice (some ⟨b,0,none⟩) xs.length (l.length-0):=by
  have:[Value.slice (some ⟨b,0+0*1,none⟩) xs.length (l.length-0)]=[v]:=hp;simpa using this.symm
 subst hp';obtain ⟨hcs,hrg⟩:=DO hr;have hbs:b<w.heap.size:=(Y0.1 hb).1;have hH:Holds (Value.int .i64) w b 0 xs.toArray:=fun j hj=>by
  simp only[List.size_toArray] at hj;constructor
  ·simp only[World.cell?,hb,Option.isSome_none,Z2,if_false,Z1];rw[←X8,hcs];rw[Y3,Y4 (by simpa using hj)];simp[hj]
  ·simp[World.frozen?,hb]
 have hlen:(cj xs).length=xs.length:=by simp[cj]
 refine (Any.slices_Sort_int By b 0 (l.length-0) xs w hH hbs (by omega)).mono ?_;rintro e w' ⟨rfl,n,os,rfl⟩;have hb1:(putRow (Value.int .i64) (Sort.ahead w n) b 0 (cj xs).toArray).heap[b]?=some (.cells (putCells (Value.int .i64) 0 (cj xs).toArray cs) T (0,0)):=by
  simp[putRow,mapBlock,Sort.ahead,Array.getElem?_modify,hb,onCells]
 have hother:∀ k,k<w.heap.size→k≠b→(grow (putRow (Value.int .i64) (Sort.ahead w n) b 0 (cj xs).toArray) os).heap[k]?=w.heap[k]?:=fun k hk hkb=>by
  rw[heap_grow_old _ _ (by simpa[Sort.ahead] using hk)];simp[putRow,mapBlock,Sort.ahead,Array.getElem?_modify,Ne.symm hkb]
 have hb2:(grow (putRow (Value.int .i64) (Sort.ahead w n) b 0 (cj xs).toArray) os).heap[b]?=some (.cells (putCells (Value.int .i64) 0 (cj xs).toArray cs) T (0,0)):=by
  rw[heap_grow_old _ _ (by simpa[Sort.ahead] using hbs)];exact hb1
 have hsz:w.heap.size≤(grow (putRow (Value.int .i64) (Sort.ahead w n) b 0 (cj xs).toArray) os).heap.size:=by simp[Sort.ahead]
 have hshow:(grow (putRow (Value.int .i64) (Sort.ahead w n) b 0 (xs.mergeSort fun x y=>decide (x≤y)).toArray) os)=(grow (putRow (Value.int .i64) (Sort.ahead w n) b 0 (cj xs).toArray) os):=rfl;rw[hshow];have hw1:(grow (putRow (Value.int .i64) (Sort.ahead w n) b 0 (cj xs).toArray) os).os=w.os:=rfl;have hw2:(grow (putRow (Value.int .i64) (Sort.ahead w n) b 0 (cj xs).toArray) os).tape=w.tape:=rfl;have hw3:(grow (putRow (Value.int .i64) (Sort.ahead w n) b 0 (cj xs).toArray) os).output=w.output:=rfl;revert hother hb2 hsz hw1 hw2 hw3;generalize grow (putRow (Value.int .i64) (Sort.ahead w n) b 0 (cj xs).toArray) os=w2;intro hother hb2 hsz hw1 hw2 hw3;have hmem:∀ x∈cj xs++q,IntKind.i64.min≤x∧x≤IntKind.i64.max:=fun x hx=>hrg x (by
  rcases X5.1 hx with h | h
  ·exact List.mem_append_left _ (by simpa[cj] using h)
  ·exact List.mem_append_right _ h)
 refine ⟨.tuple #[],D,E,.tuple [],jM 1000000 (cj xs++q),rfl,⟨rfl,rfl⟩,⟨[],rfl,rfl⟩,⟨fun m =>?_,hO.cJ⟩,⟨hw1,hw2,hw3,hsz,fun k hk =>?_⟩,fun _ _ h=>h,fun b0 o h=>Nat.lt_of_lt_of_le (hD b0 o h) hsz,fun _ _ h _ _=>h,fun m e h _=>⟨e,h,bJ.le.refl e⟩,⟨fun b0 o u af hc =>?_,fun b0 es ck af hc =>?_⟩⟩
 ·by_cases hm:m=1000000
  ·subst hm;simp only[jM,aj,if_true];refine ⟨b,_,T,?_,.inr ⟨1000000,_,ay,rfl⟩,hb2,?_,hnD⟩
   ·rw[ay,rm,rm,Z6,Z6,hlen]
   ·show aM w2 D E _ _
    rw[Wh hlen hcs];exact qP hmem
  ·simp only[jM,aj,if_neg hm,cR];exact hEn m hm
 ·by_cases hk2:k<w.heap.size
  ·exact hother k hk2 fun e=>hk (.inr ⟨1000000,_,ay,by rw[e];rfl⟩)
  ·exact absurd (.inl (Nat.le_of_not_lt hk2)) hk
 ·have hne:b0≠b:=fun e=>hnD o (e▸af);simp only[World.cell?,hother b0 (hD b0 o af) hne] at hc ⊢;exact hc
 ·have hne:b0≠b:=fun e=>hnD 0 (e▸af);rw[hother b0 (hD b0 0 af) hne];exact hc
theorem FY(v:I)(hv0:v=.nils 1∨v=enc ([]:List Int)):bf Tryz.prog 89 [v] (.tuple []):=by
 refine ⟨zD,fun w D vs _ hD hv =>?_⟩;simp only[aE] at hv;obtain ⟨u,rest,cs',rfl,hp,hr',rfl⟩:=hv;have hu:∃ a cap,u=.slice a 0 cap:=by
  rcases hv0 with rfl | rfl
  ·have J:cs'=[.slice none 0 0]:=hr';have U:cs'=[u]:=hp;rw[J] at U;exact ⟨none,0,by simpa using U.symm⟩
  ·obtain ⟨a,cap,J,_⟩:=hr';have U:cs'=[u]:=hp;rw[J] at U;exact ⟨a,cap,by simpa using U.symm⟩
 obtain ⟨a,cap,rfl⟩:=hu;refine (Any.slices_Sort_int_none By a cap w).mono ?_;rintro e w' ⟨rfl,rfl⟩;exact ⟨.tuple #[],D,rfl,⟨[],rfl,rfl⟩,⟨rfl,rfl,rfl,Z4 _,fun _ _=>rfl⟩,hD,fun _ _ h _=>h⟩
end Go.Proofs.YthbdbocionnfgaaGreatDoor
