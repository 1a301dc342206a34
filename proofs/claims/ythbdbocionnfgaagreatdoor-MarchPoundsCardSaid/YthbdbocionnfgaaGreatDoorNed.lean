/-
  A part of the proof that the law MarchPounds returns true for every input; three tables of Go's library start as the text lays them (the card ties them); conditions: none beyond the statement's own. (part 4 of 6)
-/
import Derived.ProofKit
import Derived.SizedLaws
import Derived.WalkKit
import Derived.Tactics
import Derived.Tactics2
import Derived.RecoverIn
import Derived.Test.YthbdbocionnfgaaGreatDoorRows
import Derived.Test.YthbdbocionnfgaaGreatDoorCards
import Derived.Test.YthbdbocionnfgaaGreatDoorTie
import Derived.LaidMore
import Derived.MakeChecks
import Derived.Lib.LaidTab
import Derived.Lib.LaidU8
import Derived.Shelf.Sort.Plain
import Derived.Shelf.Slices.In.SortNone
import Derived.Test.YthbdbocionnfgaaGreatDoorNec
set_option linter.unusedSimpArgs false
set_option linter.unusedVariables false
set_option maxHeartbeats 16000000
set_option maxRecDepth 100000
namespace Go.Abs
open Go Go.RowKit
open Enc (enc)
def lC(w:World):aP:=fun b _=>b<w.heap.size
structure iW (P:Program) (t:TypeId) (α:Type) [Enc α]:Prop where
 cells:P.cellsOf t=Enc.sz α
 Yj:0<Enc.sz α
 pF:∀ {H:Type} {enc0:TypeId×Value→H} {w:World} {fuel:Nat} {cs:List Value} {x:DataW H×List MemPlace},DataW.trod enc0 P w 0 (fun _=>true) true fuel t cs=some x→∃ a:α,al w (lC w) dk (enc a) cs
theorem X9{P:Program}{t:TypeId}(ht:P.underlying t=some (.int .i64))(hc:P.cellsOf t=1):iW P t Int :=
 ⟨hc,by decide,fun h=>by
  obtain ⟨n,rfl,_,hw⟩:=DataW.trod_int ht h;refine ⟨n,?_⟩;rw[eC,al];simp only[Lit.wf,t8,decide_eq_true_eq] at hw;exact ⟨rfl,hw.1,hw.2⟩⟩
theorem GX(a:Addr)(i j:Nat):(a.add i).add j=a.add (i+j):=by
 unfold Addr.add;by_cases hi:i=0 <;>by_cases hj:j=0 <;>simp[hi,hj,Nat.add_assoc]
theorem C2{P:Program}{t e:TypeId}{α:Type}[Enc α](ht:P.underlying t=some (.slice e))(he:iW P e α)(hc:P.cellsOf t=1):iW P t (List α) :=
 ⟨hc,by rw[jq];exact Nat.one_pos,fun {H enc0 w fuel cs x} h=>by
  rcases DataW.trod_slice ht h with ⟨rfl,_⟩ | ⟨a,len,cap,elems,rest,n,_,rfl,_,hb,aq,hm,hlen,hel,_⟩
  ·refine ⟨[],?_⟩;simp only[hE,zx0];rw[al];exact ⟨none,0,rfl,Z4 _,by decide,.inl rfl,by simp⟩
  ·have key:∀ k,k≤len→∃ (l:List α) (cs':List Value),l.length=k∧aN w (lC w) dk (l.map enc) cs'∧cs'.length=k*Enc.sz α∧∀ j v,cs'[j]?=some v→w.cell? (a.add j)=some v:=by
    intro k
    induction k with
    |zero=>exact fun _=>⟨[],[],rfl,by simp[aN],by simp,by simp⟩
    |succ k ih =>
     intro hk;obtain ⟨l,cs',J,U,ah,ar⟩:=ih (by omega);have h5:=hel k (by omega);have h6:k<elems.length:=by omega
     rw[zz4 h6] at h5;obtain ⟨ce,h7,h8⟩:=zx9.1 h5;obtain ⟨y,hy⟩:=he.pF h8;rw[he.cells] at h7;obtain ⟨_,h9,h10⟩:=World.cells?_some h7;refine ⟨l++[y],cs'++ce,by simp[J],?_,by rw[Z7,ah,h9,Nat.succ_mul],fun j v hj =>?_⟩
     ·rw[zz3];refine jW _ _ _ _ U ?_;simp only[Z3,zx0,aN];exact ⟨ce,[],by simp,hy,rfl⟩
     ·rcases Nat.lt_or_ge j cs'.length with hlt | hge
      ·rw[zz5 hlt] at hj;exact ar j v hj
      ·rw[zx6 hge] at hj;have hlt:j-cs'.length<Enc.sz α:=by
        have:=(Z6.1 hj).1;omega
       have:=h10 (j-cs'.length) hlt;rw[GX,←ah,Nat.add_sub_cancel' hge] at this;rw[this];exact hj
   obtain ⟨l,cs',J,U,ah,ar⟩:=key len (Z4 _);refine ⟨l,?_⟩;simp only[hE,al,Z8];refine ⟨some a,cap,by rw[J],by omega,hm,?_,G4 l⟩;by_cases hz:len=0
   ·left;have:l=[]:=List.length_eq_zero_iff.1 (by omega);rw[this];rfl
   right
   have hpos:0<cs'.length:=by rw[ah];exact Nat.mul_pos (Nat.pos_of_ne_zero hz) he.Yj
   have aW:=ar 0 cs'[0] (zz4 hpos);have hsp:a.spot=none:=by
    simp only[Addr.add,if_true] at aW;unfold World.cell? at aW;split at aW
    ·split at aW
     ·cases aW
     ·rename_i ab;cases bH:a.spot <;>simp_all
    ·cases aW
   have ha:∀ j,a.add j=⟨a.block,a.off+j,none⟩:=fun j=>by
    unfold Addr.add;split
    ·rename_i hj;subst hj;cases a;simp_all
    ·rfl
   refine ⟨a.block,a.off,cs',by cases a;simp_all,fun j v hj =>?_,U⟩;have h5:=ar j v hj;rw[ha] at h5;refine ⟨h5,?_⟩
   show (⟨a.block,a.off+j,none⟩:Addr).block<_
   exact World.block_lt_of_cell? w _ h5⟩
end Go.Abs
namespace Go.Abs
open Go Go.RowKit Go.ChangeShapes
open Enc (enc)
def qI(P:Program)(t:TypeId)(l:List (TypeId×Nat)):Bool:=match P.underlying t with
 |some (.struct fs)=>fs.toList.map (fun f=>(f.type,f.offset))==l
 |_=>false
def B5(P:Program)(t:TypeId)(n:Nat)(e:TypeId):Bool:=match P.underlying t with
 |some (.array n' e')=>n'==n&&e'==e
 |_=>false
theorem Wn{P:Program}{t:TypeId}{n:Nat}{e:TypeId}(h:B5 P t n e=true):P.underlying t=some (.array n e):=by
 unfold B5 at h;split at h
 ·rename_i n' e' ht;simp only[t8,beq_iff_eq] at h;rw[ht,h.1,h.2]
 ·cases h
theorem Wr{P:Program}{t:TypeId}{l:List (TypeId×Nat)}(h:qI P t l=true):∃ fs,P.underlying t=some (.struct fs)∧fs.toList.map (fun f=>(f.type,f.offset))=l:=by
 unfold qI at h;split at h
 ·rename_i fs ht;exact ⟨fs,ht,by simpa using h⟩
 ·cases h
theorem Fo{H:Type}{enc0:TypeId×Value→H}{P:Program}{w:World}{fuel:Nat}{t:TypeId}{l:List (TypeId×Nat)}{cs:List Value}{x:DataW H×List MemPlace}(ht:qI P t l=true)(h:DataW.trod enc0 P w 0 (fun _=>true) true fuel t cs=some x) :
  cs.length=P.cellsOf t∧∃ m:Nat,∀ (i:Nat) (u:TypeId) (o:Nat),l[i]?=some (u,o)→∃ y,DataW.trod enc0 P w 0 (fun _=>true) true m u ((cs.drop o).take (P.cellsOf u))=some y:=by
 obtain ⟨fs,J,U⟩:=Wr ht;obtain ⟨xs,m,_,_,ah,ar,h5⟩:=DataW.trod_struct J h;refine ⟨ah,m,fun i u o hi =>?_⟩;rw[←U] at hi;simp only[zy0,t7,Prod.mk.injEq] at hi;obtain ⟨f,hf,rfl,rfl⟩:=hi;have hf':fs[i]?=some f:=by simpa using hf
 have h6:=h5 i f hf';have hlt:i<fs.size:=(zz2.1 hf').1;rw[zz4 (by omega)] at h6;exact ⟨_,h6⟩
section
variable {P:Program} {t:TypeId} {α β γ:Type} [Enc α] [Enc β] [Enc γ] {H:Type} {enc0:TypeId×Value→H} {w:World} {fuel:Nat} {cs:List Value} {x:DataW H×List MemPlace}
theorem Yb{u0 u1 u2:TypeId}(ht:qI P t [(u0,0),(u1,Enc.sz α),(u2,Enc.sz α+Enc.sz β)]=true)(aW:iW P u0 α)(J:iW P u1 β)(U:iW P u2 γ)(hc:P.cellsOf t=Enc.sz α+Enc.sz β+Enc.sz γ)(h:DataW.trod enc0 P w 0 (fun _=>true) true fuel t cs=some x) :
  ∃ (a:α) (b:β) (c:γ),al w (lC w) dk (.agg [enc a,enc b,enc c]) cs:=by
 obtain ⟨aq,m,hf⟩:=Fo ht h;obtain ⟨y0,k0⟩:=hf 0 u0 0 rfl;obtain ⟨y1,k1⟩:=hf 1 u1 (Enc.sz α) rfl;obtain ⟨y2,k2⟩:=hf 2 u2 (Enc.sz α+Enc.sz β) rfl;obtain ⟨a,ha⟩:=aW.pF k0;obtain ⟨b,hb⟩:=J.pF k1;obtain ⟨c,hcc⟩:=U.pF k2;rw[aW.cells,List.drop_zero] at ha;rw[J.cells] at hb;rw[U.cells,List.take_of_length_le (by rw[List.length_drop];omega)] at hcc;refine ⟨a,b,c,?_⟩;simp only[al,aN];refine ⟨_,_,(List.take_append_drop (Enc.sz α) cs).symm,ha,(cs.drop (Enc.sz α)).take (Enc.sz β),(cs.drop (Enc.sz α)).drop (Enc.sz β),(List.take_append_drop _ _).symm,hb,(cs.drop (Enc.sz α)).drop (Enc.sz β),[],by simp,?_,rfl⟩;rw[List.drop_drop];exact hcc
theorem C1{fq:Nat}{v:Value}{d:DataW H}{p:List MemPlace}(ho:iW P t α)(hA:Enc.gU α=false)(hst:(match P.underlying t with | some (.slice _) | some (.int _) | some .bool=>true | _=>false)=true)(hv:Value.okWide P w .any fq t v)
  (h:DataW.Trod enc0 P w 0 (fun _=>true) true t v d p):∃ (a:α) (cs:List Value),bD (enc a) v cs∧al w (lC w) dk (enc a) cs:=by
 obtain ⟨fuel,h⟩:=h;have hone:v.cells.toList=[v]:=by
  unfold Value.okWide at hv;split at hst
  ·rename_i e ht;rw[ht] at hv;simp only[Cell.okWide,ht] at hv;cases v <;>simp_all[Cell.ok,Value.cells]
  ·rename_i e ht;rw[ht] at hv;simp only[Cell.okWide,ht] at hv;cases v <;>simp_all[Cell.ok,Value.cells]
  ·rename_i ht;rw[ht] at hv;simp only[Cell.okWide,ht] at hv;cases v <;>simp_all[Cell.ok,Value.cells]
  ·cases hst
 rw[hone] at h;obtain ⟨a,ha⟩:=ho.pF h;exact ⟨a,[v],by simp[bD,Enc.agg,hA],ha⟩
end
theorem Yn{H:Type}{enc0:TypeId×Value→H}{P:Program}{f:Func}{s:ChangeSpec}{apart kg handsOn again:Bool}{W W':World}{args:Array Value}{v:Value}{ds gs:List (DataW H)}{before pa pv:List MemPlace}
  (hW:DataW.Whole enc0 P f.params.toList s.vars apart W args.toList ds gs before)
  (hres:∀ (b:Nat) (sp:Nat→Bool) (af:Bool),DataW.TrodAll enc0 P W' b sp af f.resultTypes.toList (v.resultList f.resultTypes.size) (s.fn H (ds++gs)).results [])
  (hargs:∀ sp:Nat→Bool,(∀ p∈before,sp p.block=true)→DataW.TrodAll enc0 P W' 0 sp true f.params.toList args.toList (s.fn H (ds++gs)).args pa)
  (hvars:∀ sp:Nat→Bool,(∀ p∈before,sp p.block=true)→DataW.TrodVars enc0 P W' sp s.vars (s.fn H (ds++gs)).vars pv)
  (hps:before=pa++pv) (hb:Below W.heap.size W W')
  (hok:∀ (j:Nat) (t:TypeId) (r:Value),f.resultTypes[j]?=some t→(v.resultList f.resultTypes.size)[j]?=some r→Value.okWide P W' .any 0 t r) :
  s.post enc0 P f apart kg handsOn again W args v W':=by
 have hlt:∀ p∈before,p.block<W.heap.size:=fun p hp=>by simpa using hW.lt p hp
 have hold:∀ p∈before,(fun b=>decide (b<W.heap.size)) p.block=true:=fun p hp=>by simpa using hlt p hp
 refine ⟨ds,gs,before,[],pa,pv,hW,hres _ _ _,hargs _ hold,hvars _ hold,World.keptBut_mono (fun p hp=>⟨hp,?_⟩) (hb.frame (· ∈ before)),fun _ =>?_⟩
 ·rw[hps,zy7] at hp;exact Or.inr hp
 ·obtain ⟨_,_,_,_,_,hz,hn⟩:=hW;refine ⟨hok,_,_,([]++pa)++pv,⟨[]++pa,pv,trodAll_append (hargs _ (fun _ _=>rfl)) (hres _ _ _),hvars _ (fun _ _=>rfl),rfl,?_,?_⟩,?_⟩
  ·intro b off hp;have hp':MemPlace.cell b off∈before:=by rw[hps];simpa using hp
   rw[hb.frozen (p:=⟨b,off,none⟩) (hlt _ hp')];exact hz b off hp'
  ·intro ha;have:=hn ha;rw[hps] at this;simpa using this
  ·intro p hp _;rw[hps];simpa using hp
def yn(P:Program)(u:TypeId)(n:Nat)(S:I→Prop):Prop:=P.cellsOf u=n ∧
 ∀ {H:Type} {enc0:TypeId×Value→H} {w:World} {fuel:Nat} {cs:List Value} {x:DataW H×List MemPlace},DataW.trod enc0 P w 0 (fun _=>true) true fuel u cs=some x→∃ v,S v∧al w (lC w) dk v cs
theorem iW.aV{P:Program}{u:TypeId}{α:Type}[Enc α](h:iW P u α):yn P u (Enc.sz α) fun v=>∃ a:α,v=enc a :=
 ⟨h.cells,fun hx=>by obtain ⟨a,ha⟩:=h.pF hx;exact ⟨enc a,⟨a,rfl⟩,ha⟩⟩
def ri(P:Program):Nat→List (TypeId×Nat)→List (Nat×(I→Prop))→Prop
 |_,[],[]=>True
 |o,(u,off)::l,(n,S)::Ss=>off=o∧yn P u n S∧ri P (o+n) l Ss
 |_,_,_=>False
def oK:List (Nat×(I→Prop))→List I→Prop
 | [],[]=>True
 |(_,S)::Ss,v::vs=>S v∧oK Ss vs
 |_,_=>False
theorem sj{n:Nat}{S:I→Prop}{Ss:List (Nat×(I→Prop))} : ∀ {vs:List I},oK ((n,S)::Ss) vs→∃ v vs',vs=v::vs'∧S v∧oK Ss vs'
 | [],h=>h.elim
 |v::vs,h=>⟨v,vs,rfl,h.1,h.2⟩
theorem G3:∀ {vs:List I},oK [] vs→vs=[]
 | [],_=>rfl
 |_::_,h=>h.elim
def rS:List (Nat×(I→Prop))→Nat
 | []=>0
 |(n,_)::Ss=>n+rS Ss
theorem Bb{P:Program}{H:Type}{enc0:TypeId×Value→H}{w:World}{m:Nat}{cs:List Value} : ∀ (l:List (TypeId×Nat)) (Ss:List (Nat×(I→Prop))) (o:Nat),ri P o l Ss→cs.length=o+rS Ss →
  (∀ (i:Nat) (u:TypeId) (off:Nat),l[i]?=some (u,off)→∃ y,DataW.trod enc0 P w 0 (fun _=>true) true m u ((cs.drop off).take (P.cellsOf u))=some y)→∃ vs,oK Ss vs∧aN w (lC w) dk vs (cs.drop o)
 | [],[],o,_,aq,_=>⟨[],trivial,by simp only[aN];exact List.drop_eq_nil_of_le (by simp only[rS] at aq;omega)⟩
 |(u,off)::l,(n,S)::Ss,o,h,aq,hf=>by
  obtain ⟨rfl,U,ah⟩:=h;obtain ⟨y,hy⟩:=hf 0 u off rfl;obtain ⟨v,hv1,hv2⟩:=U.2 hy;obtain ⟨vs,k1,k2⟩:=Bb l Ss (off+n) ah (by simp only[rS] at aq;omega) fun i u' o' hi=>hf (i+1) u' o' hi;refine ⟨v::vs,⟨hv1,k1⟩,?_⟩;simp only[aN];rw[U.1] at hv2;exact ⟨_,(cs.drop off).drop n,(List.take_append_drop n _).symm,hv2,by rw[List.drop_drop];exact k2⟩
 | [],_::_,_,h,_,_=>h.elim
 |_::_,[],_,h,_,_=>by simp[ri] at h
theorem Ya{P:Program}{t:TypeId}{H:Type}{enc0:TypeId×Value→H}{w:World}{fuel:Nat}{cs:List Value}{x:DataW H×List MemPlace}(l:List (TypeId×Nat))(Ss:List (Nat×(I→Prop)))(ht:qI P t l=true)(hok:ri P 0 l Ss)(hc:P.cellsOf t=rS Ss)(h:DataW.trod enc0 P w 0 (fun _=>true) true fuel t cs=some x) :
  ∃ vs,oK Ss vs∧al w (lC w) dk (.agg vs) cs:=by
 obtain ⟨aq,m,hf⟩:=Fo ht h;obtain ⟨vs,k1,k2⟩:=Bb l Ss 0 hok (by rw[aq,hc];omega) hf;exact ⟨vs,k1,by simpa only[al,List.drop_zero] using k2⟩
theorem WG{P:Program}{f:FuncId}{fn:Func}{s:ChangeSpec}{H:Type}{enc0:TypeId×Value→H}{W:World}{ds gs:List (DataW H)}{before:List MemPlace}{xs:List I}{tb:TypeId}{v0 v1:Value}{t0 t1:TypeId}{d0 d1:DataW H}{gL p1:List MemPlace}{again handsOn kg:Bool}
  (aq:laidOutB P=true) (hpar:fn.params.toList=[t0,t1]) (hds:ds=[d0,d1]) (hgs:gs=[]) (hbef:before=gL++p1)
  (hvars:s.vars=[]) (hfn:s.fn H [d0,d1] = { results:=[.lit (.bool true)],args:=[d0,d1] }) (hres:fn.resultTypes = #[tb]) (htb:P.underlying tb=some .bool)
  (hW:DataW.Whole enc0 P fn.params.toList s.vars false W #[v0,v1].toList ds gs before)
  (aW:DataW.Trod enc0 P W 0 (fun _=>true) true t0 v0 d0 gL) (J:DataW.Trod enc0 P W 0 (fun _=>true) true t1 v1 d1 p1)
  (hr:∀ t∈[t0,t1],P.readableRec t=true∧t<P.types.size)
  (hctr:a8 P f xs (enc true)) (hlaid:gM P W (fun _=>False)) (hv:aI W (lC W) dk xs [v0,v1]) :
  Calls P f #[v0,v1] W fun e W'=>∃ v,e=.returned v∧s.post enc0 P fn false kg handsOn again W #[v0,v1] v W':=by
 subst hds hgs;refine (hctr.2 W (lC W) [v0,v1] hlaid (fun _ _ h=>h) hv).mono fun e W' ⟨v,D',he,hrv,hb,_,_⟩=>⟨v,he,?_⟩
 have hvb:v=.bool true:=kv hrv;subst hvb;have hlt:∀ x∈before,x.block<W.heap.size:=fun x hx=>by simpa using hW.lt x hx
 rw[hbef] at hlt;refine Yn (pa:=gL++(p1++[])) (pv:=[]) hW (fun _ _ _ =>?_) (fun sp hsp =>?_) (fun _ _ =>?_) (by rw[hbef];simp) hb ?_
 ·simp only[zx4,hfn,hres];exact trodAll_mk1 (shut_bool htb true)
 ·simp only[zx4,hfn,hpar];rw[hbef] at hsp;have bd:∀ {t:TypeId} {v:Value} {d:DataW H} {p:List MemPlace},t∈[t0,t1]→DataW.Trod enc0 P W 0 (fun _=>true) true t v d p→(∀ x∈p,x∈gL++p1)→DataW.Trod enc0 P W' 0 sp true t v d p:=fun ht h hp =>
   WideElems.Trod_stays aq (hr _ ht).1 (hr _ ht).2 h (fun x hx=>hb.same (hlt x (hp x hx))) (fun x hx=>hsp x (hp x hx))
  exact trodAll_mk2 (bd (by simp) aW fun x hx=>by simp[hx]) (bd (by simp) J fun x hx=>by simp[hx])
 ·simp only[zx4,hfn,hvars];rfl
 ·intro j t r hj hv';rw[hres] at hj hv'
  match j,hj,hv' with
  |0,hj,hv' =>
   simp[Value.resultList] at hj hv';subst hj;subst hv';simp[Value.okWide,htb,Cell.okWide,Cell.ok]
end Go.Abs
namespace Go.Proofs.YthbdbocionnfgaaGreatDoor
open Go Go.Abs
open Go.Abs.Enc (enc)
structure bg where
 kind:Int
 aK:Int
 other:Int
 no:Int
 deriving DecidableEq,Inhabited
instance:Enc bg where
 enc g:=.agg [.int .i64 g.kind,.int .i64 g.aK,.int .i64 g.other,.int .i64 g.no]
 sz:=4
 aX:=.eI [.one,.one,.one,.one]
 gU:=true
 done g:=by simp only[I.done,I.gw,Bool.and_self]
 size g:=by simp only[I.size,I.sizes]
 iO g:=by simp only[I.aX,I.c7]
 agg _:=rfl
structure ea where
 kind:Int
 cP:Int
 to:Int
 aK:Int
 no:Int
 deriving DecidableEq,Inhabited
instance:Enc ea where
 enc g:=.agg [.int .i64 g.kind,.int .i64 g.cP,.int .i64 g.to,.int .i64 g.aK,.int .i64 g.no]
 sz:=5
 aX:=.eI [.one,.one,.one,.one,.one]
 gU:=true
 done g:=by simp only[I.done,I.gw,Bool.and_self]
 size g:=by simp only[I.size,I.sizes]
 iO g:=by simp only[I.aX,I.c7]
 agg _:=rfl
structure cC where
 no:Int
 to:Int
 aK:Int
 dD:Bool
 deriving DecidableEq,Inhabited
instance:Enc cC where
 enc g:=.agg [.int .i64 g.no,.int .i64 g.to,.int .i64 g.aK,.bool g.dD]
 sz:=4
 aX:=.eI [.one,.one,.one,.one]
 gU:=true
 done g:=by simp only[I.done,I.gw,Bool.and_self]
 size g:=by simp only[I.size,I.sizes]
 iO g:=by simp only[I.aX,I.c7]
 agg _:=rfl
theorem iG{fs:List I}{f off:Nat}{v:I}(J:f<fs.length)(h:I.sizes (fs.take f)=off):du fs f off v=some v:=by simp[du,h,J]
theorem FC :
  (∀ g:bg,(enc g).dP=some [.int .i64 g.kind,.int .i64 g.aK,.int .i64 g.other,.int .i64 g.no])∧(∀ g:ea,(enc g).dP=some [.int .i64 g.kind,.int .i64 g.cP,.int .i64 g.to,.int .i64 g.aK,.int .i64 g.no]) ∧
  (∀ g:cC,(enc g).dP=some [.int .i64 g.no,.int .i64 g.to,.int .i64 g.aK,.bool g.dD]) ∧
  (∀ (a b c d:I) v,(a.size=1∧b.size=1∧c.size=1)→du [a,b,c,d] 0 0 v=some v) ∧
  (∀ (g:bg),cg (some 4) (enc g)=true)∧(∀ (g:ea),cg (some 5) (enc g)=true)∧(∀ (g:cC),cg (some 4) (enc g)=true) ∧
  (∀ (fs:List I) x,(x::fs)[0]?=some x)∧(∀ (fs:List I) x n,(x::fs)[n+1]?=fs[n]?)∧(∀ (fs:List I) x,(x::fs)[1]?=fs[0]?)∧(∀ (fs:List I) x,(x::fs)[2]?=fs[1]?)∧(∀ (fs:List I) x,(x::fs)[3]?=fs[2]?)∧(∀ (fs:List I) x,(x::fs)[4]?=fs[3]?) :=
 ⟨fun _=>rfl,fun _=>rfl,fun _=>rfl,fun a b c d v h=>iG (by simp) (by simp[I.sizes]),fun _=>by rw[fb];rfl,fun _=>by rw[fb];rfl,fun _=>by rw[fb];rfl,fun _ _=>rfl,fun _ _ _=>rfl,fun _ _=>rfl,fun _ _=>rfl,fun _ _=>rfl,fun _ _=>rfl⟩
theorem CO:(∀ (a b c d:Int) v,du [.int .i64 a,.int .i64 b,.int .i64 c,.int .i64 d] 0 0 v=some v)∧(∀ (a b c d:Int) v,du [.int .i64 a,.int .i64 b,.int .i64 c,.int .i64 d] 1 1 v=some v)∧(∀ (a b c d:Int) v,du [.int .i64 a,.int .i64 b,.int .i64 c,.int .i64 d] 2 2 v=some v)∧(∀ (a b c d:Int) v,du [.int .i64 a,.int .i64 b,.int .i64 c,.int .i64 d] 3 3 v=some v) ∧
  (∀ (a b c d e:Int) v,du [.int .i64 a,.int .i64 b,.int .i64 c,.int .i64 d,.int .i64 e] 0 0 v=some v)∧(∀ (a b c d e:Int) v,du [.int .i64 a,.int .i64 b,.int .i64 c,.int .i64 d,.int .i64 e] 1 1 v=some v)∧(∀ (a b c d e:Int) v,du [.int .i64 a,.int .i64 b,.int .i64 c,.int .i64 d,.int .i64 e] 2 2 v=some v)∧(∀ (a b c d e:Int) v,du [.int .i64 a,.int .i64 b,.int .i64 c,.int .i64 d,.int .i64 e] 3 3 v=some v)∧(∀ (a b c d e:Int) v,du [.int .i64 a,.int .i64 b,.int .i64 c,.int .i64 d,.int .i64 e] 4 4 v=some v) ∧
  (∀ (a b c:Int) (d:Bool) v,du [.int .i64 a,.int .i64 b,.int .i64 c,.bool d] 0 0 v=some v)∧(∀ (a b c:Int) (d:Bool) v,du [.int .i64 a,.int .i64 b,.int .i64 c,.bool d] 1 1 v=some v)∧(∀ (a b c:Int) (d:Bool) v,du [.int .i64 a,.int .i64 b,.int .i64 c,.bool d] 2 2 v=some v)∧(∀ (a b c:Int) (d:Bool) v,du [.int .i64 a,.int .i64 b,.int .i64 c,.bool d] 3 3 v=some v) :=
 ⟨fun _ _ _ _ _=>rfl,fun _ _ _ _ _=>rfl,fun _ _ _ _ _=>rfl,fun _ _ _ _ _=>rfl,fun _ _ _ _ _ _=>rfl,fun _ _ _ _ _ _=>rfl,fun _ _ _ _ _ _=>rfl,fun _ _ _ _ _ _=>rfl,fun _ _ _ _ _ _=>rfl,fun _ _ _ _ _=>rfl,fun _ _ _ _ _=>rfl,fun _ _ _ _ _=>rfl,fun _ _ _ _ _=>rfl⟩
theorem aD:(type_of% @FC)∧(type_of% @CO)∧(∀ {α:Type} [Enc α] (aL:Bool) (A:ai) (x:α),bj aL A (enc x)=some (enc x))∧(∀ {α:Type} [Enc α] (x:α),(enc x).bT=true)∧(type_of% @mO)∧(type_of% @Cy)∧(type_of% @AH)∧(type_of% @kA)∧(type_of% @bG) :=
 ⟨FC,CO,@lH,@ef,mO,Cy,AH,kA,bG⟩
def dp(lo hi n:Int):Bool:=decide (lo≤n)&&decide (n≤hi)
theorem oG(n lo hi:Int):a8 Tryz.prog 105 [enc n,enc lo,enc hi] (enc (dp lo hi n)):=by
 refine a8.cd Tryz.func105 H7 Jc Kj (u8 rfl) (fun hwf W0 bF E1 =>?_);simp only[yU,Dn,bJ,Z1,Nat.reduceAdd];have R:=y6 @kA @bG
 repeat' ((first |(with_reducible refine .guard (fun hb =>?_) (fun hb =>?_) <;>try simp only[hb])|refine ae.aF (by decide +kernel) rfl fun K hK =>?_|(refine .ay [0,1,2,6] hK ?_;clear hK K)|(with_reducible refine .done (hK _ ?_);clear hK K)|refine ae.of rfl ?_|(with_reducible refine az.aE (fun h =>?_) (fun h =>?_) <;>try simp only[h])) <;>try simp only[aG,R,simprocAttr])
 all_goals clear R
 all_goals (simp at *;simp_all[dp])
 all_goals omega
theorem mw(n:Int):a8 Tryz.prog 61 [enc n] (enc (dp 0 5 n)):=by
 refine a8.cd Tryz.func61 IF JI KZ (u8 rfl) (fun hwf W0 bF E1 =>?_);simp only[zy,D9,bJ];have R:=y6 @kA @bG
 repeat' ((first |refine ae.aF (by decide +kernel) rfl fun K hK =>?_|refine .flat _ (oG n 0 5) rfl ?_|(refine .ay [0,2] hK ?_;clear hK K)|(with_reducible refine .done (hK _ ?_);clear hK K)|refine ae.of rfl ?_|(with_reducible refine az.aE (fun h =>?_) (fun h =>?_) <;>try simp only[h])) <;>try simp only[aG,R,simprocAttr])
 all_goals clear R
theorem p5(n:Int):a8 Tryz.prog 71 [enc n] (enc (dp 1 9999 n)):=by
 refine a8.cd Tryz.func71 IN JQ K7 (u8 rfl) (fun hwf W0 bF E1 =>?_);simp only[zH,Ei,bJ];have R:=y6 @kA @bG
 repeat' ((first |refine ae.aF (by decide +kernel) rfl fun K hK =>?_|refine .flat _ (oG n 1 9999) rfl ?_|(refine .ay [0,2] hK ?_;clear hK K)|(with_reducible refine .done (hK _ ?_);clear hK K)|refine ae.of rfl ?_|(with_reducible refine az.aE (fun h =>?_) (fun h =>?_) <;>try simp only[h])) <;>try simp only[aG,R,simprocAttr])
 all_goals clear R
theorem yj(n:Int):a8 Tryz.prog 90 [enc n] (enc (dp 1 200 n)):=by
 refine a8.cd Tryz.func90 I3 J3 Ll (u8 rfl) (fun hwf W0 bF E1 =>?_);simp only[zU,Ew,bJ];have R:=y6 @kA @bG
 repeat' ((first |refine ae.aF (by decide +kernel) rfl fun K hK =>?_|refine .flat _ (oG n 1 200) rfl ?_|(refine .ay [0,2] hK ?_;clear hK K)|(with_reducible refine .done (hK _ ?_);clear hK K)|refine ae.of rfl ?_|(with_reducible refine az.aE (fun h =>?_) (fun h =>?_) <;>try simp only[h])) <;>try simp only[aG,R,simprocAttr])
 all_goals clear R
theorem r7(n lo hi:Int):a8 Tryz.prog 68 [enc n,enc lo,enc hi] (enc (dp lo hi n)):=by
 refine a8.cd Tryz.func68 IL JO K5 (u8 rfl) (fun hwf W0 bF E1 =>?_);simp only[zF,Ef,bJ,Z1,Nat.reduceAdd];have R:=y6 @kA @bG
 repeat' ((first |(with_reducible refine .guard (fun hb =>?_) (fun hb =>?_) <;>try simp only[hb])|refine ae.aF (by decide +kernel) rfl fun K hK =>?_|(refine .ay [0,1,2,6] hK ?_;clear hK K)|(with_reducible refine .done (hK _ ?_);clear hK K)|refine ae.of rfl ?_|(with_reducible refine az.aE (fun h =>?_) (fun h =>?_) <;>try simp only[h])) <;>try simp only[aG,R,simprocAttr])
 all_goals clear R
 all_goals (simp at *;simp_all[dp])
 all_goals omega
theorem yc(n:Int):a8 Tryz.prog 64 [enc n] (enc (dp 0 5 n)):=by
 refine a8.cd Tryz.func64 IH JK K1 (u8 rfl) (fun hwf W0 bF E1 =>?_);simp only[zB,Eb,bJ];have R:=y6 @kA @bG
 repeat' ((first |refine ae.aF (by decide +kernel) rfl fun K hK =>?_|refine .flat _ (r7 n 0 5) rfl ?_|(refine .ay [0,2] hK ?_;clear hK K)|(with_reducible refine .done (hK _ ?_);clear hK K)|refine ae.of rfl ?_|(with_reducible refine az.aE (fun h =>?_) (fun h =>?_) <;>try simp only[h])) <;>try simp only[aG,R,simprocAttr])
 all_goals clear R
theorem ye(n:Int):a8 Tryz.prog 67 [enc n] (enc (dp 1 9999 n)):=by
 refine a8.cd Tryz.func67 IK JN K4 (u8 rfl) (fun hwf W0 bF E1 =>?_);simp only[zE,Ee,bJ];have R:=y6 @kA @bG
 repeat' ((first |refine ae.aF (by decide +kernel) rfl fun K hK =>?_|refine .flat _ (r7 n 1 9999) rfl ?_|(refine .ay [0,2] hK ?_;clear hK K)|(with_reducible refine .done (hK _ ?_);clear hK K)|refine ae.of rfl ?_|(with_reducible refine az.aE (fun h =>?_) (fun h =>?_) <;>try simp only[h])) <;>try simp only[aG,R,simprocAttr])
 all_goals clear R
def hl(x:bg):Bool :=
 if x.kind=1∨x.kind=2 then dp 1 9999 x.aK&&(x.other==0&&x.no==0)
 else if 3≤x.kind∧x.kind≤8 then dp 1 9999 x.aK&&(dp 0 5 x.other&&dp 1 200 x.no)
 else false
theorem Gs(x:bg):a8 Tryz.prog 66 [enc x] (enc (hl x)):=by
 refine a8.cd Tryz.func66 IJ JM K3 (u8 rfl) (fun hwf W0 bF E1 =>?_);simp only[zD,Ed,bJ];have R:=aD
 repeat' ((first |(with_reducible refine .guard (fun hb =>?_) (fun hb =>?_) <;>try simp only[hb])|refine ae.aF (by decide +kernel) rfl fun K hK =>?_|refine .flat _ (p5 x.aK) rfl ?_|refine .flat _ (mw x.other) rfl ?_|refine .flat _ (yj x.no) rfl ?_|(refine .ay [0,1,2,4,5,21] hK ?_;clear hK K)|(with_reducible refine .done (hK _ ?_);clear hK K)|refine ae.of rfl ?_|(with_reducible refine az.aE (fun h =>?_) (fun h =>?_) <;>try simp only[h])) <;>try simp only[aG,R,simprocAttr])
 all_goals clear R
 all_goals (simp_all[hl])
 all_goals (intros;exfalso;omega)
theorem F9(x:bg):a8 Tryz.prog 22 [enc x] (enc (if hl x then (0:Int) else 1)):=by
 refine a8.cd Tryz.func22 Io Js KJ (u8 rfl) (fun hwf W0 bF E1 =>?_);simp only[zg,DP,bJ];have R:=aD
 repeat' ((first |(with_reducible refine .guard (fun hb =>?_) (fun hb =>?_) <;>try simp only[hb])|refine ae.aF (by decide +kernel) rfl fun K hK =>?_|refine .flat _ (ye x.aK) rfl ?_|refine .flat _ (yc x.other) rfl ?_|refine .flat _ (r7 x.no 1 200) rfl ?_|(refine .ay [0,1,2,4,5,20,21,40] hK ?_;clear hK K)|(with_reducible refine .done (hK _ ?_);clear hK K)|refine ae.of rfl ?_|(with_reducible refine az.aE (fun h =>?_) (fun h =>?_) <;>try simp only[h])) <;>try simp only[aG,R,simprocAttr])
 all_goals clear R
 all_goals (simp_all[hl])
 all_goals (intros;exfalso;omega)
def tt(r:ea):Bool:=dp 1 4 r.kind&&(dp 0 5 r.cP&&(dp 0 5 r.to&&((r.cP != r.to)&&(dp 1 9999 r.aK&&dp 1 200 r.no))))
theorem Gt(r:ea):a8 Tryz.prog 70 [enc r] (enc (tt r)):=by
 refine a8.cd Tryz.func70 IM JP K6 (u8 rfl) (fun hwf W0 bF E1 =>?_);simp only[zG,Eg,bJ];have R:=aD
 repeat' ((first |(with_reducible refine .guard (fun hb =>?_) (fun hb =>?_) <;>try simp only[hb])|refine ae.aF (by decide +kernel) rfl fun K hK =>?_|refine .flat _ (oG r.kind 1 4) rfl ?_|refine .flat _ (mw r.cP) rfl ?_|refine .flat _ (mw r.to) rfl ?_|refine .flat _ (p5 r.aK) rfl ?_|refine .flat _ (yj r.no) rfl ?_|(refine .ay [0,1,2] hK ?_;clear hK K)|(with_reducible refine .done (hK _ ?_);clear hK K)|refine ae.of rfl ?_|(with_reducible refine az.aE (fun h =>?_) (fun h =>?_) <;>try simp only[h])) <;>try simp only[aG,R,simprocAttr])
 all_goals clear R
 all_goals (simp_all[tt])
theorem fm{i n:Nat}(h:i<n):decide ((i:Int)<(n:Int))=true:=by simp;omega
theorem fu{i n:Nat}(h:¬ i<n):decide ((i:Int)<(n:Int))=false:=by simp;omega
theorem fo{i:Nat}(h:i<9223372036854775807):IntKind.i64.wrap ((i:Int)+1)=((i+1:Nat):Int):=by rw[ly _ (by omega) (by omega)];rfl
theorem GL(x y:bg):x=y↔x.kind=y.kind∧x.aK=y.aK∧x.other=y.other∧x.no=y.no:=by cases x;cases y;simp
theorem GO(x y:ea):x=y↔x.kind=y.kind∧x.cP=y.cP∧x.to=y.to∧x.aK=y.aK∧x.no=y.no:=by cases x;cases y;simp
theorem GQ(x y:cC):x=y↔x.no=y.no∧x.to=y.to∧x.aK=y.aK∧x.dD=y.dD:=by cases x;cases y;simp
theorem Mv(x y:bg):ca (.bd [.i .i64,.i .i64,.i .i64,.i .i64]) (enc x) (enc y)=some (decide (x=y)):=by
 show ca (.bd [.i .i64,.i .i64,.i .i64,.i .i64]) (.agg [.int .i64 x.kind,.int .i64 x.aK,.int .i64 x.other,.int .i64 x.no]) (.agg [.int .i64 y.kind,.int .i64 y.aK,.int .i64 y.other,.int .i64 y.no])=_
 simp[ca,hX,iY,GL];rfl
theorem AW(x y:ea):ca (.bd [.i .i64,.i .i64,.i .i64,.i .i64,.i .i64]) (enc x) (enc y)=some (decide (x=y)):=by
 show ca (.bd [.i .i64,.i .i64,.i .i64,.i .i64,.i .i64]) (.agg [.int .i64 x.kind,.int .i64 x.cP,.int .i64 x.to,.int .i64 x.aK,.int .i64 x.no]) (.agg [.int .i64 y.kind,.int .i64 y.cP,.int .i64 y.to,.int .i64 y.aK,.int .i64 y.no])=_
 simp[ca,hX,iY,GO];rfl
theorem AX(x y:cC):ca (.bd [.i .i64,.i .i64,.i .i64,.b]) (enc x) (enc y)=some (decide (x=y)):=by
 show ca (.bd [.i .i64,.i .i64,.i .i64,.b]) (.agg [.int .i64 x.no,.int .i64 x.to,.int .i64 x.aK,.bool x.dD]) (.agg [.int .i64 y.no,.int .i64 y.to,.int .i64 y.aK,.bool y.dD])=_
 simp[ca,hX,iY,GQ];rfl
theorem Xd(x y:Int):(x != y) = !decide (x=y):=by by_cases h:x=y <;>simp[h]
theorem x9(a b:List Int):a8 Tryz.prog 41 [enc a,enc b] (enc (decide (a=b))):=by
 refine a8.cd Tryz.func41 Iz JC KT (u8 rfl) (fun hwf W0 bF E1 =>?_);simp only[zq,DZ,bJ,Z1];have hlen:a.length≤maxLen:=((lv a).1 hwf.1).1;simp only[maxLen] at hlen;clear hwf;by_cases aq:a.length=b.length
 case neg =>
  have hn:((a.length:Int) != (b.length:Int))=true:=by simp;omega
  have R:=y6 @hn aD
  repeat' ((first |refine ae.aF (by decide +kernel) rfl fun K hK =>?_|(refine .ay [0,1,4,5,10,12,13,14,24] hK ?_;clear hK K)|(with_reducible refine .done (hK _ ?_);clear hK K)|refine ae.of rfl ?_|(with_reducible refine az.aE (fun h =>?_) (fun h =>?_) <;>try simp only[h])) <;>try simp only[aG,R,simprocAttr])
  all_goals clear R
  have:¬ a=b:=fun e=>aq (by rw[e]);simp[this]
 have hn:((a.length:Int) != (b.length:Int))=false:=by simp;omega
 have R:=y6 @hn aD
 repeat' ((first |refine ae.aF (by decide +kernel) rfl fun K hK =>?_|(refine .ay [0,1,4,5,10,12,13,14,24] hK ?_;clear hK K)|(with_reducible refine .done (hK _ ?_);clear hK K)|refine ae.of rfl ?_|(with_reducible refine az.aE (fun h =>?_) (fun h =>?_) <;>try simp only[h])) <;>try simp only[aG,R,simprocAttr])
 all_goals clear R
 refine ae.loop (fun i:Nat=>av [(0,enc a),(1,enc b),(12,.int .i64 a.length),(13,.int .i64 i)] []) (fun i=>i≤a.length∧∀ k,k<i→a[k]?=b[k]?) (fun i=>a.length-i) 0 ⟨zy3 _,fun k h=>by omega⟩ ?_ (fun i hi =>?_)
 ·refine bm.cI ?_ ?_ ?_ ?_ <;>simp[b6,cD,cm,cn,bZ,I.only,b7]
 obtain ⟨hi1,hi2⟩:=hi;by_cases hlt:i<a.length
 ·have hc:=fm hlt;have he:=fun A=>eb (A:=A) 1 hlt rfl;have hlt2:i<b.length:=by omega
  have he2:=fun A=>eb (A:=A) 1 hlt2 rfl;have hw:=fo (i:=i) (by omega);have hq:=Xd a[i] b[i];rcases hp:decide (a[i]=b[i])
  ·rw[hp] at hq;have R:=y6 @hc (y6 @he (y6 @he2 (y6 @hq aD)))
   repeat' ((first |refine ae.aF (by decide +kernel) rfl fun K hK =>?_|(refine .ay [0,1,4,5,10,12,13,14,24] hK ?_;clear hK K)|(with_reducible refine .done (hK _ ?_);clear hK K)|refine ae.of rfl ?_|(with_reducible refine az.aE (fun h =>?_) (fun h =>?_) <;>try simp only[h])) <;>try simp only[aG,R,simprocAttr])
   all_goals clear R
   have:¬ a=b:=fun e=>by subst e;simp at hp
   simp[this]
  ·rw[hp] at hq;have R:=y6 @hc (y6 @he (y6 @he2 (y6 @hq (y6 @hw aD))))
   repeat' ((first |refine ae.aF (by decide +kernel) rfl fun K hK =>?_|(refine .ay [0,1,4,5,10,12,13,14,24] hK ?_;clear hK K)|(with_reducible refine .done (hK _ ?_);clear hK K)|refine ae.of rfl ?_|(with_reducible refine az.aE (fun h =>?_) (fun h =>?_) <;>try simp only[h])) <;>try simp only[aG,R,simprocAttr])
   all_goals clear R
   refine ⟨i+1,⟨by omega,fun k hk =>?_⟩,by omega,?_⟩
   ·by_cases e:k=i
    ·subst e;have:a[k]=b[k]:=by simpa using hp
     simp[hlt,hlt2,this]
    ·exact hi2 k (by omega)
   ·refine bm.cI ?_ ?_ ?_ ?_ <;>simp[b6,cD,cm,cn,bZ,I.only,b7]
 ·have hc:=fu hlt;have R:=y6 @hc aD
  repeat' ((first |refine ae.aF (by decide +kernel) rfl fun K hK =>?_|(refine .ay [0,1,4,5,10,12,13,14,24] hK ?_;clear hK K)|(with_reducible refine .done (hK _ ?_);clear hK K)|refine ae.of rfl ?_|(with_reducible refine az.aE (fun h =>?_) (fun h =>?_) <;>try simp only[h])) <;>try simp only[aG,R,simprocAttr])
  all_goals clear R
  have:a=b:=List.ext_getElem? fun k=>by
   by_cases hk:k<i
   ·exact hi2 k hk
   ·rw[zx2 (by omega),zx2 (by omega)]
  simp[this]
theorem Gi(a b:List bg):a8 Tryz.prog 52 [enc a,enc b] (enc (decide (a=b))):=by
 refine a8.cd Tryz.func52 IC JF KW (u8 rfl) (fun hwf W0 bF E1 =>?_);simp only[zu,D6,bJ,Z1];have hlen:a.length≤maxLen:=((lv a).1 hwf.1).1;simp only[maxLen] at hlen;clear hwf;by_cases aq:a.length=b.length
 case neg =>
  have hn:((a.length:Int) != (b.length:Int))=true:=by simp;omega
  have R:=y6 @hn aD
  repeat' ((first |refine ae.aF (by decide +kernel) rfl fun K hK =>?_|(refine .ay [0,1,4,5,10,12,13,14,24] hK ?_;clear hK K)|(with_reducible refine .done (hK _ ?_);clear hK K)|refine ae.of rfl ?_|(with_reducible refine az.aE (fun h =>?_) (fun h =>?_) <;>try simp only[h])) <;>try simp only[aG,R,simprocAttr])
  all_goals clear R
  have:¬ a=b:=fun e=>aq (by rw[e]);simp[this]
 have hn:((a.length:Int) != (b.length:Int))=false:=by simp;omega
 have R:=y6 @hn aD
 repeat' ((first |refine ae.aF (by decide +kernel) rfl fun K hK =>?_|(refine .ay [0,1,4,5,10,12,13,14,24] hK ?_;clear hK K)|(with_reducible refine .done (hK _ ?_);clear hK K)|refine ae.of rfl ?_|(with_reducible refine az.aE (fun h =>?_) (fun h =>?_) <;>try simp only[h])) <;>try simp only[aG,R,simprocAttr])
 all_goals clear R
 refine ae.loop (fun i:Nat=>av [(0,enc a),(1,enc b),(12,.int .i64 a.length),(13,.int .i64 i)] []) (fun i=>i≤a.length∧∀ k,k<i→a[k]?=b[k]?) (fun i=>a.length-i) 0 ⟨zy3 _,fun k h=>by omega⟩ ?_ (fun i hi =>?_)
 ·refine bm.cI ?_ ?_ ?_ ?_ <;>simp[b6,cD,cm,cn,bZ,I.only,b7]
 obtain ⟨hi1,hi2⟩:=hi;by_cases hlt:i<a.length
 ·have hc:=fm hlt;have he:=fun A=>eb (A:=A) 4 hlt rfl;have hlt2:i<b.length:=by omega
  have he2:=fun A=>eb (A:=A) 4 hlt2 rfl;have hw:=fo (i:=i) (by omega);have hq:=Mv a[i] b[i];rcases hp:decide (a[i]=b[i])
  ·rw[hp] at hq;have R:=y6 @hc (y6 @he (y6 @he2 (y6 @hq aD)))
   repeat' ((first |refine ae.aF (by decide +kernel) rfl fun K hK =>?_|(refine .ay [0,1,4,5,10,12,13,14,24] hK ?_;clear hK K)|(with_reducible refine .done (hK _ ?_);clear hK K)|refine ae.of rfl ?_|(with_reducible refine az.aE (fun h =>?_) (fun h =>?_) <;>try simp only[h])) <;>try simp only[aG,R,simprocAttr])
   all_goals clear R
   have:¬ a=b:=fun e=>by subst e;simp at hp
   simp[this]
  ·rw[hp] at hq;have R:=y6 @hc (y6 @he (y6 @he2 (y6 @hq (y6 @hw aD))))
   repeat' ((first |refine ae.aF (by decide +kernel) rfl fun K hK =>?_|(refine .ay [0,1,4,5,10,12,13,14,24] hK ?_;clear hK K)|(with_reducible refine .done (hK _ ?_);clear hK K)|refine ae.of rfl ?_|(with_reducible refine az.aE (fun h =>?_) (fun h =>?_) <;>try simp only[h])) <;>try simp only[aG,R,simprocAttr])
   all_goals clear R
   refine ⟨i+1,⟨by omega,fun k hk =>?_⟩,by omega,?_⟩
   ·by_cases e:k=i
    ·subst e;have:a[k]=b[k]:=by simpa using hp
     simp[hlt,hlt2,this]
    ·exact hi2 k (by omega)
   ·refine bm.cI ?_ ?_ ?_ ?_ <;>simp[b6,cD,cm,cn,bZ,I.only,b7]
 ·have hc:=fu hlt;have R:=y6 @hc aD
  repeat' ((first |refine ae.aF (by decide +kernel) rfl fun K hK =>?_|(refine .ay [0,1,4,5,10,12,13,14,24] hK ?_;clear hK K)|(with_reducible refine .done (hK _ ?_);clear hK K)|refine ae.of rfl ?_|(with_reducible refine az.aE (fun h =>?_) (fun h =>?_) <;>try simp only[h])) <;>try simp only[aG,R,simprocAttr])
  all_goals clear R
  have:a=b:=List.ext_getElem? fun k=>by
   by_cases hk:k<i
   ·exact hi2 k hk
   ·rw[zx2 (by omega),zx2 (by omega)]
  simp[this]
theorem x5(a b:List ea):a8 Tryz.prog 17 [enc a,enc b] (enc (decide (a=b))):=by
 refine a8.cd Tryz.func17 Ik Jp KG (u8 rfl) (fun hwf W0 bF E1 =>?_);simp only[zd,DM,bJ,Z1];have hlen:a.length≤maxLen:=((lv a).1 hwf.1).1;simp only[maxLen] at hlen;clear hwf;by_cases aq:a.length=b.length
 case neg =>
  have hn:((a.length:Int) != (b.length:Int))=true:=by simp;omega
  have R:=y6 @hn aD
  repeat' ((first |refine ae.aF (by decide +kernel) rfl fun K hK =>?_|(refine .ay [0,1,4,5,10,12,13,14,24] hK ?_;clear hK K)|(with_reducible refine .done (hK _ ?_);clear hK K)|refine ae.of rfl ?_|(with_reducible refine az.aE (fun h =>?_) (fun h =>?_) <;>try simp only[h])) <;>try simp only[aG,R,simprocAttr])
  all_goals clear R
  have:¬ a=b:=fun e=>aq (by rw[e]);simp[this]
 have hn:((a.length:Int) != (b.length:Int))=false:=by simp;omega
 have R:=y6 @hn aD
 repeat' ((first |refine ae.aF (by decide +kernel) rfl fun K hK =>?_|(refine .ay [0,1,4,5,10,12,13,14,24] hK ?_;clear hK K)|(with_reducible refine .done (hK _ ?_);clear hK K)|refine ae.of rfl ?_|(with_reducible refine az.aE (fun h =>?_) (fun h =>?_) <;>try simp only[h])) <;>try simp only[aG,R,simprocAttr])
 all_goals clear R
 refine ae.loop (fun i:Nat=>av [(0,enc a),(1,enc b),(12,.int .i64 a.length),(13,.int .i64 i)] []) (fun i=>i≤a.length∧∀ k,k<i→a[k]?=b[k]?) (fun i=>a.length-i) 0 ⟨zy3 _,fun k h=>by omega⟩ ?_ (fun i hi =>?_)
 ·refine bm.cI ?_ ?_ ?_ ?_ <;>simp[b6,cD,cm,cn,bZ,I.only,b7]
 obtain ⟨hi1,hi2⟩:=hi;by_cases hlt:i<a.length
 ·have hc:=fm hlt;have he:=fun A=>eb (A:=A) 5 hlt rfl;have hlt2:i<b.length:=by omega
  have he2:=fun A=>eb (A:=A) 5 hlt2 rfl;have hw:=fo (i:=i) (by omega);have hq:=AW a[i] b[i];rcases hp:decide (a[i]=b[i])
  ·rw[hp] at hq;have R:=y6 @hc (y6 @he (y6 @he2 (y6 @hq aD)))
   repeat' ((first |refine ae.aF (by decide +kernel) rfl fun K hK =>?_|(refine .ay [0,1,4,5,10,12,13,14,24] hK ?_;clear hK K)|(with_reducible refine .done (hK _ ?_);clear hK K)|refine ae.of rfl ?_|(with_reducible refine az.aE (fun h =>?_) (fun h =>?_) <;>try simp only[h])) <;>try simp only[aG,R,simprocAttr])
   all_goals clear R
   have:¬ a=b:=fun e=>by subst e;simp at hp
   simp[this]
  ·rw[hp] at hq;have R:=y6 @hc (y6 @he (y6 @he2 (y6 @hq (y6 @hw aD))))
   repeat' ((first |refine ae.aF (by decide +kernel) rfl fun K hK =>?_|(refine .ay [0,1,4,5,10,12,13,14,24] hK ?_;clear hK K)|(with_reducible refine .done (hK _ ?_);clear hK K)|refine ae.of rfl ?_|(with_reducible refine az.aE (fun h =>?_) (fun h =>?_) <;>try simp only[h])) <;>try simp only[aG,R,simprocAttr])
   all_goals clear R
   refine ⟨i+1,⟨by omega,fun k hk =>?_⟩,by omega,?_⟩
   ·by_cases e:k=i
    ·subst e;have:a[k]=b[k]:=by simpa using hp
     simp[hlt,hlt2,this]
    ·exact hi2 k (by omega)
   ·refine bm.cI ?_ ?_ ?_ ?_ <;>simp[b6,cD,cm,cn,bZ,I.only,b7]
 ·have hc:=fu hlt;have R:=y6 @hc aD
  repeat' ((first |refine ae.aF (by decide +kernel) rfl fun K hK =>?_|(refine .ay [0,1,4,5,10,12,13,14,24] hK ?_;clear hK K)|(with_reducible refine .done (hK _ ?_);clear hK K)|refine ae.of rfl ?_|(with_reducible refine az.aE (fun h =>?_) (fun h =>?_) <;>try simp only[h])) <;>try simp only[aG,R,simprocAttr])
  all_goals clear R
  have:a=b:=List.ext_getElem? fun k=>by
   by_cases hk:k<i
   ·exact hi2 k hk
   ·rw[zx2 (by omega),zx2 (by omega)]
  simp[this]
theorem Gg(a b:List cC):a8 Tryz.prog 42 [enc a,enc b] (enc (decide (a=b))):=by
 refine a8.cd Tryz.func42 IA JD KU (u8 rfl) (fun hwf W0 bF E1 =>?_);simp only[zr,D0,bJ,Z1];have hlen:a.length≤maxLen:=((lv a).1 hwf.1).1;simp only[maxLen] at hlen;clear hwf;by_cases aq:a.length=b.length
 case neg =>
  have hn:((a.length:Int) != (b.length:Int))=true:=by simp;omega
  have R:=y6 @hn aD
  repeat' ((first |refine ae.aF (by decide +kernel) rfl fun K hK =>?_|(refine .ay [0,1,4,5,10,12,13,14,24] hK ?_;clear hK K)|(with_reducible refine .done (hK _ ?_);clear hK K)|refine ae.of rfl ?_|(with_reducible refine az.aE (fun h =>?_) (fun h =>?_) <;>try simp only[h])) <;>try simp only[aG,R,simprocAttr])
  all_goals clear R
  have:¬ a=b:=fun e=>aq (by rw[e]);simp[this]
 have hn:((a.length:Int) != (b.length:Int))=false:=by simp;omega
 have R:=y6 @hn aD
 repeat' ((first |refine ae.aF (by decide +kernel) rfl fun K hK =>?_|(refine .ay [0,1,4,5,10,12,13,14,24] hK ?_;clear hK K)|(with_reducible refine .done (hK _ ?_);clear hK K)|refine ae.of rfl ?_|(with_reducible refine az.aE (fun h =>?_) (fun h =>?_) <;>try simp only[h])) <;>try simp only[aG,R,simprocAttr])
 all_goals clear R
 refine ae.loop (fun i:Nat=>av [(0,enc a),(1,enc b),(12,.int .i64 a.length),(13,.int .i64 i)] []) (fun i=>i≤a.length∧∀ k,k<i→a[k]?=b[k]?) (fun i=>a.length-i) 0 ⟨zy3 _,fun k h=>by omega⟩ ?_ (fun i hi =>?_)
 ·refine bm.cI ?_ ?_ ?_ ?_ <;>simp[b6,cD,cm,cn,bZ,I.only,b7]
 obtain ⟨hi1,hi2⟩:=hi;by_cases hlt:i<a.length
 ·have hc:=fm hlt;have he:=fun A=>eb (A:=A) 4 hlt rfl;have hlt2:i<b.length:=by omega
  have he2:=fun A=>eb (A:=A) 4 hlt2 rfl;have hw:=fo (i:=i) (by omega);have hq:=AX a[i] b[i];rcases hp:decide (a[i]=b[i])
  ·rw[hp] at hq;have R:=y6 @hc (y6 @he (y6 @he2 (y6 @hq aD)))
   repeat' ((first |refine ae.aF (by decide +kernel) rfl fun K hK =>?_|(refine .ay [0,1,4,5,10,12,13,14,24] hK ?_;clear hK K)|(with_reducible refine .done (hK _ ?_);clear hK K)|refine ae.of rfl ?_|(with_reducible refine az.aE (fun h =>?_) (fun h =>?_) <;>try simp only[h])) <;>try simp only[aG,R,simprocAttr])
   all_goals clear R
   have:¬ a=b:=fun e=>by subst e;simp at hp
   simp[this]
  ·rw[hp] at hq;have R:=y6 @hc (y6 @he (y6 @he2 (y6 @hq (y6 @hw aD))))
   repeat' ((first |refine ae.aF (by decide +kernel) rfl fun K hK =>?_|(refine .ay [0,1,4,5,10,12,13,14,24] hK ?_;clear hK K)|(with_reducible refine .done (hK _ ?_);clear hK K)|refine ae.of rfl ?_|(with_reducible refine az.aE (fun h =>?_) (fun h =>?_) <;>try simp only[h])) <;>try simp only[aG,R,simprocAttr])
   all_goals clear R
   refine ⟨i+1,⟨by omega,fun k hk =>?_⟩,by omega,?_⟩
   ·by_cases e:k=i
    ·subst e;have:a[k]=b[k]:=by simpa using hp
     simp[hlt,hlt2,this]
    ·exact hi2 k (by omega)
   ·refine bm.cI ?_ ?_ ?_ ?_ <;>simp[b6,cD,cm,cn,bZ,I.only,b7]
 ·have hc:=fu hlt;have R:=y6 @hc aD
  repeat' ((first |refine ae.aF (by decide +kernel) rfl fun K hK =>?_|(refine .ay [0,1,4,5,10,12,13,14,24] hK ?_;clear hK K)|(with_reducible refine .done (hK _ ?_);clear hK K)|refine ae.of rfl ?_|(with_reducible refine az.aE (fun h =>?_) (fun h =>?_) <;>try simp only[h])) <;>try simp only[aG,R,simprocAttr])
  all_goals clear R
  have:a=b:=List.ext_getElem? fun k=>by
   by_cases hk:k<i
   ·exact hi2 k hk
   ·rw[zx2 (by omega),zx2 (by omega)]
  simp[this]
structure bt where
 au:Int
 j:List bg
 eL:Int
 deriving DecidableEq,Inhabited
instance:Enc bt where
 enc g:=.agg [.int .i64 g.au,enc g.j,.int .i64 g.eL]
 sz:=3
 aX:=.eI [.one,.one,.one]
 gU:=true
 done g:=by simp only[I.done,I.gw,Enc.done,Bool.and_self]
 size g:=by simp only[I.size,I.sizes,jK,jq]
 iO g:=by simp only[I.aX,I.c7,eH,nE]
 agg _:=rfl
theorem eG:(∀ g:bt,(enc g).dP=some [.int .i64 g.au,enc g.j,.int .i64 g.eL])∧(∀ (a c:Int) (b:List bg) v,du [.int .i64 a,enc b,.int .i64 c] 0 0 v=some v)∧(∀ (a c:Int) (b:List bg) v,du [.int .i64 a,enc b,.int .i64 c] 1 1 v=some v)∧(∀ (a c:Int) (b:List bg) v,du [.int .i64 a,enc b,.int .i64 c] 2 2 v=some v) ∧
  (∀ (g:bt),cg (some 3) (enc g)=true)∧(∀ (g:List bg),cg none (enc g)=true) :=
 ⟨fun _=>rfl,fun _ _ _ _=>iG (by simp) rfl,fun _ _ _ _=>iG (by simp) rfl,fun _ _ _ _=>iG (by simp) (by simp[I.sizes,I.size,jK,jq]),fun _=>by rw[fb];rfl,fun _=>by simp[kc,kb]⟩
theorem GN(x y:bt):x=y↔x.au=y.au∧x.j=y.j∧x.eL=y.eL:=by cases x;cases y;simp
theorem ZY(a b:bt):a8 Tryz.prog 16 [enc a,enc b] (enc (decide (a=b))):=by
 refine a8.cd Tryz.func16 Ij Jo KF (u8 rfl) (fun hwf W0 bF E1 =>?_);simp only[zc,DL,bJ,Z1];have R:=y6 @eG aD
 repeat' ((first |(with_reducible refine .guard (fun hb =>?_) (fun hb =>?_) <;>try simp only[hb])|refine ae.aF (by decide +kernel) rfl fun K hK =>?_|refine .flat _ (Gi a.j b.j) rfl ?_|(refine .ay [0,1,2,3,4] hK ?_;clear hK K)|(with_reducible refine .done (hK _ ?_);clear hK K)|refine ae.of rfl ?_|(with_reducible refine az.aE (fun h =>?_) (fun h =>?_) <;>try simp only[h])) <;>try simp only[aG,R,simprocAttr])
 all_goals clear R
 all_goals (simp_all[GN])
theorem HT(au:Int):(dQ [.int .i64 0,.nils 4,.int .i64 0] [(0,.int .i64 au)]).map I.agg=some (I.agg [.int .i64 au,.nils 4,.int .i64 0]):=by
 simp[dQ,I.bT,I.size]
theorem sv:(dQ [.int .i64 0,.nils 4,.int .i64 0] []).map I.agg=some (I.agg [.int .i64 0,.nils 4,.int .i64 0]):=by
 simp[dQ]
theorem tW(A:ai)(n:Nat)(b:I)(x y u v:Int)(rest:List aH):de A (some 3) n [] b (.agg [.int .i64 x,.nils 4,.int .i64 y]) rest (some (.agg [.int .i64 u,.nils 4,.int .i64 v]))=aB rest (A.aT n (.box (.agg [.int .i64 x,.nils 4,.int .i64 y]))):=dG rfl rfl rfl
def re(au:Int):bt×Int:=if dp 0 5 au then (⟨au,[],0⟩,0) else (⟨0,[],0⟩,90)
theorem x6(au:Int):a8 Tryz.prog 19 [enc au] (.tuple [enc (re au).1,enc (re au).2]):=by
 refine a8.cd Tryz.func19 Im Jr KI (u8 rfl) (fun hwf W0 bF E1 =>?_);simp only[zf,DO,bJ];have R:=y6 @eG (y6 @HT (y6 @sv (y6 @tW aD)))
 repeat' ((first |refine ae.aF (by decide +kernel) rfl fun K hK =>?_|refine .flat _ (mw au) rfl ?_|(refine .ay [0,2,3,6] hK ?_;clear hK K)|(with_reducible refine .done (hK _ ?_);clear hK K)|refine ae.of rfl ?_|(with_reducible refine az.aE (fun h =>?_) (fun h =>?_) <;>try simp only[h])) <;>try simp only[aG,R,simprocAttr])
 all_goals clear R
 all_goals (simp_all[re];try rfl)
end Go.Proofs.YthbdbocionnfgaaGreatDoor
namespace Go.Abs
open Go Go.RowKit
open Enc (enc)
def wo:Option Nat→Code
 |none=>.ret
 |some id=>.exit id
def A7:Option Nat→Exit
 |none=>.ret
 |some id=>.exit id
def pY(o:Obj)(A:ai)(os:List (Nat×ao)):Prop:=∀ n x,aj (en o os) n=some x→A.o n=some x∧x.only (aw (en o os))=true∧x.eg=true
def EZ(o:Obj)(In:List (Nat×ao)→Prop)(Ix:Option Nat→List (Nat×ao)→Prop):Exit→ai→Prop
 | .normal,A=>∃ os,pY o A os∧In os
 | .ret,A=>∃ os,pY o A os∧Ix none os
 | .exit id,A=>∃ os,pY o A os∧Ix (some id) os
 |_,_=>False
def GR(P:Program)(nn:Nat)(x y:bu)(ps:List Nat)(tsR:List (Nat×I))(N:Nat)(item:Nat→List I)(bf:Nat→List (Nat×ao)→Prop)(Ix:Option Nat→List (Nat×ao)→Prop):Prop :=
 ∀ k osb,k<N→bf k osb→∀ (w:World) (D:aP) (E:aY) (l:Nat) (o1 o2:Obj),
  ae ⟨P,w,D,nn,cL E,E,dx,some l,none⟩ x (ez (fun B=>B.o 1999999=some (.dJ o1)∧ae ⟨P,w,D,nn,cL E,E,dx,some l,none⟩ y (EZ o2 (bf (k+1)) Ix) (B.aT 1999999 (.dJ o2))) (fun _ _=>False)) (av (tD ps (item k) tsR) (en o1 osb))
section
variable {c:cV} {Q:Exit→ai→Prop}
theorem Wj{o:Obj}{A:ai}{os:List (Nat×ao)}(h:pY o A os)(o':Obj):∀ n x,aj (en o' os) n=some x→(A.aT 1999999 (.dJ o')).o n=some x∧x.only (aw (en o' os))=true∧x.eg=true:=fun n x hx=>by
 have e:aw (en o' os)=aw (en o os):=by funext m;rw[kU,kU]
 rw[e];by_cases hn:n=1999999
 ·subst hn;rw[pw,if_pos rfl,v6] at hx;subst hx;exact ⟨by simp[ai.aT],rfl,rfl⟩
 ·rw[pw,if_neg hn] at hx;obtain ⟨J,U⟩:=h n x (by rw[pw,if_neg hn];exact hx);exact ⟨by simp only[ai.aT,if_neg hn];exact J,U⟩
theorem ae.mc{f:aO}{ps:List Nat}{x y:bu}{ts tsR:List (Nat×I)}{os0 osb0:List (Nat×ao)}{ρ:List (Nat×Nat)}{g:FuncId}{caps:List I}{N:Nat}{item:Nat→List I}
  (bf:Nat→List (Nat×ao)→Prop) (Ix:Option Nat→List (Nat×ao)→Prop) (hr0:c.lf=none∧c.fq=none) (hn6:c.n≤1000000)
  (hf:ak (av ts os0) f=.func g caps) (hcl:I.cq caps=true) (hcb:e8 c.P g=true) (hit:ym c.P g caps N item) (hlen:∀ k,(item k).length=ps.length)
  (hfree:aj os0 999999=none) (h19:aw osb0 1999999=false) (hρ:bI ρ 1999999=999999)
  (hgv:∀ o,gl ρ (en o osb0) ((999999,.dJ o)::os0)) (hts:ni ρ (aw osb0) ts tsR)
  (hI:∀ k os,bf k os→eX osb0 os) (hIx:∀ e os,Ix e os→eX osb0 os) (aW:bf 0 osb0)
  (hround:GR c.P c.n x y ps tsR N item bf Ix)
  (hdone:∀ os,bf N os→Q .normal (av ts (dE ρ os++os0))) (hexit:∀ e os,Ix e os→Q (A7 e) (av ts (dE ρ os++os0))) :
  ae c (.mc f ps x y) Q (av ts os0):=by
 obtain ⟨hr,hbase⟩:=hr0;intro code hc a w ab;cases code <;>simp only[eA] at hc <;>try (first | (cases hc;done) | ((repeat' split at hc) <;>cases hc;done))
 rename_i cf cps cx cy;split at hc
 case h_2=>cases hc
 rename_i f' x' y' hcf hcx hcy;split at hc
 case isFalse=>cases hc
 rename_i hpn;simp only[v6,bu.mc.injEq] at hc;obtain ⟨rfl,rfl,rfl,rfl⟩:=hc;obtain ⟨D,E,ab⟩:=ab;have hF:c.bC=Fence.wide:=by unfold cV.bC;rw[hr]
 have hE0:c.dk 999999=none:=ab.kg (.inr (by decide));have hval:∃ vs:List Value,a.eval cf=.func (.func g) #[] vs.toArray∧aI w D E caps vs:=by
  have hv:=bX ab hcf;rw[hf] at hv;obtain ⟨cs,q1,q2⟩:=hv;simp only[al] at q2;obtain ⟨vs,q3,q4⟩:=q2;exact ⟨vs,by rw[←mG (Ap hcb)];simpa[bD,I.isAgg,q3] using q1.symm,q4⟩
 obtain ⟨vs,hval,hvs⟩:=hval;rw[hF];refine wpIn_rangeFunc fun fn hfn =>?_;obtain ⟨rec,hrec⟩:∃ rec:LoopState→Option Code→Loop,rec=fun bd pe => { state:=bd,pending:=pe,fn,tmps:=a.tmps,params:=cps,assign:=cx,body:=cy,defers:=w.heap.size } :=⟨_,rfl⟩
 obtain ⟨E1,hs1,hE1,hup⟩:=ab.enter hbase hfree hE0 (o:=.loop (rec .ready none)) rfl;obtain ⟨W1,hW1⟩:∃ W1,(w.alloc (.deferred (some []))).alloc (.loop (rec .ready none))=W1:=⟨_,rfl⟩
 rw[hW1] at hs1 hup;obtain ⟨l,aq⟩:∃ l,l=w.heap.size+1:=⟨_,rfl⟩
 rw[←aq] at hE1;obtain ⟨yv,hyv⟩:∃ yv:Value,yv=.func (.yield l) #[] #[]:=⟨_,rfl⟩
 obtain ⟨a1,ha1⟩:∃ a1:Act,a1 = { a with defers := { target:=.collected w.heap.size,args := #[] } :: a.defers } :=⟨_,rfl⟩
 rw[←ha1] at hs1;refine ⟨l,[{ target:=.collected w.heap.size,args := #[] }],W1,{ target:=.fn (.func g) vs.toArray,args := #[yv] },W1,g,#[yv]++vs.toArray,W1,?_,?_,?_,?_,fun _=>by decide,?_⟩
 ·rw[←hW1,hrec,aq];exact run_enterLoop_outer _ _ _ _ _
 ·simp only[resolve,hval,hyv];simp[go_sem]
 ·intro f' _;trivial
 ·simp only[invoke,nd hcb]
 ·-- the iterator's own bargain
  have hG0:=hI 0 osb0 aW;obtain ⟨I',hI'⟩:∃ I':Nat→List (Nat×ao)→Prop,I'=fun k os=>∃ osb,os=en (.loop (rec .ready none)) osb∧bf k osb:=⟨_,rfl⟩
  obtain ⟨Ix',hIx'⟩:∃ Ix':List (Nat×ao)→Prop,Ix'=fun os=>∃ e osb,os=en (.loop (rec .done (some (wo e)))) osb∧Ix e osb:=⟨_,rfl⟩
  obtain ⟨os1,hos1⟩:∃ os1,os1=en (.loop (rec .ready none)) osb0:=⟨_,rfl⟩
  obtain ⟨Y,hY⟩:∃ Y:Value→List I→List (Nat×ao)→cK→Prop,Y=fun v args os post=>v=yv∧∃ k,args=item k∧k<N∧I' k os∧∀ r os2,(r=.bool true∧I' (k+1) os2)∨(r=.bool false∧Ix' os2)→post r os2:=⟨_,rfl⟩
  have iz:∀ k os',I' k os'→eX os1 os':=fun k os' h=>by
   rw[hI'] at h;obtain ⟨osb,rfl,h⟩:=h;rw[hos1];exact (hI k osb h).en _ _
  have goodx:∀ os',Ix' os'→eX os1 os':=fun os' h=>by
   rw[hIx'] at h;obtain ⟨e,osb,rfl,h⟩:=h;rw[hos1];exact (hIx e osb h).en _ _
  have hctr:=hit Y yv I' Ix' os1 (by rw[hyv];rfl) (fun k os' post hk J U=>by rw[hY];exact ⟨rfl,k,rfl,hk,J,U⟩) iz goodx (by rw[hI'];exact ⟨osb0,hos1,aW⟩);have hgv1:gl ρ os1 ((999999,.dJ (.loop (rec .ready none)))::os0):=by rw[hos1];exact hgv _
  obtain ⟨A0,hA0⟩:∃ A0:ai,A0=av ts ((999999,.dJ (.loop (rec .ready none)))::os0):=⟨_,rfl⟩
  have hand:nt (Calls c.P g) (fun w D E=>∀ n,oJ ⟨c.P,w,D,n,cL E,E,Y,none,none⟩) (.raw yv::caps) os1 (fun r os'=>r=.tuple []∧(I' N os'∨Ix' os')):=fun w D E vs hy hlive hheld hv=>by
   refine (hctr.2 w D E vs hy hlive hheld hv).mono fun e w' ⟨v,he,D',E',r,os',q⟩=>⟨v,D',E',r,os',he,q⟩
  have hshare:=hs1.ou;obtain ⟨Dh,hDh⟩:∃ Dh,Dh=oo (av ts ((999999,.dJ (.loop (rec .ready none)))::os0)) D E1:=⟨_,rfl⟩
  rw[←hDh] at hshare;have hsh:=hshare.1;obtain ⟨Eh,hEh⟩:∃ Eh,Eh=aA ρ os1 E1:=⟨_,rfl⟩
  have isrec:aw os1 1999999=true:=by rw[hos1,kU];simp
  have hEl:Eh 1999999=some (.op l):=by rw[hEh];simp only[aA,isrec,if_true,hρ];exact hE1
  have EhIn:∀ n e,Eh n=some e→aw os1 n=true:=fun n e h=>by
   rw[hEh] at h;simp only[aA] at h;split at h
   ·assumption
   ·cases h
  have hyok:∀ n,oJ ⟨c.P,W1,Dh,n,cL Eh,Eh,Y,none,none⟩:=by
   refine fun n=>⟨by rw[hEh];exact hs1.pn,?_⟩
   intro v' args os' post' hYv w2 D2 E2 vs2 hsince hlive hheld hrvs;rw[hY] at hYv;obtain ⟨rfl,k,rfl,hkN,hIk,hpost⟩:=hYv;have hIk0:=hIk;rw[hI'] at hIk;obtain ⟨osb,rfl,hIk⟩:=hIk;have gk:=iz k _ hIk0;have gkb:=hI k osb hIk;have in2:∀ m,aw os1 m=true→E2 m≠none:=fun m hm=>by
    rw[←gk.same m] at hm;cases hx:aj (en (.loop (rec .ready none)) osb) m with
    |none=>simp[aw,hx] at hm
    |some x=>have:=hheld.bP m;rw[hx] at this;exact tp this
   have same2:∀ m e,Eh m=some e→e.eg=true→E2 m=some e:=fun m e he hfx=>by
    rcases hsince.dS m e he with h | ⟨e',h,hle⟩
    ·exact absurd h (in2 m (EhIn m e he))
    ·rw[hle.eq hfx] at h;exact h
   have hEl2:E2 1999999=some (.op l):=same2 _ _ hEl rfl;have hob:=hheld.bP 1999999;rw[pw,if_pos rfl] at hob;obtain ⟨b,j1,_,j3,_,_⟩:=hob;rw[hEl2] at j1;cases j1;have hsz:vs2.toArray.size=cps.size:=by have:=rL hrvs;rw[hlen] at this;simpa using this
   have hyr:=run_yield (P:=c.P) (args:=vs2.toArray) j3 (by rw[hrec];exact hsz);rw[hrec] at hyr;refine ⟨l,hyv,fn,_,cx,cy,hyr,roundIn_of_wpIn trivial ?_⟩;clear hyr
   -- the round's own frame
   obtain ⟨cr,hcr⟩:∃ cr:cV,cr=⟨c.P,w2,D2,c.n,cL E2,E2,dx,some l,none⟩:=⟨_,rfl⟩
   have hFr:cr.bC=Fence.wide.inRound l:=by rw[hcr];rfl
   have hlat:dW W1 Dh Eh w2 D2 E2:=by
    refine ⟨hsince.cT,hsince.fC.cell,fun m b aX he=>same2 m _ he rfl,fun m aJ l he =>?_,fun m b he=>same2 m _ he rfl,fun m b he=>same2 m _ he rfl,hsince.fC.jd⟩;rcases hsince.dS m _ he with h | ⟨e',h,hle⟩
    ·exact absurd h (in2 m (EhIn m _ he))
    ·rcases hle with rfl | ⟨_,_,blk',l',e,rfl,k1,k2⟩
     ·exact ⟨aJ,l,h,Z4 _,fun _=>rfl⟩
     ·cases e;exact ⟨blk',l',h,k1,k2⟩
   have hslots:ni ρ (aw os1) ts tsR:=by
    have:∀ tsR:List (Nat×I),ni ρ (aw osb0) ts tsR→ni ρ (aw os1) ts tsR:=by
     intro tsR
     induction tsR with
     |nil=>exact fun h=>h
     |cons q r ih =>
      intro h;obtain ⟨J,U,ah⟩:=h;exact ⟨J,iI (fun n hn=>by rw[hos1,kU,hn];simp) _ U,ih ah⟩
    exact this tsR hts
   have hsr:aU cr (av tsR (en (.loop (rec .ready none)) osb)) { tmps:=a.tmps,defers:=[] } w2 D2 E2:=by
    rw[hcr];refine ⟨ab.sz,⟨[],rfl,.nil,fun _ h=>by simp at h⟩,fun t =>?_,eY.refl _ _,fun _ _ h _=>h,hlive,fun m=>(hheld.bP m).ib fun e b he hb=>.inr ⟨m,e,he,hb⟩,hheld.cQ,fun _ e h=>.inr ⟨e,h,.refl e⟩,fun m hm =>?_,fun _ _ h=>h,⟨hsince.qP,fun _ _ _ _ h=>h.elim⟩,.refl _ _⟩
    ·rcases Fl hslots t with h | ⟨J,U⟩
     ·simp only[av];rw[h];simp[aZ]
     ·have ah:=hsh.dR t;rw[ha1] at ah;simp only[av] at ah ⊢;rw[J] at ah;have ar:=(aZ.bn (w:=W1) (D:=Dh) (p:=aw os1) (ρ:=bI ρ) (E:=Eh) (E':=E1) (fun n hn=>by rw[hEh];simp only[aA,hn,if_true]) U).1 ah;exact aZ.later hlat ar
    ·have hmi:aw os1 m=true:=by
      rw[←gk.same m];have:=hheld.bP m;cases hx:aj (en (.loop (rec .ready none)) osb) m with
      |none=>rw[hx] at this;exact absurd this hm
      |some x=>simp[aw,hx]
     have:=gk.lO m hmi;exact ⟨zw3 hn6 this,this⟩
   have hsp:=aU.Dl cps.toList vs2 (item k) tsR _ hsr (fun p hp=>by rw[hcr];have:=zz6.1 hpn p hp;simpa using this) hrvs (by have:=hsz;simpa using this.symm);have htm:(cps.zip vs2.toArray).foldl (fun t (q:Tmp×Value)=>t.setIfInBounds q.1 q.2) a.tmps=(cps.toList.zip vs2).foldl (fun t q=>t.setIfInBounds q.1 q.2) a.tmps:=by
    rw[←Array.foldl_toList];simp
   have hx:=hround k osb hkN hIk w2 D2 E2 l (.loop (rec .ready none)) (.loop { rec .ready none with state:=.busy });rw[←hcr] at hx;have hx1:=hx cx (by rw[hcr];exact hcx) _ w2 ⟨D2,E2,hsp⟩;rw[hFr] at hx1;simp only[←htm] at hx1;rw[hcr] at hx1;refine wpIn_mono hx1 ?_;rintro e ax wx ⟨B,hq,hsx⟩;rw[←hcr] at hq hsx;cases e <;>simp only[ez] at hq <;>try exact hq.elim
   simp only[Exit.then];obtain ⟨hB1,hB2⟩:=hq;obtain ⟨Dx,Ex,hsx⟩:=hsx;have hElx:Ex 1999999=some (.op l):=by
    have ho:=hsx.bP 1999999;rw[hB1] at ho;rcases hsx.vP (n:=1999999) (by rw[hcr];exact hEl2) rfl with h | h
    ·exact absurd h (tp ho)
    ·exact h
   have hLx:wx.heap[l]?=some (.loop (rec .ready none)):=by
    have ho:=hsx.bP 1999999;rw[hB1] at ho;obtain ⟨b,k1,_,k3,_⟩:=ho;rw[hElx] at k1;cases k1;exact k3
   refine ⟨_,run_beginRound hLx (by rw[hrec]),?_⟩;have hsb:=hsx.xK (o':=.loop { rec .ready none with state:=.busy }) hB1 hElx rfl;have hy1:=hB2 cy (by rw[hcr];exact hcy) _ _ ⟨Dx,Ex,hsb⟩;rw[hFr] at hy1;rw[hcr] at hy1;refine wpIn_mono hy1 ?_;rintro e a3 w3 ⟨A3,hq3,D3,E3,hs3⟩;rw[←hcr] at hs3
   -- the end of the round
   have bj:∀ (os:List (Nat×ao)) (jump:Option Code),pY (.loop { rec .ready none with state:=.busy }) A3 os→(post' (.bool jump.isNone) (en (.loop (rec (if jump.isNone then .ready else .done) jump)) os)) →
     ∃ v w',(Instr.endRound l jump).run c.P w3=.ok v w'∧(fun e w'=>∃ v D' E' r os',e=Ending.returned v∧post' r os'∧aZ w' D' E' r v∧jF (fun b=>w2.heap.size≤b∨cL E2 b) w' D' E' (aj os') ∧
      eY (fun b=>w2.heap.size≤b∨cL E2 b) w2 w'∧(∀ b o,D2 b o→D' b o)∧(∀ b o,D' b o→b<w'.heap.size)∧(∀ b o,D' b o→b<w2.heap.size→¬ cL E2 b→D2 b o) ∧
      (∀ n e,E2 n=some e→aw os' n=true→∃ e',E' n=some e'∧e.le e')∧gN w2 D2 w') (.returned v) w':=fun os jump hbk hp=>by
    have hA3:A3.o 1999999=some (.dJ (.loop { rec .ready none with state:=.busy })):=(hbk 1999999 _ (by rw[pw,if_pos rfl])).1;have hEl3:E3 1999999=some (.op l):=by
     have ho:=hs3.bP 1999999;rw[hA3] at ho;rcases hs3.vP (n:=1999999) (by rw[hcr];exact hEl2) rfl with h | h
     ·exact absurd h (tp ho)
     ·exact h
    have hL3:w3.heap[l]?=some (.loop { rec .ready none with state:=.busy }):=by
     have ho:=hs3.bP 1999999;rw[hA3] at ho;obtain ⟨b,k1,_,k3,_⟩:=ho;rw[hEl3] at k1;cases k1;exact k3
    have hend:=run_endRound (P:=c.P) jump hL3;have erec:({ rec .ready none with state:=if jump.isNone then LoopState.ready else .done,pending:=jump } : Loop)=rec (if jump.isNone then .ready else .done) jump:=by rw[hrec]
    have hend':(Instr.endRound l jump).run c.P w3=.ok (.bool jump.isNone) (w3.putObj l (.loop (rec (if jump.isNone then .ready else .done) jump))):=by
     rw[hend];rw[hrec]
    have hs4:=hs3.xK (o':=.loop (rec (if jump.isNone then .ready else .done) jump)) hA3 hEl3 rfl;rw[hcr] at hs4;obtain ⟨D',E',_,_,_,q1,q2,q3,q4,q5,q6⟩:=hs4.wz (Wj hbk _);exact ⟨_,_,hend',_,D',E',.bool jump.isNone,_,rfl,hp,⟨[.bool jump.isNone],by simp[bD,I.isAgg],by simp[al]⟩,q1,q2,q3,q4,q5,q6⟩
   cases e with
   |normal =>
    obtain ⟨os,hbk,hin⟩:=hq3;exact bj os none hbk (hpost _ _ (.inl ⟨rfl,by rw[hI'];exact ⟨os,rfl,hin⟩⟩))
   |ret =>
    obtain ⟨os,hbk,hin⟩:=hq3;exact bj os (some .ret) hbk (hpost _ _ (.inr ⟨rfl,by rw[hIx'];exact ⟨none,os,rfl,hin⟩⟩))
   |exit id =>
    obtain ⟨os,hbk,hin⟩:=hq3;exact bj os (some (.exit id)) hbk (hpost _ _ (.inr ⟨rfl,by rw[hIx'];exact ⟨some id,os,rfl,hin⟩⟩))
   |goto t=>exact hq3.elim
   |panic ch=>exact hq3.elim
   |outgrown=>exact hq3.elim
  -- the call
  have hargs:fE (aZ W1 D E1) (.raw yv::caps) (yv::vs):=by
   exact .cons ⟨[yv],by simp[bD,I.isAgg],by rw[hyv];exact ⟨rfl,rfl⟩⟩ (rK (hup caps vs hvs))
  have hus:=hand.use (ρ:=ρ) hs1 false (fun h=>h.mono) ⟨(fun h=>by cases h),fun _=>by rw[←hDh,←hEh];exact hyok⟩ hgv1 (sr _ (by simp[I.cq,I.bA,hcl]))
   (fun r os' hp=>by
    have gg:eX os1 os':=by
     rcases hp.2 with h | h
     ·exact iz _ _ h
     ·exact goodx _ h
    refine ⟨fun m x hx=>⟨(gg.ok m x hx).1,(gg.ok m x hx).2,fun h=>by cases h⟩,fun m m' J U=>hgv1.inj m m' (by rw[←gg.same];exact J) (by rw[←gg.same];exact U),fun m hm=>by rw[gg.same];exact hm,fun m J U=>(by rw[gg.same,U] at J;cases J),(by rw[hp.1];simp[I.only,I.cv]),fun h=>by cases h⟩) hargs
  have ecl : #[yv]++vs.toArray=(yv::vs).toArray:=by simp
  rw[ecl];refine CallsIn.mono (callsIn_wide.2 hus) ?_;rintro e w3 ⟨v,r,os',D2,E2,rfl,hp,hs2,_,hE2⟩;have key:∀ (o3:Obj) (osb:List (Nat×ao)),os'=en o3 osb→ph o3=true→E2 999999=some (.op l)∧w3.heap[l]?=some o3∧∀ o4,ph o4=true→b5 c (av ts (dE ρ osb++os0)) a1 (w3.putObj l o4):=fun o3 osb he ah=>by
   subst he;have hn2:E2 999999=some (.op l):=by
    obtain ⟨e',J,U⟩:=hE2 1999999 (.op l) (by rw[←hEh];exact hEl) (by rw[kU];simp);rw[hρ] at J;rw[J,U.eq rfl]
   have eos:dE ρ (en o3 osb)=(999999,.dJ o3)::dE ρ osb:=by simp only[en,dE,Z3,hρ,ao.bn]
   rw[eos] at hs2;have ha:(av ts ((999999,ao.dJ o3)::dE ρ osb++(999999,.dJ (.loop (rec .ready none)))::os0)).o 999999=some (.dJ o3):=by simp[av,aj]
   have hgb:∀ m,aw osb m=true→bI ρ m≠999999:=fun m hm e=>by
    have h5:aw (en o3 osb) m=true:=by rw[kU,hm];simp
    have g5:eX os1 (en o3 osb):=by
     rcases hp.2 with h | h
     ·exact iz _ _ h
     ·exact goodx _ h
    have h6:=hgv1.inj m 1999999 (by rw[←g5.same];exact h5) isrec (by rw[hρ];exact e);subst h6;have h7:eX osb0 osb:=by
     rcases hp.2 with h | h
     ·rw[hI'] at h;obtain ⟨osb',h8,h9⟩:=h;simp only[en,zw2] at h8;rw[h8.2];exact hI _ _ h9
     ·rw[hIx'] at h;obtain ⟨e,osb',h8,h9⟩:=h;simp only[en,zw2] at h8;rw[h8.2];exact hIx _ _ h9
    rw[h7.same,h19] at hm;cases hm
   refine ⟨hn2,?_,fun o4 ar =>?_⟩
   ·have ho:=hs2.bP 999999;rw[ha] at ho;obtain ⟨b,k1,_,k3,_⟩:=ho;rw[hn2] at k1;cases k1;exact k3
   ·have h5:=(hs2.xK (o':=o4) ha hn2 ar).Mr hn2;have hst:(⟨((av ts ((999999,ao.dJ o3)::dE ρ osb++(999999,.dJ (.loop (rec .ready none)))::os0)).aT 999999 (.dJ o4)).t,fun m=>if m=999999 then none else
      ((av ts ((999999,ao.dJ o3)::dE ρ osb++(999999,.dJ (.loop (rec .ready none)))::os0)).aT 999999 (.dJ o4)).o m⟩:ai)=av ts (dE ρ osb++os0):=by
     simp only[av,ai.aT]
     congr 1
     funext m
     by_cases hm:m=999999
     ·subst hm;simp only[if_true,qT];cases hq:pre ρ osb 999999 with
      |none=>exact hfree.symm
      |some k=>exact absurd (kX hq).2 (hgb k (kX hq).1)
     ·simp only[if_neg hm,Z5,aj,qT]
    rw[hst] at h5;exact ⟨D2,_,h5⟩
  rcases hp.2 with h | h
  ·rw[hI'] at h;obtain ⟨osb,he,hin⟩:=h;obtain ⟨k1,k2,k3⟩:=key _ osb he rfl;refine ⟨none,_,(by have:=run_endLoop (P:=c.P) k2 (by rw[hrec];simp);rw[hrec] at this;exact this),_,hdone osb hin,?_⟩;have:=k3 (.loop { rec .ready none with state:=.exhausted }) rfl;rw[ha1] at this;rw[hrec] at this;exact this
  ·rw[hIx'] at h;obtain ⟨e,osb,he,hin⟩:=h;obtain ⟨k1,k2,k3⟩:=key _ osb he rfl;refine ⟨some (wo e),_,(by have:=run_endLoop (P:=c.P) k2 (by rw[hrec];simp);rw[hrec] at this;exact this),?_⟩;have:=k3 (.loop { rec .done (some (wo e)) with state:=.exhausted }) rfl;rw[ha1] at this;rw[hrec] at this;have hq:tc c Q (A7 e) { a with defers := { target:=.collected w.heap.size,args := #[] } :: a.defers } _:=⟨_,hexit e osb hin,this⟩
   cases e with
   |none=>exact wpIn_ret hq
   |some id=>exact wpIn_exit hq
end
mutual
theorem kp{ρ:Nat→Nat}(h:∀ n,ρ n=n):∀ x:I,x.bn ρ=x
 | .agg fs | .tuple fs=>by simp only[I.bn];rw[l8 h fs]
 | .slice _ es=>by simp only[I.bn];rw[l8 h es]
 | .ref x=>by simp only[I.bn];rw[kp h x]
 | .func _ caps=>by simp only[I.bn];rw[l8 h caps]
 | .iface _ v=>by simp only[I.bn];rw[kp h v]
 | .ptr _ _ | .own _ _ | .view _ _ _ _ _ | .mref _ | .dq _=>by simp only[I.bn,h]
 | .dj ks vs=>by simp only[I.bn];rw[l8 h ks,l8 h vs]
 | .bool _ | .int _ _ | .bQ _ | .nilp | .dB | .dX | .any | .raw _ | .nils _ | .c0 _ | .undef | .dw=>by simp only[I.bn]
theorem l8{ρ:Nat→Nat}(h:∀ n,ρ n=n):∀ xs:List I,I.dU ρ xs=xs
 | []=>rfl
 |x::xs=>by simp only[I.dU];rw[kp h x,l8 h xs]
end
theorem ao.kp{ρ:Nat→Nat}(h:∀ n,ρ n=n):∀ x:ao,x.bn ρ=x
 | .box x=>by simp only[ao.bn,Abs.kp h]
 | .bU _ _ es=>by simp only[ao.bn,l8 h]
 | .dJ _=>rfl
 | .dK _ _=>rfl
 | .bz _ _=>by simp only[ao.bn,l8 h]
 | .it _ _ _ _=>by simp only[ao.bn,l8 h]
theorem l7(os:List (Nat×ao)):dE [] os=os:=by
 simp only[dE];have:(fun q:Nat×ao=>(bI [] q.1,q.2.bn (bI [])))=id:=by
  funext q
  rw[ao.kp (ρ:=bI []) (fun n=>rfl)];rfl
 rw[this,List.map_id]
theorem fK(a b:List (Nat×ao))(n:Nat):aj (a++b) n=match aj a n with
  |some x=>some x
  |none=>aj b n:=by
 induction a with
 |nil=>rfl
 |cons q a ih =>
  obtain ⟨k,v⟩:=q;simp only[Z5,aj];split
  ·rfl
  ·exact ih
theorem eX.none{os os':List (Nat×ao)}(h:eX os os'){n:Nat}(hn:n<1000000):aj os' n=none:=by
 cases hx:aj os' n with
 |none=>rfl
 |some x =>
  have J:aw os' n=true:=by simp[aw,hx]
  rw[h.same] at J;exact absurd (h.lO n J) (by omega)
theorem bm.slots{ts ts':List (Nat×I)}{os os':List (Nat×ao)}(J:b6 ts ts')(U:∀ n,aj os n=aj os' n):bm (av ts os) (av ts' os'):=by
 have e:av ts os=av ts os':=by
  simp only[av];congr 1;funext n;exact U n
 rw[e];rintro c a w ⟨D,E,ab⟩;refine ⟨D,E,ab.sz,ab.eB,fun t =>?_,ab.dO,ab.c9,ab.aQ,ab.bP,ab.cQ,ab.dS,ab.eP,ab.cT,ab.eW,ab.fC⟩;rcases uc J t with h | h
 ·simp only[av];rw[h];simp[aZ]
 ·have:=ab.dR t;simp only[av] at *;rw[h];exact this
theorem su{os osk os2 ow:List (Nat×ao)}{ts:List (Nat×I)}(J:eX os osk)(U:eX os os2)(how:∀ m,aw ow m=true→m<1000000):av ts (dE [] os2++(ow++osk))=av ts (ow++os2):=by
 simp only[av,l7]
 congr 1
 funext n
 simp only[fK];cases hw:aj ow n with
 |none =>
  simp only;cases ah:aj os2 n with
  |some x=>rfl
  |none =>
   simp only;cases ar:aj osk n with
   |none=>rfl
   |some x =>
    have h5:aw osk n=true:=by simp[aw,ar]
    rw[J.same,←U.same] at h5;simp[aw,ah] at h5
 |some x =>
  simp only;rw[U.none (how n (by simp[aw,hw]))]
theorem gl.iz{os osk ow:List (Nat×ao)}(J:eX os osk)(how:∀ m,aw ow m=true→m<1000000):gl [] osk (ow++osk):=by
 refine ⟨fun m x hx =>?_,fun m m' _ _ h=>h⟩;have hm:aw osk m=true:=by simp[aw,hx]
 have hg:=J.lO m (by rw[←J.same];exact hm);obtain ⟨k1,k2⟩:=J.ok m x hx;refine ⟨?_,k1,k2⟩;rw[ao.kp (ρ:=bI []) (fun n=>rfl)];simp only[bI,fK];cases hw:aj ow m with
 |none=>exact hx
 |some y=>have:=how m (by simp[aw,hw]);omega
theorem gE.iz{os osk os2 os0:List (Nat×ao)}{r:I}(J:eX os osk)(U:eX os os2)(hr:r.bA=true):gE false [] osk os0 r os2:=by
 refine ⟨fun m x hx=>⟨(U.ok m x hx).1,(U.ok m x hx).2,fun h=>by cases h⟩,fun m m' _ _ h=>h,fun m hm=>by rw[U.same,←J.same];exact hm,fun m ah ar =>?_,jS _ r hr,fun h=>by cases h⟩;rw[U.same,←J.same,ar] at ah;cases ah
theorem aR.r0{P:Program}{Y:Value→List I→List (Nat×ao)→cK→Prop}{K:ai→Prop}{v:Value}{vs:List I}{dst:Option Nat}{rest:List aH}{ts:List (Nat×I)}{os osk ow:List (Nat×ao)}{In Ix:List (Nat×ao)→Prop}
  (hY:Y v vs osk (fun r os2=>(r=.bool true∧In os2)∨(r=.bool false∧Ix os2))) (hk:eX os osk) (hi:∀ os',In os'→eX os os') (hx:∀ os',Ix os'→eX os os') (hcl:I.cq vs=true) (how:∀ m,aw ow m=true→m<1000000)
  (J:∀ os2,In os2→aR P Y false K (aB rest ((av ts (ow++os2)).aS dst (.bool true)))) (U:∀ os2,Ix os2→aR P Y false K (aB rest ((av ts (ow++os2)).aS dst (.bool false)))) :
  aR P Y false K (.kN v vs dst rest (av ts (ow++osk))):=by
 refine .uh osk vs _ rfl hY (gl.iz hk how) (sr vs hcl) ?_ ?_
 ·rintro r os' (⟨rfl,h⟩ | ⟨rfl,h⟩)
  ·exact gE.iz hk (hi _ h) rfl
  ·exact gE.iz hk (hx _ h) rfl
 ·rintro r os' (⟨rfl,h⟩ | ⟨rfl,h⟩)
  ·rw[su hk (hi _ h) how];exact J os' h
  ·rw[su hk (hx _ h) how];exact U os' h
theorem sB(A:ai)(d:Option Nat)(args:List I)(rest:List aH)(v:Value):qe A d args rest (.raw v)=.kN v args d rest A:=rfl
end Go.Abs
namespace Go.Proofs.YthbdbocionnfgaaGreatDoor
open Go Go.Abs
open Go.Abs.Enc (enc)
structure aC where
 au:Int
 here:List Int
 all:List cC
 aQ:List Nat
 bq:List bg
 deriving Inhabited
structure ji where
 cP:Int
 no:Int
 deriving DecidableEq
instance:Enc ji where
 enc g:=.agg [.int .i64 g.cP,.int .i64 g.no]
 sz:=2
 aX:=.eI [.one,.one]
 gU:=true
 done g:=by simp only[I.done,I.gw,Bool.and_self]
 size g:=by simp only[I.size,I.sizes]
 iO g:=by simp only[I.aX,I.c7]
 agg _:=rfl
theorem sH(x y:ji):ca (.bd [.i .i64,.i .i64]) (enc x) (enc y)=some (decide (x=y)):=by
 show ca (.bd [.i .i64,.i .i64]) (.agg [.int .i64 x.cP,.int .i64 x.no]) (.agg [.int .i64 y.cP,.int .i64 y.no])=_
 have:x=y↔x.cP=y.cP∧x.no=y.no:=by cases x;cases y;simp
 simp[ca,hX,iY,this];rfl
theorem eS(a b:Int):ca (.i .i64) (enc a) (enc b)=some (decide (a=b)):=by
 show ca (.i .i64) (.int .i64 a) (.int .i64 b)=_
 simp[ca];rfl
def eN(x:bg):ji:=⟨x.other,x.no⟩
def aC.b9(s:aC)(i:Nat):cC:=s.all.getD i default
def aC.br(s:aC):List cC:=s.aQ.map s.b9
def aC.bp(s:aC):List Int:=s.aQ.map fun i:Nat=>((i:Int)+1)
def aC.fh(s:aC)(b:Int):Bool:=s.br.any fun r=>decide (r.aK=b)
def aC.dV(s:aC):List ji:=s.bq.map eN
def aC.unknown(s:aC)(x:bg):Bool:=(x.other != s.au) && !decide (eN x∈s.dV)
def aC.at(s:aC)(no:Int):Option Nat:=s.aQ.find? fun i=>decide (no=(i:Int)+1)
def aC.on(s:aC)(x:bg):Option Nat:=match s.at x.no with
 |some i=>if (s.b9 i).to=x.other∧(s.b9 i).aK=x.aK then some i else none
 |none=>none
def bE(B i:Nat):Nat:=B+5+i
def fS(B d k i:Nat):Nat:=if i=k then d else B+5+i
def nq(B:Nat)(au dF:Int):I:=.agg [.int .i64 au,.mref (B+1),.mref (B+2),.int .i64 dF,.mref (B+3),.mref (B+4)]
def pf(l:List Int):ao:=.bz (l.map enc) (List.replicate l.length (.bool true))
def dT(ν:Nat→Nat)(l:List Nat):List I:=l.map fun i=>.ptr (ν i) []
def oj(ν:Nat→Nat)(s:aC):ao:=.bz (s.bp.map enc) (dT ν s.aQ)
def qM(s:aC):ao:=.bz (s.dV.map enc) (s.bq.map enc)
def gK:List I:=[.int .i64 1,.int .i64 2,.int .i64 3,.int .i64 4,.int .i64 5,.int .i64 6,.int .i64 7,.int .i64 8]
def oQ(B:Nat):ao:=.bz gK [.func 1000125 [.ptr B []],.func 1000126 [.ptr B []],.func 1000127 [.ptr B []],.func 1000128 [.ptr B []],.func 1000129 [.ptr B []],.func 1000130 [.ptr B []],.func 1000131 [.ptr B []],.func 1000132 [.ptr B []]]
def jl(ν:Nat→Nat):Nat→List cC→List (Nat×ao)
 |_,[]=>[]
 |i,r::l=>(ν i,.box (enc r))::jl ν (i+1) l
def ec(B:Nat)(ν:Nat→Nat)(s:aC):List (Nat×ao) :=
 (B,.box (nq B s.au s.all.length))::(B+1,pf s.here)::(B+2,oj ν s)::(B+3,qM s)::(B+4,oQ B)::jl ν 0 s.all
structure gp (B:Nat) (ν:Nat→Nat) (k:Nat):Prop where
 out:∀ i,i<k→ν i<B∨B+5≤ν i
 inj:∀ i j,i<k→j<k→ν i=ν j→i=j
theorem gp.bE(B k:Nat):gp B (bE B) k:=⟨fun i _=>.inr (by simp[Go.Proofs.YthbdbocionnfgaaGreatDoor.bE]),fun i j _ _ h=>by simp[Go.Proofs.YthbdbocionnfgaaGreatDoor.bE] at h;exact h⟩
theorem gp.fS{B d k m:Nat}(h:d<B)(hm:m≤k+1):gp B (fS B d k) m :=
 ⟨fun i _=>by simp only[Go.Proofs.YthbdbocionnfgaaGreatDoor.fS];split <;>omega,fun i j hi hj h=>by simp only[Go.Proofs.YthbdbocionnfgaaGreatDoor.fS] at h;(repeat' split at h) <;>omega⟩
theorem lU{B d k i:Nat}(h:i<k):fS B d k i=bE B i:=by simp only[fS,bE];rw[if_neg (by omega)]
theorem yP{ν:Nat→Nat} : ∀ (l:List cC) (i k:Nat) (h:k<l.length),(∀ a b,a<i+l.length→b<i+l.length→ν a=ν b→a=b)→aj (jl ν i l) (ν (i+k))=some (.box (enc l[k]))
 | [],_,_,h,_=>by simp at h
 |r::l,i,0,_,_=>by simp[jl,aj]
 |r::l,i,k+1,h,hj=>by
  simp only[zx7] at h hj;simp only[jl,aj];rw[if_neg (fun e=>by have:=hj _ _ (by omega) (by omega) e;omega)];have:=yP l (i+1) k (by omega) (fun a b ha hb=>hj a b (by omega) (by omega));rw[show i+1+k=i+(k+1) by omega] at this;simpa using this
theorem yR{ν:Nat→Nat}{n:Nat} : ∀ (l:List cC) (i:Nat),(∀ k,k<l.length→n≠ν (i+k))→aj (jl ν i l) n=none
 | [],_,_=>rfl
 |r::l,i,h=>by
  simp only[zx7] at h;simp only[jl,aj];rw[if_neg (by have:=h 0 (by omega);simpa using this)];exact yR l (i+1) fun k hk=>by have:=h (k+1) (by omega);rw[show i+1+k=i+(k+1) by omega];exact this
theorem yQ{ν ν':Nat→Nat} : ∀ (l:List cC) (i:Nat),(∀ k,k<i+l.length→ν k=ν' k)→jl ν i l=jl ν' i l
 | [],_,_=>rfl
 |r::l,i,h=>by
  simp only[zx7] at h;simp only[jl,h i (by omega),yQ l (i+1) fun k hk=>h k (by omega)]
theorem ZA{B:Nat}{ν ν':Nat→Nat}{s:aC}(aq:∀ i∈s.aQ,i<s.all.length)(h:∀ k,k<s.all.length→ν k=ν' k):ec B ν s=ec B ν' s:=by
 have J:dT ν s.aQ=dT ν' s.aQ:=List.map_congr_left fun i hi=>by rw[h i (aq i hi)]
 simp only[ec,oj,J,yQ s.all 0 (by simpa using h)]
section
variable {B:Nat} {ν:Nat→Nat} {s:aC}
theorem xS(B:Nat)(ν:Nat→Nat)(k n:Nat):n=B∨n=B+1∨n=B+2∨n=B+3∨n=B+4∨((n<B∨B+5≤n)∧(∃ i,i<k∧n=ν i))∨((n<B∨B+5≤n)∧∀ i,i<k→n≠ν i):=by
 by_cases J:n=B
 ·exact .inl J
 by_cases U:n=B+1
 ·exact .inr (.inl U)
 by_cases ah:n=B+2
 ·exact .inr (.inr (.inl ah))
 by_cases ar:n=B+3
 ·exact .inr (.inr (.inr (.inl ar)))
 by_cases h5:n=B+4
 ·exact .inr (.inr (.inr (.inr (.inl h5))))
 have h6:n<B∨B+5≤n:=by omega
 by_cases h7:∃ i,i<k∧n=ν i
 ·exact .inr (.inr (.inr (.inr (.inr (.inl ⟨h6,h7⟩)))))
 ·exact .inr (.inr (.inr (.inr (.inr (.inr ⟨h6,fun i hi e=>h7 ⟨i,hi,e⟩⟩)))))
theorem fB:aj (ec B ν s) B=some (.box (nq B s.au s.all.length)):=by simp[ec,aj]
theorem fU:aj (ec B ν s) (B+1)=some (pf s.here):=by simp[ec,aj]
theorem gf:aj (ec B ν s) (B+2)=some (oj ν s):=by simp[ec,aj]
theorem gh:aj (ec B ν s) (B+3)=some (qM s):=by simp[ec,aj]
theorem oA:aj (ec B ν s) (B+4)=some (oQ B):=by simp[ec,aj]
theorem jg(hg:gp B ν s.all.length){i:Nat}(hi:i<s.all.length):aj (ec B ν s) (ν i)=some (.box (enc s.all[i])):=by
 have J:=hg.out i hi;simp only[ec,aj];rw[if_neg (by omega),if_neg (by omega),if_neg (by omega),if_neg (by omega),if_neg (by omega)];have:=yP (ν:=ν) s.all 0 i hi (by simpa using hg.inj)
 rwa [Z1] at this
theorem eF{n:Nat}(J:n<B∨B+5≤n)(h:∀ i,i<s.all.length→n≠ν i):aj (ec B ν s) n=none:=by
 simp only[ec,aj];rw[if_neg (by omega),if_neg (by omega),if_neg (by omega),if_neg (by omega),if_neg (by omega)];exact yR s.all 0 (by simpa using h)
theorem dN(hg:gp B ν s.all.length){n:Nat} : aw (ec B ν s) n=true↔(B≤n∧n≤B+4)∨∃ i,i<s.all.length∧n=ν i:=by
 rcases xS B ν s.all.length n with h | h | h | h | h | ⟨h,i,hi,e⟩ | ⟨h,hn⟩
 ·subst h;simp only[aw,fB];simp
 ·subst h;simp only[aw,fU];simp
 ·subst h;simp only[aw,gf];simp
 ·subst h;simp only[aw,gh];simp
 ·subst h;simp only[aw,oA];simp
 ·subst e;simp only[aw,jg hg hi];simp only[Option.isSome_some,true_iff];exact .inr ⟨i,hi,rfl⟩
 ·simp only[aw,eF h hn];simp only[Option.isSome_none,Z2,false_iff];rintro (U | ⟨i,hi,e⟩)
  ·omega
  ·exact hn i hi e
theorem X6(p:Nat→Bool)(h:p B=true):ao.only p (oQ B)=true:=by
 simp[oQ,gK,ao.only,I.only,I.cv,h]
theorem CV(p:Nat→Bool):∀ l:List Nat,(∀ i∈l,p (ν i)=true)→I.cv p (dT ν l)=true
 | [],_=>rfl
 |i::l,h=>by
  have ih:=CV p l fun j hj=>h j (by simp[hj]);simp only[dT] at ih;simp only[dT,Z3,I.cv,I.only,ih,h i (by simp),Bool.and_self]
theorem CX(p:Nat→Bool):∀ n:Nat,I.cv p (List.replicate n (.bool true))=true
 |0=>rfl
 |n+1=>by simp[List.replicate_succ,I.cv,I.only,CX p n]
theorem lr(hg:gp B ν s.all.length)(aq:∀ i∈s.aQ,i<s.all.length){n:Nat}{x:ao}(h:aj (ec B ν s) n=some x):x.only (aw (ec B ν s))=true∧x.eg=true:=by
 have hin:∀ n,(B≤n∧n≤B+4)→aw (ec B ν s) n=true:=fun n hn=>(dN hg).2 (.inl hn);rcases xS B ν s.all.length n with U | U | U | U | U | ⟨U,i,hi,e⟩ | ⟨U,hn⟩
 ·subst U;rw[fB] at h;cases h;simp[ao.only,I.only,I.cv,ao.eg,nq,hin]
 ·subst U;rw[fU] at h;cases h;simp only[pf,ao.only,eE,CX,Bool.and_self,ao.eg,true_and]
 ·subst U;rw[gf] at h;cases h;refine ⟨?_,rfl⟩;simp only[oj,ao.only,eE,Bool.true_and];exact CV _ _ fun i hi=>(dN hg).2 (.inr ⟨i,aq i hi,rfl⟩)
 ·subst U;rw[gh] at h;cases h;simp only[qM,ao.only,eE,Bool.and_self,ao.eg,true_and]
 ·subst U;rw[oA] at h;cases h;exact ⟨X6 _ (hin _ (by omega)),rfl⟩
 ·subst e;rw[jg hg hi] at h;cases h;exact ⟨b7 _ _,rfl⟩
 ·rw[eF U hn] at h;cases h
theorem ZB(hg:gp 1000000 ν s.all.length)(h:∀ i,i<s.all.length→1000000≤ν i):∀ m,aw (ec 1000000 ν s) m=true→1000000≤m:=fun m hm=>by
 rcases (dN hg).1 hm with U | ⟨i,hi,rfl⟩
 ·omega
 ·exact h i hi
end
def jy(s:aC):I:=.dj (s.bp.map enc) (s.aQ.map fun i=>.ref (enc (s.b9 i)))
def jM(l:List Int):I:=.dj (l.map enc) (List.replicate l.length (.bool true))
def ki(s:aC):I:=.dj (s.dV.map enc) (s.bq.map enc)
def sA:I:=.dj gK (List.replicate 8 .any)
def fT(s:aC):I:=.agg [.int .i64 s.au,jM s.here,jy s,.int .i64 s.all.length,ki s,sA]
theorem qi:∀ n:Nat,I.cq (List.replicate n (.bool true))=true
 |0=>rfl
 |n+1=>by simp[List.replicate_succ,I.cq,I.bA,qi n]
theorem ve{α:Type}[Enc α](f:Nat→α):∀ l:List Nat,I.cq (l.map fun i=>.ref (enc (f i)))=true
 | []=>rfl
 |i::l=>by simp[I.cq,I.bA,ka,ve f l]
theorem AJ(s:aC):(fT s).bA=true:=by
 simp[fT,jM,jy,ki,sA,gK,I.bA,I.cq,iy,qi,ve,List.replicate]
theorem vF{A:ai}{m:Nat}{x:I}(h:x.bA=true):c4 A (m+1) x=some x:=by simp[c4,h]
theorem wF{A:ai}{m:Nat} : ∀ {l:List I},I.cq l=true→fR (c4 A (m+1)) l=some l
 | [],_=>rfl
 |x::l,h=>by
  simp only[I.cq,t8] at h;simp only[fR,vF h.1,wF h.2]
theorem sJ{A:ai}{m n:Nat}{ks vs vs':List I}(ho:A.o n=some (.bz ks vs))(hk:I.cq ks=true)(hv:fR (c4 A m) vs=some vs'):c4 A (m+1) (.mref n)=some (.dj ks vs'):=by
 simp only[c4,I.bA,Z2,if_false,ho,hk,if_true,hv,zz0]
theorem Cv{A:ai}{m:Nat}{ν:Nat→Nat}{f:Nat→cC} : ∀ {l:List Nat},(∀ i∈l,A.o (ν i)=some (.box (enc (f i))))→fR (c4 A (m+2)) (dT ν l)=some (l.map fun i=>.ref (enc (f i)))
 | [],_=>rfl
 |i::l,h=>by
  have ih:=Cv (m:=m) (l:=l) fun j hj=>h j (by simp[hj]);simp only[dT] at ih;have J:c4 A (m+2) (.ptr (ν i) [])=some (.ref (enc (f i))):=by
   have hcl:(I.ptr (ν i) []).bA=false:=by simp[I.bA]
   rw[c4];simp only[hcl,Z2,if_false,cM,h i (by simp),I.at,vF (ka (f i)),zz0]
  simp only[dT,Z3,fR,J,ih]
structure yl (A:ai) (B:Nat) (ν:Nat→Nat) (s:aC):Prop where
 aW:A.o B=some (.box (nq B s.au s.all.length))
 J:A.o (B+1)=some (pf s.here)
 U:A.o (B+2)=some (oj ν s)
 ah:A.o (B+3)=some (qM s)
 ar:A.o (B+4)=some (oQ B)
 aL:∀ i,i<s.all.length→A.o (ν i)=some (.box (enc (s.b9 i)))
 cE:∀ i∈s.aQ,i<s.all.length
theorem gS{A:ai}{B:Nat}{ν:Nat→Nat}{s:aC}(h:yl A B ν s)(m:Nat):c4 A (m+5) (nq B s.au s.all.length)=some (fT s):=by
 have i0:∀ (k:IntKind) (v:Int),c4 A (m+4) (.int k v)=some (.int k v):=fun _ _=>vF (m:=m+3) rfl;have i1:c4 A (m+4) (.mref (B+1))=some (jM s.here):=sJ h.J (iy _) (wF (m:=m+2) (qi _));have i2:c4 A (m+4) (.mref (B+2))=some (jy s):=sJ h.U (iy _) (Cv (m:=m+1) fun i hi=>h.aL i (h.cE i hi));have i3:c4 A (m+4) (.mref (B+3))=some (ki s):=sJ h.ah (iy _) (wF (m:=m+2) (iy _));have i4:c4 A (m+4) (.mref (B+4))=some sA:=sJ h.ar (by simp[gK,I.cq,I.bA]) (by
  have hf:∀ k:Nat,1000000≤k→c4 A (m+3) (.func k [.ptr B []])=some .any:=fun k hk=>by
   rw[c4];have hcl:(I.func k [.ptr B []]).bA=false:=by simp[I.bA,I.cq]
   simp only[hcl,Z2,if_false,if_neg (show ¬ k<1000000 by omega)]
  simp only[fR,hf 1000125 (by decide),hf 1000126 (by decide),hf 1000127 (by decide),hf 1000128 (by decide),hf 1000129 (by decide),hf 1000130 (by decide),hf 1000131 (by decide),hf 1000132 (by decide)];rfl)
 rw[nq,c4];simp only[I.bA,I.cq,Bool.and_false,Bool.false_and,Z2,if_false,fR,i0,i1,i2,i3,i4,zz0];rfl
def c8(s:aC):I:=.ref (fT s)
theorem mq(s:aC):(c8 s).bA=true:=by simp only[c8,I.bA,AJ]
theorem A8:(∀ A s,jb A 0 0 (c8 s)=some (.ref (.int .i64 s.au)))∧(∀ A s,jb A 1 1 (c8 s)=some (.ref (jM s.here)))∧(∀ A s,jb A 2 2 (c8 s)=some (.ref (jy s)))∧(∀ A s,jb A 3 3 (c8 s)=some (.ref (.int .i64 s.all.length))) ∧
  (∀ A s,jb A 4 4 (c8 s)=some (.ref (ki s))):=by
 refine ⟨fun A s =>?_,fun A s =>?_,fun A s =>?_,fun A s =>?_,fun A s =>?_⟩ <;>simp[c8,fT,jb,I.dP,qo,o5,du,I.sizes,I.size,jM,jy,ki,sA]
theorem Wk(l:List Int):(jM l).bA=true:=by simp only[jM,I.bA,iy,qi,Bool.and_self]
theorem Y4(s:aC):(jy s).bA=true:=by simp only[jy,I.bA,iy,ve,Bool.and_self]
theorem WA(s:aC):(ki s).bA=true:=by simp only[ki,I.bA,iy,Bool.and_self]
theorem dH:(type_of% @A8)∧(∀ s,(c8 s).bA=true)∧(∀ aL A s,bj aL A (c8 s)=some (c8 s))∧(∀ s,(c8 s).bT=true)∧(∀ s,cg none (c8 s)=true)∧(∀ s,lT (c8 s)=some (c8 s))∧(∀ p s,(c8 s).only p=true) ∧
  (∀ l,(jM l).bT=true)∧(∀ l,cg none (jM l)=true)∧(∀ l,(jy l).bT=true)∧(∀ l,cg none (jy l)=true)∧(∀ l,(ki l).bT=true)∧(∀ l,cg none (ki l)=true)∧(∀ l,(jM l).bA=true)∧(∀ l,(jy l).bA=true)∧(∀ l,(ki l).bA=true) ∧
  (∀ A l,fZ A (jM l)=some (l.map enc,List.replicate l.length (.bool true)))∧(∀ A s,fZ A (jy s)=some (s.bp.map enc,s.aQ.map fun i=>.ref (enc (s.b9 i))))∧(∀ A s,fZ A (ki s)=some (s.dV.map enc,s.bq.map enc)) ∧
  (∀ x,cg none (.ref x)=true)∧(∀ x,lT (.ref x)=some (.ref x)) :=
 ⟨A8,mq,fun aL A s=>by
  have h:=mq s;simp only[c8,I.bA] at h;simp only[c8,bj,h,if_true],fun _=>rfl,fun _=>rfl,fun _=>rfl,fun p s=>jS p _ (mq s),fun _=>rfl,fun _=>rfl,fun _=>rfl,fun _=>rfl,fun _=>rfl,fun _=>rfl,Wk,Y4,WA,
  fun _ _=>rfl,fun _ _=>rfl,fun _ _=>rfl,fun _=>rfl,fun _=>rfl⟩
theorem CL{A:ai}{d:Option Nat}{n:Nat}{rest:List aH}{ks vs:List I}{cur:Option Nat} : pC A d n rest (some (.it ks vs [] cur))=aB rest (A.aS d (.tuple [.bool false])):=by
 simp only[pC,if_true]
theorem aR.ic{P:Program}{Y:Value→List I→List (Nat×ao)→cK→Prop}{K:ai→Prop}{A:ai}{d:Option Nat}{n:Nat}{rest:List aH}{ks vs:List I}{left:List Nat}{cur:Option Nat}(aq:left≠[])
  (h:∀ i,i∈left→∃ kk x,ks[i]?=some kk∧vs[i]?=some x∧aR P Y false K (aB rest ((A.aT n (.it ks vs (left.filter (· != i)) (some i))).aS d (.tuple [.bool true,kk,x])))) :
  aR P Y false K (pC A d n rest (some (.it ks vs left cur))):=by
 simp only[pC,if_neg aq];refine .any rfl fun i hi =>?_;obtain ⟨kk,x,J,U,ah⟩:=h i hi;simp only[J,U];exact ah
theorem Ck{n i:Nat}{ay left:List Nat}(hC:(ay++left).Perm (List.range n))(hi:i∈left):(left.filter (· != i)).length<left.length∧((ay++[i])++left.filter (· != i)).Perm (List.range n):=by
 refine ⟨?_,?_⟩
 ·rcases Nat.lt_or_ge (left.filter (· != i)).length left.length with h | h
  ·exact h
  ·have:=List.filter_eq_self.1 (List.Sublist.eq_of_length_le List.filter_sublist h) i hi;simp at this
 have hnd:left.Nodup:=(List.nodup_append.1 (hC.nodup_iff.2 List.nodup_range)).2.1;have J:left.Perm (i::left.filter (· != i)):=by
  have U:(left.filter (· == i)).length=1:=by
   have:=List.nodup_iff_count.1 hnd i;have ah:=List.count_pos_iff.2 hi;have ar:left.count i=(left.filter (· == i)).length:=by rw[List.count,List.countP_eq_length_filter]
   omega
  have h5:left.filter (· == i)=[i]:=by
   obtain ⟨a,ha⟩:=List.length_eq_one_iff.1 U;have:a∈left.filter (· == i):=by rw[ha];simp
   have:=(zx5.1 this).2;simp at this;rw[ha,this]
  have h6:=(List.filter_append_perm (· == i) left).symm;rw[h5] at h6;exact h6
 refine List.Perm.trans ?_ hC;rw[zz1];exact (J.symm).append_left ay
def yr(s:aC)(b:Int)(t:List Nat×List Nat×Option Nat):ai :=
 av [(0,c8 s),(1,.int .i64 b),(11,.dq 11)] [(11,.it (s.bp.map enc) (s.aQ.map fun i=>.ref (enc (s.b9 i))) t.2.1 t.2.2)]
theorem p6(s:aC)(b:Int):a8 Tryz.prog 72 [c8 s,enc b] (enc (s.fh b)):=by
 refine a8.cd Tryz.func72 IP JR K8 (u8 rfl) (fun hwf W0 bF E1 =>?_);simp only[zI,Ej,bJ,Z1];clear hwf;refine .gA (by decide +kernel) fun K hK =>?_;simp only[Bw,bG,simprocAttr];refine .done (hK _ ?_);clear hK K;refine ae.seq (ae.seq ?_);refine .kn (by decide +kernel) fun K hK =>?_;simp only[Bx,bG,simprocAttr]
 try simp only[dH,jy,bw,mO,bG,simprocAttr]
 refine .done (hK _ ?_);clear hK K;try simp only[ez]
 have hlen:s.bp.length=s.aQ.length:=by simp[aC.bp]
 refine ae.block (ae.loop (yr s b) (fun t=>(t.1++t.2.1).Perm (List.range s.aQ.length)∧∀ i∈t.1,(s.b9 (s.aQ.getD i 0)).aK≠b) (fun t=>t.2.1.length) ([],List.range s.aQ.length,none) ⟨by simp,by simp⟩ ?_ ?_)
 ·refine bm.slots ?_ (fun n =>?_)
  ·simp[b6,bZ]
  ·simp only[cY,qS,Z8,hlen]
 rintro ⟨ay,left,cur⟩ ⟨hC,hA⟩;simp only at hC hA;simp only[yr];by_cases aq:left=[]
 ·subst aq;have hno:s.fh b=false:=by
   simp only[aC.fh,aC.br,List.any_map,List.any_eq_false,Function.comp,decide_eq_true_eq];intro i hi e;obtain ⟨k,hk,rfl⟩:=List.mem_iff_getElem.1 hi;have hm:k∈ay:=(show ay.Perm _ by simpa using hC).mem_iff.2 (zy6.2 hk);have:=hA k hm;simp only[Z0,zz4 hk,Option.getD_some] at this;exact this e
  refine .gA (by decide +kernel) fun K hK =>?_;simp only[vZ,bG,simprocAttr]
  try simp only[mO,CL,bG,simprocAttr]
  refine .done (hK _ ?_);clear hK K;refine ae.seq ?_;refine ae.jN ?_;simp only[az,bG,simprocAttr];refine ⟨fun h =>?_,fun h =>?_⟩
  case refine_1=>cases h
  refine ae.exit ?_;try simp only[ez,jI,simprocAttr]
  rw[hno];have R:=aD
  repeat' ((first |refine ae.aF (by decide +kernel) rfl fun K hK =>?_|(refine .ay [0,1,4,6,11,13,21] hK ?_;clear hK K)|(with_reducible refine .done (hK _ ?_);clear hK K)|refine ae.of rfl ?_|(with_reducible refine az.aE (fun h =>?_) (fun h =>?_) <;>try simp only[h])) <;>try simp only[aG,R,simprocAttr])
  all_goals clear R
 ·refine .gA (by decide +kernel) fun K hK =>?_;simp only[vZ,bG,simprocAttr]
  try simp only[mO,bG,simprocAttr]
  refine aR.ic aq fun i hi =>?_;have hib:i<s.aQ.length:=zy6.1 (hC.mem_iff.1 (by simp[hi]));obtain ⟨hm,hC2⟩:=Ck hC hi;have hk1:(s.bp.map (enc (α:=Int)))[i]?=some (enc (((s.aQ[i]:Nat):Int)+1)):=by simp[aC.bp,hib]
  have hk2:(s.aQ.map fun i=>I.ref (enc (s.b9 i)))[i]?=some (.ref (enc (s.b9 s.aQ[i]))):=by simp[hib]
  refine ⟨_,_,hk1,hk2,?_⟩;have hent:mF (s.bp.map enc) (s.aQ.map fun i=>I.ref (enc (s.b9 i))) (some i)=some (.tuple [enc (((s.aQ[i]:Nat):Int)+1),.ref (enc (s.b9 s.aQ[i]))]):=by
   simp only[mF,hk1,hk2]
  have hx:s.aQ.getD i 0=s.aQ[i]:=by simp[Z0,hib]
  try simp only[bG,simprocAttr]
  refine .done (hK _ ?_);clear hK K;refine ae.seq ?_;refine ae.jN ?_;simp only[az,bG,simprocAttr];refine ⟨fun h =>?_,fun h =>?_⟩
  case refine_2=>cases h
  refine ae.skip ?_;try simp only[ez,simprocAttr]
  refine ae.block ?_;rcases q:((s.b9 s.aQ[i]).aK==b)
  ·have R:=y6 @hent (y6 @q aD)
   repeat' ((first |refine ae.aF (by decide +kernel) rfl fun K hK =>?_|(refine .ay [0,1,4,6,11,13,21] hK ?_;clear hK K)|(with_reducible refine .done (hK _ ?_);clear hK K)|refine ae.of rfl ?_|(with_reducible refine az.aE (fun h =>?_) (fun h =>?_) <;>try simp only[h])) <;>try simp only[aG,R,simprocAttr])
   all_goals clear R
   refine ⟨(ay++[i],left.filter (· != i),some i),⟨hC2,fun j hj =>?_⟩,hm,?_⟩
   ·rcases zy7.1 hj with hj | hj
    ·exact hA j hj
    ·rw[zy4.1 hj,hx];simpa using q
   ·simp only[];refine bm.slots ?_ (fun n =>?_)
    ·simp[b6,bZ]
    ·simp only[cY,qS];(repeat' split) <;>simp_all
  ·have hyes:s.fh b=true:=by
    simp only[aC.fh,aC.br,List.any_map,List.any_eq_true,Function.comp,decide_eq_true_eq];exact ⟨s.aQ[i],zx8 hib,by simpa using q⟩
   rw[hyes];have R:=y6 @hent (y6 @q aD)
   repeat' ((first |refine ae.aF (by decide +kernel) rfl fun K hK =>?_|(refine .ay [0,1,4,6,11,13,21] hK ?_;clear hK K)|(with_reducible refine .done (hK _ ?_);clear hK K)|refine ae.of rfl ?_|(with_reducible refine az.aE (fun h =>?_) (fun h =>?_) <;>try simp only[h])) <;>try simp only[aG,R,simprocAttr])
   all_goals clear R
theorem WU(s:aC)(x:bg):∃ v:I,v.bT=true∧cg (some 4) v=true∧v.aX=.eI [.one,.one,.one,.one]∧fk (.bd [.i .i64,.i .i64]) (.agg [.int .i64 0,.int .i64 0,.int .i64 0,.int .i64 0]) (.agg [.int .i64 x.other,.int .i64 x.no]) (s.dV.map enc) (s.bq.map enc)=some (v,decide (eN x∈s.dV)):=by
 have h:=td sH (.agg [.int .i64 0,.int .i64 0,.int .i64 0,.int .i64 0]) (eN x) s.dV (s.bq.map enc);have hm:=qp (k:=eN x) (ks:=s.dV);have e:(enc (eN x):I)=.agg [.int .i64 x.other,.int .i64 x.no]:=rfl;rw[e] at h;rw[h,←hm];cases hf:s.dV.findIdx? fun y=>decide (eN x=y) with
 |none=>exact ⟨_,rfl,rfl,rfl,rfl⟩
 |some i =>
  have hi:=(List.findIdx?_eq_some_iff_getElem.1 hf).1;have hi2:i<s.bq.length:=by simpa[aC.dV] using hi
  refine ⟨enc s.bq[i],ef _,by rw[fb];rfl,eH _,?_⟩;simp[hi2]
theorem r6(s:aC)(x:bg):a8 Tryz.prog 152 [c8 s,enc x] (enc (s.unknown x)):=by
 refine a8.cd Tryz.func152 Ii Jn KE (u8 rfl) (fun hwf W0 bF E1 =>?_);simp only[zb,DK,bJ,Z1];clear hwf;obtain ⟨v,hv1,hv2,hv3,hlk⟩:=WU s x;have hbld:(dQ [.int .i64 0,.int .i64 0] [(0,.int .i64 x.other),(1,.int .i64 x.no)]).map I.agg=some (.agg [.int .i64 x.other,.int .i64 x.no]):=by simp[dQ,I.bT,I.size]
 have hst:∀ A rest b,de A (some 4) 5 [] b v rest (some (.agg [.int .i64 0,.int .i64 0,.int .i64 0,.int .i64 0]))=aB rest (A.aT 5 (.box v)):=fun A rest b=>dG hv1 hv2 hv3;simp only[aC.unknown];rcases q:(x.other != s.au) <;>rcases q2:decide (eN x∈s.dV)
 all_goals
  rw[q2] at hlk;have R:=y6 @q (y6 @hv1 (y6 @hv2 (y6 @hbld (y6 @hst (y6 @hlk (y6 @dH (y6 @bw aD)))))))
  repeat' ((first |(with_reducible refine .guard (fun hb =>?_) (fun hb =>?_) <;>try simp only[hb])|refine ae.aF (by decide +kernel) rfl fun K hK =>?_|(refine .ay [0,1,3,4,6] hK ?_;clear hK K)|(with_reducible refine .done (hK _ ?_);clear hK K)|refine ae.of rfl ?_|(with_reducible refine az.aE (fun h =>?_) (fun h =>?_) <;>try simp only[h])) <;>try simp only[aG,R,simprocAttr])
  all_goals clear R
  rfl
theorem A4{α β:Type}(f:α→β):∀ (l:List α) (k:Nat),(l.map f).eraseIdx k=(l.eraseIdx k).map f
 | [],_=>rfl
 |_::_,0=>rfl
 |x::l,k+1=>by simp only[Z3,List.eraseIdx_cons_succ,A4 f l k]
section
variable {α ι:Type} [Enc α] [DecidableEq α] [DecidableEq ι] {ty:cJ}
omit [Enc α] [DecidableEq ι] in
theorem Bm(f:ι→α)(g:ι→I)(z:I)(k:α):∀ l:List ι,(match (l.map f).findIdx? fun x=>decide (k=x) with
   |some i=>((l.map g)[i]?).map fun v=>(v,true)
   |none=>some (z,false))=(match l.find? fun i=>decide (k=f i) with
   |some i=>some (g i,true)
   |none=>some (z,false))
 | []=>rfl
 |x::l=>by
  have ih:=Bm f g z k l;simp only[Z3,List.findIdx?_cons,List.find?_cons];by_cases h:k=f x
  ·simp[h]
  ·simp only[h,decide_false,Z2,if_false];rw[←ih];cases (l.map f).findIdx? fun x=>decide (k=x) with
   |none=>rfl
   |some i=>simp
omit [DecidableEq ι] in
theorem wA(aA:∀ x y:α,ca ty (enc x) (enc y)=some (decide (x=y)))(f:ι→α)(g:ι→I)(z:I)(k:α)(l:List ι) :
  fk ty z (enc k) ((l.map f).map enc) (l.map g)=match l.find? fun i=>decide (k=f i) with
   |some i=>some (g i,true)
   |none=>some (z,false):=by
 exact (td aA z k _ _).trans (Bm f g z k l)
theorem Cz(aA:∀ x y:α,ca ty (enc x) (enc y)=some (decide (x=y)))(f:ι→α)(g:ι→I)(hf:∀ a b,f a=f b→a=b){l:List ι}{i:ι}(hi:i∈l) :
  lS ty (enc (f i)) ((l.map f).map enc) (l.map g)=some (((l.erase i).map f).map enc,(l.erase i).map g):=by
 have hf2:∀ a,(f i=f a)=(i=a):=fun a=>propext ⟨hf i a,fun e=>by rw[e]⟩;have key:∀ l:List ι,i∈l→∃ k,(l.map f).findIdx? (fun x=>decide (f i=x))=some k∧l.eraseIdx k=l.erase i:=by
  intro l
  induction l with
  |nil=>intro h;cases h
  |cons x l ih =>
   intro h;simp only[Z3,List.findIdx?_cons,hf2];by_cases e:i=x
   ·subst e;exact ⟨0,by simp,by simp⟩
   ·obtain ⟨k,J,U⟩:=ih (by simpa[e] using h);refine ⟨k+1,?_,?_⟩
    ·simp only[e,decide_false,Z2,if_false,J,zz0]
    ·rw[List.eraseIdx_cons_succ,U,List.erase_cons_tail (by simpa using fun h=>e h.symm)]
 obtain ⟨k,J,U⟩:=key l hi;simp only[lS,aA,Option.isSome_some,if_true,sM aA,J,zz0,Nat.add_zero];rw[←U];simp only[A4]
end
theorem EU(l:List Int):List.replicate l.length (I.bool true)=l.map fun _=>.bool true:=by
 induction l with
 |nil=>rfl
 |cons x l ih=>simp[List.replicate_succ,ih]
theorem CA{l:List Int}{b:Int}(h:b∈l):lS (.i .i64) (.int .i64 b) (l.map enc) (List.replicate l.length (.bool true))=some ((l.erase b).map enc,List.replicate (l.erase b).length (.bool true)):=by
 have:=Cz eS (fun x:Int=>x) (fun _=>.bool true) (fun _ _ h=>h) h;simp only[List.map_id',eC] at this;rw[EU,EU];exact this
theorem jj{s:aC}{no:Int}{i:Nat}(h:s.at no=some i):i∈s.aQ∧no=(i:Int)+1 :=
 ⟨List.mem_of_find?_eq_some h,by simpa using List.find?_some h⟩
theorem wB{s:aC}(g:Nat→I)(no:Int):fk (.i .i64) .nilp (.int .i64 no) (s.bp.map enc) (s.aQ.map g)=match s.at no with
   |some i=>some (g i,true)
   |none=>some (.nilp,false):=by
 have h:=wA eS (fun i:Nat=>(i:Int)+1) g .nilp no s.aQ;rw[eC] at h;refine h.trans ?_;unfold aC.at;generalize s.aQ.find? (fun i:Nat=>decide (no=(i:Int)+1))=q;cases q <;>rfl
theorem CB{s:aC}(g:Nat→I){i:Nat}(h:i∈s.aQ):lS (.i .i64) (.int .i64 ((i:Int)+1)) (s.bp.map enc) (s.aQ.map g)=some (({ s with aQ:=s.aQ.erase i } : aC).bp.map enc,(s.aQ.erase i).map g) :=
 Cz eS (fun i:Nat=>(i:Int)+1) g (fun a b h=>by omega) h
theorem pE{s:aC}{x:bg}{i:Nat}(h:s.on x=some i):s.at x.no=some i∧(s.b9 i).to=x.other∧(s.b9 i).aK=x.aK:=by
 simp only[aC.on] at h;split at h
 ·rename_i j hj;split at h
  ·rename_i bH;cases h;exact ⟨hj,bH⟩
  ·cases h
 ·cases h
def eQ(s:aC)(x:bg):Option aC :=
 if x.kind=1 then if x.aK∈s.here∨s.fh x.aK=true then none else some { s with here:=gO s.here x.aK }
 else if x.kind=2 then if x.aK∈s.here then some { s with here:=s.here.erase x.aK } else none
 else if x.kind=3 then if x.aK∈s.here∧x.other≠s.au∧x.no=(s.all.length:Int)+1 then
  some { s with here:=s.here.erase x.aK,all:=s.all++[⟨x.no,x.other,x.aK,false⟩],aQ:=s.aQ++[s.all.length] } else none
 else if x.kind=4 then match s.on x with
  |some i=>if (s.b9 i).dD then none else some { s with all:=s.all.set i { s.b9 i with dD:=true } }
  |none=>none
 else if x.kind=5 then match s.on x with
  |some i=>some { s with aQ:=s.aQ.erase i }
  |none=>none
 else if x.kind=6 then match s.on x with
  |some i=>if (s.b9 i).dD then some { s with aQ:=s.aQ.erase i,here:=gO s.here x.aK } else none
  |none=>none
 else if x.kind=7 then if s.unknown x=true∧x.aK∉s.here∧s.fh x.aK=false then some { s with bq:=s.bq++[x],here:=gO s.here x.aK } else none
 else if x.kind=8 then if s.unknown x=true then some { s with bq:=s.bq++[x] } else none
 else none
def gD(s:aC)(x:bg):Option aC:=if hl x then eQ s x else none
structure cG (s:aC):Prop where
 cE:∀ i∈s.aQ,i<s.all.length
 iF:s.aQ.Nodup
 af:s.here.Nodup
theorem nw{l:List Int}{b:Int}(h:l.Nodup):(gO l b).Nodup:=by
 unfold gO;split
 ·exact h
 ·rename_i hb;exact List.nodup_append.2 ⟨h,by simp,fun a ha c hc e=>by rw[zy4.1 hc] at e;exact hb (e▸ha)⟩
theorem cG.next{s s':aC}{x:bg}(h:cG s)(hn:eQ s x=some s'):cG s'∧s'.au=s.au∧s'.all.length≤s.all.length+1∧(x.kind≠3→s'.all.length=s.all.length):=by
 obtain ⟨J,U,ah⟩:=h;simp only[eQ] at hn;split at hn
 ·split at hn <;>cases hn
  exact ⟨⟨J,U,nw ah⟩,rfl,by simp,fun _=>rfl⟩
 split at hn
 ·split at hn <;>cases hn
  exact ⟨⟨J,U,ah.erase _⟩,rfl,by simp,fun _=>rfl⟩
 split at hn
 ·rename_i hk;split at hn <;>cases hn
  refine ⟨⟨fun i hi =>?_,?_,ah.erase _⟩,rfl,by simp,fun h=>absurd hk h⟩
  ·simp only[zy7,zy4] at hi;simp only[Z7,zw1];rcases hi with hi | hi
   ·have:=J i hi;omega
   ·omega
  ·exact List.nodup_append.2 ⟨U,by simp,fun a ha c hc e=>by rw[zy4.1 hc] at e;have:=J a ha;omega⟩
 split at hn
 ·split at hn
  ·split at hn <;>cases hn
   exact ⟨⟨fun i hi=>by simpa using J i hi,U,ah⟩,rfl,by simp,fun _=>by simp⟩
  ·cases hn
 split at hn
 ·split at hn <;>cases hn
  exact ⟨⟨fun i hi=>J i (List.mem_of_mem_erase hi),U.erase _,ah⟩,rfl,by simp,fun _=>rfl⟩
 split at hn
 ·split at hn
  ·split at hn <;>cases hn
   exact ⟨⟨fun i hi=>J i (List.mem_of_mem_erase hi),U.erase _,nw ah⟩,rfl,by simp,fun _=>rfl⟩
  ·cases hn
 split at hn
 ·split at hn <;>cases hn
  exact ⟨⟨J,U,nw ah⟩,rfl,by simp,fun _=>rfl⟩
 split at hn
 ·split at hn <;>cases hn
  exact ⟨⟨J,U,ah⟩,rfl,by simp,fun _=>rfl⟩
 cases hn
theorem gV{ts:List (Nat×I)}{os:List (Nat×ao)}{B:Nat}{ν:Nat→Nat}{s:aC}(hg:gp B ν s.all.length)(aq:∀ i∈s.aQ,i<s.all.length)(h:∀ n,aw (ec B ν s) n=true→aj os n=aj (ec B ν s) n):yl (av ts os) B ν s:=by
 have go:∀ n x,aj (ec B ν s) n=some x→(av ts os).o n=some x:=fun n x hx=>(h n (by simp[aw,hx])).trans hx;refine ⟨go _ _ fB,go _ _ fU,go _ _ gf,go _ _ gh,go _ _ oA,fun i hi =>?_,aq⟩;rw[go _ _ (jg hg hi)];simp[aC.b9,Z0,hi]
def fD:List PanicEntry:=[{ v:=.iface 144 (.agg #[]),recovered:=false }]
theorem W5(w:World):Calls Tryz.prog 114 #[.bool false] w fun e w'=>e=.panicked fD∧w'=w:=by
 go_enter Tryz.func114,Tryz.ntmps114
 go_wp2
 exact ⟨rfl,rfl,rfl⟩
theorem FP:fi Tryz.prog 114 fD [enc false] [] (fun os'=>os'=[]) :=
 fi.Yi z8 (fun w D vs hv=>by
  have hv':aI w D dk [.bool false] vs:=hv;simp only[aI] at hv';obtain ⟨v,rest,cs,rfl,J,U,rfl⟩:=hv';have:v=.bool false:=kv (ju J U);subst this;exact W5 w) rfl
theorem kE:a8 Tryz.prog 114 [enc true] (.tuple []):=by
 refine a8.cd Tryz.func114 z8 Jk Kr (u8 rfl) (fun hwf W0 bF E1 =>?_);simp only[y8,Dw,bJ];have R:=y6 @kA @bG
 repeat' ((first |refine ae.aF (by decide +kernel) rfl fun K hK =>?_|(refine .ay [0,3] hK ?_;clear hK K)|(with_reducible refine .done (hK _ ?_);clear hK K)|refine ae.of rfl ?_|(with_reducible refine az.aE (fun h =>?_) (fun h =>?_) <;>try simp only[h])) <;>try simp only[aG,R,simprocAttr])
 all_goals clear R
 all_goals rfl
theorem YJ:r8 Tryz.prog 113:=⟨z7,fun b T w x hb=>by
 refine callsDIn_of_wpSIn Tryz.func113 rfl trivial fun c₀ cs hu =>?_;apply wpSIn_seq;apply wpSIn_region;simp[wpOpsSIn,go_sem,recoverD,hu,Tryz.ntmps113,Exit.thenS];apply wpSIn_seq;apply wpSIn_region;simp[wpOpsSIn,go_sem,Exit.thenS];refine wpSIn_cond (t:=false) (by simp[Act.eval,Array.replicate]) ?_;simp only[Z2,if_false];refine wpSIn_of_wpIn rfl (wpIn_skip ?_);cases c₀
 simp_all[bodyPostS,results,Tryz.results113]⟩
theorem YI:r4 Tryz.prog 113 fD:=⟨z7,fun b T w x hb=>by
 have hc:w.cell? ⟨b,0,none⟩=some (.bool x):=by simp[World.cell?,hb]
 have hz:w.frozen? ⟨b,0,none⟩=false:=by simp[World.frozen?,hb]
 have hta:∀ W,(Instr.typeAssert (.iface 144 (.agg #[])) 20 144 true).run Tryz.prog W=.ok (.tuple #[.agg #[],.bool true]) W:=fun W=>by
  simp[Instr.typeAssert,run_underlying Tryz.underlying144]
 refine callsDIn_of_wpSIn Tryz.func113 rfl trivial fun c₀ cs hu =>?_;apply wpSIn_seq;apply wpSIn_region;simp[wpOpsSIn,go_sem,recoverD,hu,Tryz.ntmps113,Exit.thenS,fD];apply wpSIn_seq;apply wpSIn_region;simp[wpOpsSIn,go_sem,Exit.thenS];refine wpSIn_cond (t:=true) (by simp[Act.eval,Array.replicate]) ?_;simp only[if_true];apply wpSIn_seq;apply wpSIn_seq;apply wpSIn_region;simp[wpOpsSIn,go_sem,Exit.thenS,hta];apply wpSIn_seq;apply wpSIn_region;simp[wpOpsSIn,go_sem,Exit.thenS];refine wpSIn_cond (t:=false) (by simp[Act.eval,Array.replicate]) ?_;simp only[Z2,if_false];refine wpSIn_of_wpIn rfl (wpIn_skip ?_);simp only[Exit.thenS];have hb2:(w.alloc (.cells #[] 144)).heap[b]?=some (.cells #[.bool x] T (0,0)):=(RowKit.Below.heap_alloc _ _ _ (fJ hb)).trans hb;have hc2:(w.alloc (.cells #[] 144)).cell? ⟨b,0,none⟩=some (.bool x):=by simp[World.cell?,hb2]
 have hz2:(w.alloc (.cells #[] 144)).frozen? ⟨b,0,none⟩=false:=by simp[World.frozen?,hb2]
 apply wpSIn_region;simp[wpOpsSIn,go_sem,hc2,hz2,bodyPostS,results,Tryz.results113];exact ⟨rfl,_,qb _ _,rfl⟩⟩
abbrev aM(s:aC):List (Nat×ao):=ec 1000000 (bE 1000000) s
def mU(s:aC):cK:=fun r os'=>r=.tuple []∧os'=aM s
def jV(s:aC)(os':List (Nat×ao)):Prop:=os'=aM s
theorem dI(k:Nat):gp 1000000 (bE 1000000) k:=gp.bE _ _
theorem dz{s:aC} : ∀ m,aw (aM s) m=true→1000000≤m:=ZB (dI _) fun i _=>by simp[bE];omega
theorem iq{s:aC}(hk:cG s){n:Nat}{x:ao}(h:aj (aM s) n=some x):x.only (aw (aM s))=true∧x.eg=true:=lr (dI _) hk.cE h
theorem ma{ts:List (Nat×I)}{os os':List (Nat×ao)}{post:cK}(ho:∀ n,aw os' n=true→aj os n=aj os' n)(hg:∀ n x,aj os' n=some x→x.only (aw os')=true∧x.eg=true)(hp:post (jU []) os'):iX [] post (av ts os) :=
 ⟨os',[],fun n x hx=>⟨by show aj os n=some x;rw[ho n (by simp[aw,hx])];exact hx,hg n x hx⟩,trivial,hp⟩
theorem mb(rs post)(A:ai):og rs post .normal A=iX rs post A:=rfl
theorem ik{Q:Exit→ai→Prop}{ts:List (Nat×I)}{os0:List (Nat×ao)}(hq:Q (.panic fD) (av ts os0)):nv Tryz.prog Q 114 [.bool false] (av ts os0) :=
 .mk false [] [] [enc false] fD _ FP ⟨fun m x h=>by simp[aj] at h,fun m m' h=>by simp[aw,aj] at h⟩ ⟨.inl ⟨rfl,rfl,rfl⟩,trivial⟩
  (fun os' h=>by subst h;exact ⟨fun m x h=>by simp[aj] at h,fun m m' h=>by simp[aw,aj] at h,fun m h=>h,fun m h=>by simp[aw,aj] at h,rfl,fun h=>by cases h⟩) (fun os' h=>by subst h;exact hq)
theorem hs{s:aC}(hk:cG s){ts:List (Nat×I)}{z:ao} : xa fD (jV s) (.panic fD) (av ts ((3,z)::aM s)) :=
 ⟨rfl,ma (fun n hn=>by have:=dz n hn;simp only[aj];rw[if_neg (by omega)]) (fun _ _ h=>iq hk h) ⟨rfl,rfl⟩⟩
theorem bB:(∀ (a b:Int) v,du [.int .i64 a,.mref 1000001,.mref 1000002,.int .i64 b,.mref 1000003,.mref 1000004] 0 0 v=some v)∧(∀ (a b:Int) v,du [.int .i64 a,.mref 1000001,.mref 1000002,.int .i64 b,.mref 1000003,.mref 1000004] 1 1 v=some v)∧(∀ (a b:Int) v,du [.int .i64 a,.mref 1000001,.mref 1000002,.int .i64 b,.mref 1000003,.mref 1000004] 2 2 v=some v)∧(∀ (a b:Int) v,du [.int .i64 a,.mref 1000001,.mref 1000002,.int .i64 b,.mref 1000003,.mref 1000004] 3 3 v=some v)∧(∀ (a b:Int) v,du [.int .i64 a,.mref 1000001,.mref 1000002,.int .i64 b,.mref 1000003,.mref 1000004] 4 4 v=some v)∧(∀ (a b:Int) v,du [.int .i64 a,.mref 1000001,.mref 1000002,.int .i64 b,.mref 1000003,.mref 1000004] 5 5 v=some v)∧(∀ a b c d e:I,(I.agg [a,.mref 1000001,b,c,d,e]).bA=false) :=
 ⟨fun _ _ _=>rfl,fun _ _ _=>rfl,fun _ _ _=>rfl,fun _ _ _=>rfl,fun _ _ _=>rfl,fun _ _ _=>rfl,fun a b c d e=>by simp[I.bA,I.cq]⟩
theorem FT(s:aC)(hk:cG s)(x:bg)(hy:x.aK∉s.here∧s.fh x.aK=false):cU Tryz.prog 125 [.ptr 1000000 [],enc x] (aM s) (mU { s with here:=gO s.here x.aK }):=by
 refine cU.cd Tryz.func125 Aa Ar Kt (u8 rfl) (u8 rfl) dz (fun hwf W0 bF E1 =>?_);simp only[uR,Dz,bJ,Z1];clear hwf;have n3:aj (aM s) 3=none:=eF (.inl (by omega)) fun i _=>by simp[bE];omega
 have aW:aj (aM s) 1000000=some (.box (.agg [.int .i64 s.au,.mref 1000001,.mref 1000002,.int .i64 s.all.length,.mref 1000003,.mref 1000004])):=fB;have J:aj (aM s) 1000001=some (.bz (s.here.map enc) (List.replicate s.here.length (.bool true))):=fU;have U:aj (aM s) 1000002=some (.bz (s.bp.map enc) (dT (bE 1000000) s.aQ)):=gf;have ah:aj (aM s) 1000003=some (.bz (s.dV.map enc) (s.bq.map enc)):=gh;have hfin:∀ ts,c4 (av ts ((3,.box (enc x))::aM s)) 9 (.agg [.int .i64 s.au,.mref 1000001,.mref 1000002,.int .i64 s.all.length,.mref 1000003,.mref 1000004])=some (fT s):=fun ts =>
  gS (gV (dI _) hk.cE fun n hn=>by have:=dz n hn;simp only[aj];rw[if_neg (by omega)]) 4
 have hlk:=gn eS x.aK s.here;rw[eC] at hlk;have q1:decide (x.aK∈s.here)=false:=decide_eq_false hy.1;have hF:=p6 s x.aK;rw[hy.2] at hF;have hup:=wP eS x.aK s.here;rw[eC] at hup;have R:=y6 @n3 (y6 @aW (y6 @J (y6 @hfin (y6 @hlk (y6 @q1 (y6 @hup (y6 @bB (y6 @bw aD))))))))
 repeat' ((first |(with_reducible refine .guard (fun hb =>?_) (fun hb =>?_) <;>try simp only[hb])|refine ae.aF (by decide +kernel) rfl fun K hK =>?_|refine .flat _ (hF) rfl ?_|refine .flat _ (kE) rfl ?_|(refine .ay [0,1,3] hK ?_;clear hK K)|(with_reducible refine .done (hK _ ?_);clear hK K)|refine ae.of rfl ?_|(with_reducible refine az.aE (fun h =>?_) (fun h =>?_) <;>try simp only[h])) <;>try simp only[aG,R,simprocAttr])
 all_goals clear R
 rw[mb];refine ma (fun n hn =>?_) (fun _ _ h=>iq (s := { s with here:=gO s.here x.aK }) ⟨hk.cE,hk.iF,nw hk.af⟩ h) ⟨rfl,rfl⟩;have:=dz n hn;simp only[aM,ec,aj];rw[if_neg (show ¬ n=3 by omega)]
 (repeat' split) <;>first | rfl | omega
theorem FU(s:aC)(hk:cG s)(x:bg)(hy:x.aK∈s.here∨s.fh x.aK=true):fi Tryz.prog 125 fD [.ptr 1000000 [],enc x] (aM s) (jV s):=by
 refine fi.mk Tryz.func125 Aa Ar (u8 rfl) (u8 rfl) dz (fun hwf W0 bF E1 =>?_);simp only[uR,bJ,Z1];clear hwf;have n3:aj (aM s) 3=none:=eF (.inl (by omega)) fun i _=>by simp[bE];omega
 have aW:aj (aM s) 1000000=some (.box (.agg [.int .i64 s.au,.mref 1000001,.mref 1000002,.int .i64 s.all.length,.mref 1000003,.mref 1000004])):=fB;have J:aj (aM s) 1000001=some (.bz (s.here.map enc) (List.replicate s.here.length (.bool true))):=fU;have U:aj (aM s) 1000002=some (.bz (s.bp.map enc) (dT (bE 1000000) s.aQ)):=gf;have ah:aj (aM s) 1000003=some (.bz (s.dV.map enc) (s.bq.map enc)):=gh;have hfin:∀ ts,c4 (av ts ((3,.box (enc x))::aM s)) 9 (.agg [.int .i64 s.au,.mref 1000001,.mref 1000002,.int .i64 s.all.length,.mref 1000003,.mref 1000004])=some (fT s):=fun ts =>
  gS (gV (dI _) hk.cE fun n hn=>by have:=dz n hn;simp only[aj];rw[if_neg (by omega)]) 4
 have hlk:=gn eS x.aK s.here;rw[eC] at hlk;have hF:=p6 s x.aK;rcases q1:decide (x.aK∈s.here)
 ·have q2:s.fh x.aK=true:=hy.resolve_left (by simpa using q1);rw[q2] at hF;have R:=y6 @n3 (y6 @aW (y6 @J (y6 @hfin (y6 @hlk (y6 @q1 (y6 @bB (y6 @bw aD)))))))
  repeat' ((first |(with_reducible refine .guard (fun hb =>?_) (fun hb =>?_) <;>try simp only[hb])|(refine ae.jw (gs:=qx) 15 [] [] [0,1,2,3,4,5,6,7,8,9,10,11,12,13,14] (by decide +kernel) rfl (cX.of (by simp[fw])) fun K hK =>?_;simp only[ff,qx,gx,Z5,zy5,List.take_zero,zz7,zz8,R,simprocAttr])|refine ae.aF (by decide +kernel) rfl fun K hK =>?_|refine .flat _ (hF) rfl ?_|(refine .ay [0,1,3] hK ?_;clear hK K)|(with_reducible refine .done (hK _ ?_);clear hK K)|refine ae.of rfl ?_|(with_reducible refine az.aE (fun h =>?_) (fun h =>?_) <;>try simp only[h])) <;>try simp only[aG,R,simprocAttr])
  all_goals clear R
  exact .call (ik (hs hk))
 ·have R:=y6 @n3 (y6 @aW (y6 @J (y6 @hfin (y6 @hlk (y6 @q1 (y6 @bB (y6 @bw aD)))))))
  repeat' ((first |(with_reducible refine .guard (fun hb =>?_) (fun hb =>?_) <;>try simp only[hb])|(refine ae.jw (gs:=qx) 15 [] [] [0,1,2,3,4,5,6,7,8,9,10,11,12,13,14] (by decide +kernel) rfl (cX.of (by simp[fw])) fun K hK =>?_;simp only[ff,qx,gx,Z5,zy5,List.take_zero,zz7,zz8,R,simprocAttr])|refine ae.aF (by decide +kernel) rfl fun K hK =>?_|refine .flat _ (hF) rfl ?_|(refine .ay [0,1,3] hK ?_;clear hK K)|(with_reducible refine .done (hK _ ?_);clear hK K)|refine ae.of rfl ?_|(with_reducible refine az.aE (fun h =>?_) (fun h =>?_) <;>try simp only[h])) <;>try simp only[aG,R,simprocAttr])
  all_goals clear R
  exact .call (ik (hs hk))
theorem FV(s:aC)(hk:cG s)(x:bg)(hy:x.aK∈s.here):cU Tryz.prog 126 [.ptr 1000000 [],enc x] (aM s) (mU { s with here:=s.here.erase x.aK }):=by
 refine cU.cd Tryz.func126 Ab As Ku (u8 rfl) (u8 rfl) dz (fun hwf W0 bF E1 =>?_);simp only[uS,DA,bJ,Z1];clear hwf;have n3:aj (aM s) 3=none:=eF (.inl (by omega)) fun i _=>by simp[bE];omega
 have aW:aj (aM s) 1000000=some (.box (.agg [.int .i64 s.au,.mref 1000001,.mref 1000002,.int .i64 s.all.length,.mref 1000003,.mref 1000004])):=fB;have J:aj (aM s) 1000001=some (.bz (s.here.map enc) (List.replicate s.here.length (.bool true))):=fU;have U:aj (aM s) 1000002=some (.bz (s.bp.map enc) (dT (bE 1000000) s.aQ)):=gf;have ah:aj (aM s) 1000003=some (.bz (s.dV.map enc) (s.bq.map enc)):=gh;have hfin:∀ ts,c4 (av ts ((3,.box (enc x))::aM s)) 9 (.agg [.int .i64 s.au,.mref 1000001,.mref 1000002,.int .i64 s.all.length,.mref 1000003,.mref 1000004])=some (fT s):=fun ts =>
  gS (gV (dI _) hk.cE fun n hn=>by have:=dz n hn;simp only[aj];rw[if_neg (by omega)]) 4
 have hlk:=gn eS x.aK s.here;rw[eC] at hlk;have q1:decide (x.aK∈s.here)=true:=decide_eq_true hy;have hdl:=CA hy;have R:=y6 @n3 (y6 @aW (y6 @J (y6 @hfin (y6 @hlk (y6 @q1 (y6 @hdl (y6 @bB (y6 @bw aD))))))))
 repeat' ((first |refine ae.aF (by decide +kernel) rfl fun K hK =>?_|refine .flat _ (kE) rfl ?_|(refine .ay [0,1,3] hK ?_;clear hK K)|(with_reducible refine .done (hK _ ?_);clear hK K)|refine ae.of rfl ?_|(with_reducible refine az.aE (fun h =>?_) (fun h =>?_) <;>try simp only[h])) <;>try simp only[aG,R,simprocAttr])
 all_goals clear R
 rw[mb];refine ma (fun n hn =>?_) (fun _ _ h=>iq (s := { s with here:=s.here.erase x.aK }) ⟨hk.cE,hk.iF,hk.af.erase _⟩ h) ⟨rfl,rfl⟩;have:=dz n hn;simp only[aM,ec,aj];rw[if_neg (show ¬ n=3 by omega)]
 (repeat' split) <;>first | rfl | omega
theorem FW(s:aC)(hk:cG s)(x:bg)(hy:x.aK∉s.here):fi Tryz.prog 126 fD [.ptr 1000000 [],enc x] (aM s) (jV s):=by
 refine fi.mk Tryz.func126 Ab As (u8 rfl) (u8 rfl) dz (fun hwf W0 bF E1 =>?_);simp only[uS,bJ,Z1];clear hwf;have n3:aj (aM s) 3=none:=eF (.inl (by omega)) fun i _=>by simp[bE];omega
 have aW:aj (aM s) 1000000=some (.box (.agg [.int .i64 s.au,.mref 1000001,.mref 1000002,.int .i64 s.all.length,.mref 1000003,.mref 1000004])):=fB;have J:aj (aM s) 1000001=some (.bz (s.here.map enc) (List.replicate s.here.length (.bool true))):=fU;have U:aj (aM s) 1000002=some (.bz (s.bp.map enc) (dT (bE 1000000) s.aQ)):=gf;have ah:aj (aM s) 1000003=some (.bz (s.dV.map enc) (s.bq.map enc)):=gh;have hfin:∀ ts,c4 (av ts ((3,.box (enc x))::aM s)) 9 (.agg [.int .i64 s.au,.mref 1000001,.mref 1000002,.int .i64 s.all.length,.mref 1000003,.mref 1000004])=some (fT s):=fun ts =>
  gS (gV (dI _) hk.cE fun n hn=>by have:=dz n hn;simp only[aj];rw[if_neg (by omega)]) 4
 have hlk:=gn eS x.aK s.here;rw[eC] at hlk;have q1:decide (x.aK∈s.here)=false:=decide_eq_false hy;have R:=y6 @n3 (y6 @aW (y6 @J (y6 @hfin (y6 @hlk (y6 @q1 (y6 @bB (y6 @bw aD)))))))
 repeat' ((first |(refine ae.jw (gs:=vU) 7 [] [] [0,1,2,3,4,5,6] (by decide +kernel) rfl (cX.of (by simp[fw])) fun K hK =>?_;simp only[ff,vU,gx,Z5,zy5,List.take_zero,zz7,zz8,R,simprocAttr])|refine ae.aF (by decide +kernel) rfl fun K hK =>?_|(refine .ay [0,1,3] hK ?_;clear hK K)|(with_reducible refine .done (hK _ ?_);clear hK K)|refine ae.of rfl ?_|(with_reducible refine az.aE (fun h =>?_) (fun h =>?_) <;>try simp only[h])) <;>try simp only[aG,R,simprocAttr])
 all_goals clear R
 exact .call (ik (hs hk))
def Dc(s:aC)(i:Nat):cK:=fun r os'=>r=.ptr (bE 1000000 i) []∧os'=aM s
theorem jR:(∀ i,(3=bE 1000000 i)=False)∧(∀ i,(bE 1000000 i=3)=False):=⟨fun i=>by simp[bE];omega,fun i=>by simp[bE];omega⟩
theorem pZ(s:aC)(hk:cG s)(x:bg)(i:Nat)(hy:s.on x=some i):cU Tryz.prog 151 [.ptr 1000000 [],enc x] (aM s) (Dc s i):=by
 refine cU.cd Tryz.func151 Ai AA KD (u8 rfl) (u8 rfl) dz (fun hwf W0 bF E1 =>?_);simp only[uZ,DJ,bJ,Z1];clear hwf;have n3:aj (aM s) 3=none:=eF (.inl (by omega)) fun i _=>by simp[bE];omega
 have aW:aj (aM s) 1000000=some (.box (.agg [.int .i64 s.au,.mref 1000001,.mref 1000002,.int .i64 s.all.length,.mref 1000003,.mref 1000004])):=fB;have J:aj (aM s) 1000001=some (.bz (s.here.map enc) (List.replicate s.here.length (.bool true))):=fU;have U:aj (aM s) 1000002=some (.bz (s.bp.map enc) (dT (bE 1000000) s.aQ)):=gf;have ah:aj (aM s) 1000003=some (.bz (s.dV.map enc) (s.bq.map enc)):=gh;have hfin:∀ ts,c4 (av ts ((3,.box (enc x))::aM s)) 9 (.agg [.int .i64 s.au,.mref 1000001,.mref 1000002,.int .i64 s.all.length,.mref 1000003,.mref 1000004])=some (fT s):=fun ts =>
  gS (gV (dI _) hk.cE fun n hn=>by have:=dz n hn;simp only[aj];rw[if_neg (by omega)]) 4
 have hlk:=gn eS x.aK s.here;rw[eC] at hlk;obtain ⟨ha,hb1,hb2⟩:=pE hy;have hil:=(jj ha).1;have hlt:=hk.cE i hil;have hlr:=wB (s:=s) (fun i=>.ptr (bE 1000000 i) []) x.no;have hpt:(s.aQ.map fun i=>I.ptr (bE 1000000 i) [])=dT (bE 1000000) s.aQ:=rfl;rw[hpt] at hlr;rw[ha] at hlr;simp only at hlr;have hb:aj (aM s) (bE 1000000 i)=some (.box (enc (s.b9 i))):=by
  have:=jg (dI s.all.length) (B:=1000000) hlt;rw[this];simp[aC.b9,Z0,hlt]
 have q1:((s.b9 i).to==x.other)=true:=by simpa using hb1
 have q2:((s.b9 i).aK==x.aK)=true:=by simpa using hb2
 have R:=y6 @n3 (y6 @aW (y6 @U (y6 @hb (y6 @hlr (y6 @q1 (y6 @q2 (y6 @jR (y6 @bB (y6 @bw aD)))))))))
 repeat' ((first |(with_reducible refine .guard (fun hb =>?_) (fun hb =>?_) <;>try simp only[hb])|refine ae.aF (by decide +kernel) rfl fun K hK =>?_|refine .flat _ (kE) rfl ?_|(refine .ay [0,1,3,4,5,6] hK ?_;clear hK K)|(with_reducible refine .done (hK _ ?_);clear hK K)|refine ae.of rfl ?_|(with_reducible refine az.aE (fun h =>?_) (fun h =>?_) <;>try simp only[h])) <;>try simp only[aG,R,simprocAttr])
 all_goals clear R
 refine ⟨aM s,[.ptr (bE 1000000 i) []],fun n y hy=>⟨?_,iq hk hy⟩,⟨⟨_,rfl,.inl ⟨rfl,rfl,?_⟩⟩,trivial⟩,rfl,rfl⟩
 ·have:=dz (s:=s) n (by simp[aw,hy])
  show aj ((3,_)::aM s) n=_
  simp only[aj];rw[if_neg (by omega)];exact hy
 ·exact (dN (dI _)).2 (.inr ⟨i,hlt,rfl⟩)
theorem F7(s:aC)(hk:cG s)(x:bg)(hy:s.on x=none):fi Tryz.prog 151 fD [.ptr 1000000 [],enc x] (aM s) (jV s):=by
 refine fi.mk Tryz.func151 Ai AA (u8 rfl) (u8 rfl) dz (fun hwf W0 bF E1 =>?_);simp only[uZ,bJ,Z1];clear hwf;have n3:aj (aM s) 3=none:=eF (.inl (by omega)) fun i _=>by simp[bE];omega
 have aW:aj (aM s) 1000000=some (.box (.agg [.int .i64 s.au,.mref 1000001,.mref 1000002,.int .i64 s.all.length,.mref 1000003,.mref 1000004])):=fB;have J:aj (aM s) 1000001=some (.bz (s.here.map enc) (List.replicate s.here.length (.bool true))):=fU;have U:aj (aM s) 1000002=some (.bz (s.bp.map enc) (dT (bE 1000000) s.aQ)):=gf;have ah:aj (aM s) 1000003=some (.bz (s.dV.map enc) (s.bq.map enc)):=gh;have hfin:∀ ts,c4 (av ts ((3,.box (enc x))::aM s)) 9 (.agg [.int .i64 s.au,.mref 1000001,.mref 1000002,.int .i64 s.all.length,.mref 1000003,.mref 1000004])=some (fT s):=fun ts =>
  gS (gV (dI _) hk.cE fun n hn=>by have:=dz n hn;simp only[aj];rw[if_neg (by omega)]) 4
 have hlk:=gn eS x.aK s.here;rw[eC] at hlk;have hlr:=wB (s:=s) (fun i=>.ptr (bE 1000000 i) []) x.no;have hpt:(s.aQ.map fun i=>I.ptr (bE 1000000 i) [])=dT (bE 1000000) s.aQ:=rfl;rw[hpt] at hlr;cases ha:s.at x.no with
 |none =>
  rw[ha] at hlr;simp only at hlr;have R:=y6 @n3 (y6 @aW (y6 @U (y6 @hlr (y6 @jR (y6 @bB (y6 @bw aD))))))
  repeat' ((first |(with_reducible refine .guard (fun hb =>?_) (fun hb =>?_) <;>try simp only[hb])|(refine ae.jw (gs:=nL) 19 [] [] [0,1,2,3,4,5,6,7,8,9,10,11,12,13,14,15,16,17,18] (by decide +kernel) rfl (cX.of (by simp[fw])) fun K hK =>?_;simp only[ff,nL,gx,Z5,zy5,List.take_zero,zz7,zz8,R,simprocAttr])|refine ae.aF (by decide +kernel) rfl fun K hK =>?_|(refine .ay [0,1,3,4,5,6] hK ?_;clear hK K)|(with_reducible refine .done (hK _ ?_);clear hK K)|refine ae.of rfl ?_|(with_reducible refine az.aE (fun h =>?_) (fun h =>?_) <;>try simp only[h])) <;>try simp only[aG,R,simprocAttr])
  all_goals clear R
  exact .call (ik (hs hk))
 |some i =>
  have hil:=(jj ha).1;have hlt:=hk.cE i hil;rw[ha] at hlr;simp only at hlr;have hb:aj (aM s) (bE 1000000 i)=some (.box (enc (s.b9 i))):=by
   have:=jg (dI s.all.length) (B:=1000000) hlt;rw[this];simp[aC.b9,Z0,hlt]
  rcases q1:((s.b9 i).to==x.other)
  ·have R:=y6 @n3 (y6 @aW (y6 @U (y6 @hb (y6 @hlr (y6 @q1 (y6 @jR (y6 @bB (y6 @bw aD))))))))
   repeat' ((first |(with_reducible refine .guard (fun hb =>?_) (fun hb =>?_) <;>try simp only[hb])|(refine ae.jw (gs:=nL) 19 [] [] [0,1,2,3,4,5,6,7,8,9,10,11,12,13,14,15,16,17,18] (by decide +kernel) rfl (cX.of (by simp[fw])) fun K hK =>?_;simp only[ff,nL,gx,Z5,zy5,List.take_zero,zz7,zz8,R,simprocAttr])|refine ae.aF (by decide +kernel) rfl fun K hK =>?_|(refine .ay [0,1,3,4,5,6] hK ?_;clear hK K)|(with_reducible refine .done (hK _ ?_);clear hK K)|refine ae.of rfl ?_|(with_reducible refine az.aE (fun h =>?_) (fun h =>?_) <;>try simp only[h])) <;>try simp only[aG,R,simprocAttr])
   all_goals clear R
   exact .call (ik (hs hk))
  ·have q2:((s.b9 i).aK==x.aK)=false:=by
    simp only[aC.on,ha] at hy;split at hy
    ·cases hy
    ·rename_i h;simp only[beq_iff_eq] at q1;simp only[beq_eq_false_iff_ne,ne_eq];exact fun e=>h ⟨q1,e⟩
   have R:=y6 @n3 (y6 @aW (y6 @U (y6 @hb (y6 @hlr (y6 @q1 (y6 @q2 (y6 @jR (y6 @bB (y6 @bw aD)))))))))
   repeat' ((first |(with_reducible refine .guard (fun hb =>?_) (fun hb =>?_) <;>try simp only[hb])|(refine ae.jw (gs:=nL) 19 [] [] [0,1,2,3,4,5,6,7,8,9,10,11,12,13,14,15,16,17,18] (by decide +kernel) rfl (cX.of (by simp[fw])) fun K hK =>?_;simp only[ff,nL,gx,Z5,zy5,List.take_zero,zz7,zz8,R,simprocAttr])|refine ae.aF (by decide +kernel) rfl fun K hK =>?_|(refine .ay [0,1,3,4,5,6] hK ?_;clear hK K)|(with_reducible refine .done (hK _ ?_);clear hK K)|refine ae.of rfl ?_|(with_reducible refine az.aE (fun h =>?_) (fun h =>?_) <;>try simp only[h])) <;>try simp only[aG,R,simprocAttr])
   all_goals clear R
   exact .call (ik (hs hk))
theorem yH{ts:List (Nat×I)}{s:aC}{z:ao} : av ts (aM s++((3,z)::aM s))=av ts ((3,z)::aM s):=by
 simp only[av,ai.mk.injEq,true_and]
 funext n
 rw[fK];cases h:aj (aM s) n with
 |none=>rfl
 |some y =>
  have:=dz (s:=s) n (by simp[aw,h]);simp only[aj];rw[if_neg (by omega),h]
theorem BY{s:aC}(hk:cG s){z:ao} : gl [] (aM s) ((3,z)::aM s):=by
 refine ⟨fun m y hy=>⟨?_,iq hk hy⟩,fun m m' _ _ h=>h⟩;have hm:=dz (s:=s) m (by simp[aw,hy]);rw[ao.kp (ρ:=bI []) (fun n=>rfl)]
 show aj ((3,z)::aM s) m=some y
 simp only[aj];rw[if_neg (by omega)];exact hy
theorem uO{s:aC}(hk:cG s){os0:List (Nat×ao)}{r:I}(hr:r.only (aw (aM s))=true):gE false [] (aM s) os0 r (aM s) :=
 ⟨fun _ _ hy=>⟨(iq hk hy).1,(iq hk hy).2,fun h=>by cases h⟩,fun m m' _ _ h=>h,fun m hm=>hm,(fun m a b=>by rw[a] at b;cases b),hr,(fun h=>by cases h)⟩
theorem sq{s:aC}{x:bg}{A:ai} : gP false A [] (aM s) [.ptr 1000000 [],enc x] [.ptr 1000000 [],enc x] :=
 ⟨.inl ⟨rfl,(dN (dI _)).2 (.inl (by omega)),rfl⟩,.inl ⟨(kR _ _).symm,b7 _ _,ef _⟩,trivial⟩
theorem aR.rI{K:ai→Prop}{s:aC}{x:bg}{i:Nat}{avs:List I}{a1 a2:Option (List I)}{dst:Option Nat}{rest:List aH}{ts:List (Nat×I)}{z:ao}(hk:cG s)(hil:i<s.all.length)(hc:cU Tryz.prog 151 [.ptr 1000000 [],enc x] (aM s) (Dc s i))(hav:avs=[.ptr 1000000 [],enc x])
  (h:aR Tryz.prog dx false K (aB rest ((av ts ((3,z)::aM s)).aS dst (.ptr (bE 1000000 i) [])))):aR Tryz.prog dx false K (.call 151 avs a1 a2 dst rest (av ts ((3,z)::aM s))):=by
 subst hav;refine .bP false [] (aM s) [.ptr 1000000 [],enc x] _ rfl hc (BY hk) sq ?_ ?_
 ·rintro r os' ⟨rfl,rfl⟩;exact uO hk ((dN (dI _)).2 (.inr ⟨i,hil,rfl⟩))
 ·rintro r os' ⟨rfl,rfl⟩;rw[l7,yH];exact h
theorem xb{Q:Exit→ai→Prop}{s:aC}(hk:cG s){x:bg}(hy:s.on x=none){ts:List (Nat×I)}{z:ao}(hq:Q (.panic fD) (av ts ((3,z)::aM s))):nv Tryz.prog Q 151 [.ptr 1000000 [],enc x] (av ts ((3,z)::aM s)) :=
 .mk false [] (aM s) [.ptr 1000000 [],enc x] fD _ (F7 s hk x hy) (BY hk) sq (fun os' h=>by cases h;exact uO hk rfl) (fun os' h=>by cases h;rw[l7,yH];exact hq)
theorem F0(s:aC)(hk:cG s)(x:bg)(i:Nat)(hy:s.on x=some i):cU Tryz.prog 129 [.ptr 1000000 [],enc x] (aM s) (mU { s with aQ:=s.aQ.erase i }):=by
 refine cU.cd Tryz.func129 Ae Aw Ky (u8 rfl) (u8 rfl) dz (fun hwf W0 bF E1 =>?_);simp only[uV,DE,bJ,Z1];clear hwf;have n3:aj (aM s) 3=none:=eF (.inl (by omega)) fun i _=>by simp[bE];omega
 have aW:aj (aM s) 1000000=some (.box (.agg [.int .i64 s.au,.mref 1000001,.mref 1000002,.int .i64 s.all.length,.mref 1000003,.mref 1000004])):=fB;have J:aj (aM s) 1000001=some (.bz (s.here.map enc) (List.replicate s.here.length (.bool true))):=fU;have U:aj (aM s) 1000002=some (.bz (s.bp.map enc) (dT (bE 1000000) s.aQ)):=gf;have ah:aj (aM s) 1000003=some (.bz (s.dV.map enc) (s.bq.map enc)):=gh;have hfin:∀ ts,c4 (av ts ((3,.box (enc x))::aM s)) 9 (.agg [.int .i64 s.au,.mref 1000001,.mref 1000002,.int .i64 s.all.length,.mref 1000003,.mref 1000004])=some (fT s):=fun ts =>
  gS (gV (dI _) hk.cE fun n hn=>by have:=dz n hn;simp only[aj];rw[if_neg (by omega)]) 4
 have hlk:=gn eS x.aK s.here;rw[eC] at hlk;obtain ⟨ha,hb1,hb2⟩:=pE hy;have hil:=(jj ha).1;have hno:=(jj ha).2;have hlt:=hk.cE i hil;have hb:aj (aM s) (bE 1000000 i)=some (.box (enc (s.b9 i))):=by
  have:=jg (dI s.all.length) (B:=1000000) hlt;rw[this];simp[aC.b9,Z0,hlt]
 have hdl:=CB (s:=s) (fun i=>.ptr (bE 1000000 i) []) hil;rw[←hno] at hdl;have hpt:(s.aQ.map fun i=>I.ptr (bE 1000000 i) [])=dT (bE 1000000) s.aQ:=rfl;rw[hpt] at hdl;have R:=y6 @n3 (y6 @aW (y6 @U (y6 @hb (y6 @hdl (y6 @jR (y6 @bB (y6 @bw aD)))))))
 repeat' ((first |refine ae.aF (by decide +kernel) rfl fun K hK =>?_|refine aR.rI hk hlt (pZ s hk x i hy) rfl ?_|(refine .ay [0,1,3] hK ?_;clear hK K)|(with_reducible refine .done (hK _ ?_);clear hK K)|refine ae.of rfl ?_|(with_reducible refine az.aE (fun h =>?_) (fun h =>?_) <;>try simp only[h])) <;>try simp only[aG,R,simprocAttr])
 all_goals clear R
 rw[mb];refine ma (fun n hn =>?_) (fun _ _ h=>iq (s := { s with aQ:=s.aQ.erase i }) ⟨fun j hj=>hk.cE j (List.mem_of_mem_erase hj),hk.iF.erase _,hk.af⟩ h) ⟨rfl,rfl⟩;have:=dz n hn;simp only[aM,ec,aj];rw[if_neg (show ¬ n=3 by omega)]
 (repeat' split) <;>first | rfl | omega
theorem F1(s:aC)(hk:cG s)(x:bg)(hy:s.on x=none):fi Tryz.prog 129 fD [.ptr 1000000 [],enc x] (aM s) (jV s):=by
 refine fi.mk Tryz.func129 Ae Aw (u8 rfl) (u8 rfl) dz (fun hwf W0 bF E1 =>?_);simp only[uV,bJ,Z1];clear hwf;have n3:aj (aM s) 3=none:=eF (.inl (by omega)) fun i _=>by simp[bE];omega
 have aW:aj (aM s) 1000000=some (.box (.agg [.int .i64 s.au,.mref 1000001,.mref 1000002,.int .i64 s.all.length,.mref 1000003,.mref 1000004])):=fB;have J:aj (aM s) 1000001=some (.bz (s.here.map enc) (List.replicate s.here.length (.bool true))):=fU;have U:aj (aM s) 1000002=some (.bz (s.bp.map enc) (dT (bE 1000000) s.aQ)):=gf;have ah:aj (aM s) 1000003=some (.bz (s.dV.map enc) (s.bq.map enc)):=gh;have hfin:∀ ts,c4 (av ts ((3,.box (enc x))::aM s)) 9 (.agg [.int .i64 s.au,.mref 1000001,.mref 1000002,.int .i64 s.all.length,.mref 1000003,.mref 1000004])=some (fT s):=fun ts =>
  gS (gV (dI _) hk.cE fun n hn=>by have:=dz n hn;simp only[aj];rw[if_neg (by omega)]) 4
 have hlk:=gn eS x.aK s.here;rw[eC] at hlk;have R:=y6 @n3 (y6 @aW (y6 @U (y6 @jR (y6 @bB (y6 @bw aD)))))
 repeat' ((first |(refine ae.od (gs:=Bu) (gs1:=[_,_]) rfl fun K hK =>?_)|refine ae.aF (by decide +kernel) rfl fun K hK =>?_|(refine .ay [0,1,3] hK ?_;clear hK K)|(with_reducible refine .done (hK _ ?_);clear hK K)|refine ae.of rfl ?_|(with_reducible refine az.aE (fun h =>?_) (fun h =>?_) <;>try simp only[h])) <;>try simp only[aG,R,simprocAttr])
 all_goals clear R
 exact .call (xb hk hy (hs hk))
theorem I6{s:aC}{i:Nat}(hlt:i<s.all.length)(r:cC){z:ao} : ∀ n,1000000≤n→aj ((bE 1000000 i,.box (enc r))::(3,z)::aM s) n=aj (aM { s with all:=s.all.set i r }) n:=by
 intro n hn;have hlen:(s.all.set i r).length=s.all.length:=List.length_set;simp only[aj];rw[if_neg (show ¬ n=3 by omega)];rcases xS 1000000 (bE 1000000) s.all.length n with h | h | h | h | h | ⟨h,j,hj,e⟩ | ⟨h,hno⟩
 ·subst h;rw[if_neg (by simp[bE];omega)];simp only[aM,fB,hlen]
 ·subst h;rw[if_neg (by simp[bE];omega)];simp only[aM,fU]
 ·subst h;rw[if_neg (by simp[bE];omega)];simp only[aM,gf];rfl
 ·subst h;rw[if_neg (by simp[bE];omega)];simp only[aM,gh];rfl
 ·subst h;rw[if_neg (by simp[bE];omega)];simp only[aM,oA]
 ·subst e;have J:=jg (B:=1000000) (ν:=bE 1000000) (s:=s) (dI _) hj;have U:=jg (B:=1000000) (ν:=bE 1000000) (s := { s with all:=s.all.set i r }) (dI _) (i:=j) (by simpa using hj);simp only[aM,J,U];by_cases e:j=i
  ·subst e;simp
  ·have:¬ bE 1000000 j=bE 1000000 i:=by simp[bE];omega
   rw[if_neg this];simp[Ne.symm e]
 ·have J:=eF (B:=1000000) (ν:=bE 1000000) (s:=s) h hno;have U:=eF (B:=1000000) (ν:=bE 1000000) (s := { s with all:=s.all.set i r }) h (by simpa using hno);simp only[aM,J,U];rw[if_neg (hno i hlt)]
theorem FZ(s:aC)(hk:cG s)(x:bg)(i:Nat)(hy:s.on x=some i)(hc:(s.b9 i).dD=false):cU Tryz.prog 128 [.ptr 1000000 [],enc x] (aM s) (mU { s with all:=s.all.set i { s.b9 i with dD:=true } }):=by
 refine cU.cd Tryz.func128 Ad Av Kx (u8 rfl) (u8 rfl) dz (fun hwf W0 bF E1 =>?_);simp only[uU,DC,bJ,Z1];clear hwf;have n3:aj (aM s) 3=none:=eF (.inl (by omega)) fun i _=>by simp[bE];omega
 have aW:aj (aM s) 1000000=some (.box (.agg [.int .i64 s.au,.mref 1000001,.mref 1000002,.int .i64 s.all.length,.mref 1000003,.mref 1000004])):=fB;have J:aj (aM s) 1000001=some (.bz (s.here.map enc) (List.replicate s.here.length (.bool true))):=fU;have U:aj (aM s) 1000002=some (.bz (s.bp.map enc) (dT (bE 1000000) s.aQ)):=gf;have ah:aj (aM s) 1000003=some (.bz (s.dV.map enc) (s.bq.map enc)):=gh;have hfin:∀ ts,c4 (av ts ((3,.box (enc x))::aM s)) 9 (.agg [.int .i64 s.au,.mref 1000001,.mref 1000002,.int .i64 s.all.length,.mref 1000003,.mref 1000004])=some (fT s):=fun ts =>
  gS (gV (dI _) hk.cE fun n hn=>by have:=dz n hn;simp only[aj];rw[if_neg (by omega)]) 4
 have hlk:=gn eS x.aK s.here;rw[eC] at hlk;obtain ⟨ha,hb1,hb2⟩:=pE hy;have hil:=(jj ha).1;have hno:=(jj ha).2;have hlt:=hk.cE i hil;have hb:aj (aM s) (bE 1000000 i)=some (.box (enc (s.b9 i))):=by
  have:=jg (dI s.all.length) (B:=1000000) hlt;rw[this];simp[aC.b9,Z0,hlt]
 have hst:∀ A rest,de A none (bE 1000000 i) [3] (enc (s.b9 i)) (.bool true) rest (some (.bool false))=aB rest (A.aT (bE 1000000 i) (.box (enc { s.b9 i with dD:=true }))):=fun A rest=>dG rfl rfl rfl;have R:=y6 @n3 (y6 @aW (y6 @U (y6 @hb (y6 @hc (y6 @hst (y6 @jR (y6 @bB (y6 @bw aD))))))))
 repeat' ((first |refine ae.aF (by decide +kernel) rfl fun K hK =>?_|refine aR.rI hk hlt (pZ s hk x i hy) rfl ?_|refine .flat _ (kE) rfl ?_|(refine .ay [0,1,3,4] hK ?_;clear hK K)|(with_reducible refine .done (hK _ ?_);clear hK K)|refine ae.of rfl ?_|(with_reducible refine az.aE (fun h =>?_) (fun h =>?_) <;>try simp only[h])) <;>try simp only[aG,R,simprocAttr])
 all_goals clear R
 rw[mb];exact ma (fun n hn=>I6 hlt _ n (dz n hn)) (fun _ _ h=>iq (s := { s with all:=s.all.set i { s.b9 i with dD:=true } }) ⟨fun j hj=>by simpa using hk.cE j hj,hk.iF,hk.af⟩ h) ⟨rfl,rfl⟩
theorem x3(s:aC)(hk:cG s)(x:bg)(hy:∀ i,s.on x=some i→(s.b9 i).dD=true):fi Tryz.prog 128 fD [.ptr 1000000 [],enc x] (aM s) (jV s):=by
 refine fi.mk Tryz.func128 Ad Av (u8 rfl) (u8 rfl) dz (fun hwf W0 bF E1 =>?_);simp only[uU,bJ,Z1];clear hwf;have n3:aj (aM s) 3=none:=eF (.inl (by omega)) fun i _=>by simp[bE];omega
 have aW:aj (aM s) 1000000=some (.box (.agg [.int .i64 s.au,.mref 1000001,.mref 1000002,.int .i64 s.all.length,.mref 1000003,.mref 1000004])):=fB;have J:aj (aM s) 1000001=some (.bz (s.here.map enc) (List.replicate s.here.length (.bool true))):=fU;have U:aj (aM s) 1000002=some (.bz (s.bp.map enc) (dT (bE 1000000) s.aQ)):=gf;have ah:aj (aM s) 1000003=some (.bz (s.dV.map enc) (s.bq.map enc)):=gh;have hfin:∀ ts,c4 (av ts ((3,.box (enc x))::aM s)) 9 (.agg [.int .i64 s.au,.mref 1000001,.mref 1000002,.int .i64 s.all.length,.mref 1000003,.mref 1000004])=some (fT s):=fun ts =>
  gS (gV (dI _) hk.cE fun n hn=>by have:=dz n hn;simp only[aj];rw[if_neg (by omega)]) 4
 have hlk:=gn eS x.aK s.here;rw[eC] at hlk;cases hy2:s.on x with
 |none =>
  have R:=y6 @n3 (y6 @aW (y6 @U (y6 @jR (y6 @bB (y6 @bw aD)))))
  repeat' ((first |(refine ae.od (gs:=Br) (gs1:=[_,_]) rfl fun K hK =>?_)|refine ae.aF (by decide +kernel) rfl fun K hK =>?_|(refine .ay [0,1,3,4] hK ?_;clear hK K)|(with_reducible refine .done (hK _ ?_);clear hK K)|refine ae.of rfl ?_|(with_reducible refine az.aE (fun h =>?_) (fun h =>?_) <;>try simp only[h])) <;>try simp only[aG,R,simprocAttr])
  all_goals clear R
  exact .call (xb hk hy2 (hs hk))
 |some i =>
  have hc:=hy i hy2;have hy:=hy2;obtain ⟨ha,hb1,hb2⟩:=pE hy;have hil:=(jj ha).1;have hno:=(jj ha).2;have hlt:=hk.cE i hil;have hb:aj (aM s) (bE 1000000 i)=some (.box (enc (s.b9 i))):=by
   have:=jg (dI s.all.length) (B:=1000000) hlt;rw[this];simp[aC.b9,Z0,hlt]
  have R:=y6 @n3 (y6 @aW (y6 @U (y6 @hb (y6 @hc (y6 @jR (y6 @bB (y6 @bw aD)))))))
  repeat' ((first |(refine ae.od (gs:=Bt) (gs1:=[_,_,_,_,_]) rfl fun K hK =>?_)|refine ae.aF (by decide +kernel) rfl fun K hK =>?_|refine aR.rI hk hlt (pZ s hk x i hy) rfl ?_|(refine .ay [0,1,3,4] hK ?_;clear hK K)|(with_reducible refine .done (hK _ ?_);clear hK K)|refine ae.of rfl ?_|(with_reducible refine az.aE (fun h =>?_) (fun h =>?_) <;>try simp only[h])) <;>try simp only[aG,R,simprocAttr])
  all_goals clear R
  exact .call (ik (hs hk))
theorem F2(s:aC)(hk:cG s)(x:bg)(i:Nat)(hy:s.on x=some i)(hc:(s.b9 i).dD=true):cU Tryz.prog 130 [.ptr 1000000 [],enc x] (aM s) (mU { s with aQ:=s.aQ.erase i,here:=gO s.here x.aK }):=by
 refine cU.cd Tryz.func130 Af Ax Kz (u8 rfl) (u8 rfl) dz (fun hwf W0 bF E1 =>?_);simp only[uW,DF,bJ,Z1];clear hwf;have n3:aj (aM s) 3=none:=eF (.inl (by omega)) fun i _=>by simp[bE];omega
 have aW:aj (aM s) 1000000=some (.box (.agg [.int .i64 s.au,.mref 1000001,.mref 1000002,.int .i64 s.all.length,.mref 1000003,.mref 1000004])):=fB;have J:aj (aM s) 1000001=some (.bz (s.here.map enc) (List.replicate s.here.length (.bool true))):=fU;have U:aj (aM s) 1000002=some (.bz (s.bp.map enc) (dT (bE 1000000) s.aQ)):=gf;have ah:aj (aM s) 1000003=some (.bz (s.dV.map enc) (s.bq.map enc)):=gh;have hfin:∀ ts,c4 (av ts ((3,.box (enc x))::aM s)) 9 (.agg [.int .i64 s.au,.mref 1000001,.mref 1000002,.int .i64 s.all.length,.mref 1000003,.mref 1000004])=some (fT s):=fun ts =>
  gS (gV (dI _) hk.cE fun n hn=>by have:=dz n hn;simp only[aj];rw[if_neg (by omega)]) 4
 have hlk:=gn eS x.aK s.here;rw[eC] at hlk;obtain ⟨ha,hb1,hb2⟩:=pE hy;have hil:=(jj ha).1;have hno:=(jj ha).2;have hlt:=hk.cE i hil;have hb:aj (aM s) (bE 1000000 i)=some (.box (enc (s.b9 i))):=by
  have:=jg (dI s.all.length) (B:=1000000) hlt;rw[this];simp[aC.b9,Z0,hlt]
 have hdl:=CB (s:=s) (fun i=>.ptr (bE 1000000 i) []) hil;rw[←hno] at hdl;have hpt:(s.aQ.map fun i=>I.ptr (bE 1000000 i) [])=dT (bE 1000000) s.aQ:=rfl;rw[hpt] at hdl;have hup:=wP eS x.aK s.here;rw[eC] at hup;have R:=y6 @n3 (y6 @aW (y6 @J (y6 @U (y6 @hb (y6 @hc (y6 @hdl (y6 @hup (y6 @jR (y6 @bB (y6 @bw aD))))))))))
 repeat' ((first |refine ae.aF (by decide +kernel) rfl fun K hK =>?_|refine aR.rI hk hlt (pZ s hk x i hy) rfl ?_|refine .flat _ (kE) rfl ?_|(refine .ay [0,1,3] hK ?_;clear hK K)|(with_reducible refine .done (hK _ ?_);clear hK K)|refine ae.of rfl ?_|(with_reducible refine az.aE (fun h =>?_) (fun h =>?_) <;>try simp only[h])) <;>try simp only[aG,R,simprocAttr])
 all_goals clear R
 rw[mb];refine ma (fun n hn =>?_) (fun _ _ h=>iq (s := { s with aQ:=s.aQ.erase i,here:=gO s.here x.aK }) ⟨fun j hj=>hk.cE j (List.mem_of_mem_erase hj),hk.iF.erase _,nw hk.af⟩ h) ⟨rfl,rfl⟩;have:=dz n hn;simp only[aM,ec,aj];rw[if_neg (show ¬ n=3 by omega)]
 (repeat' split) <;>first | rfl | omega
theorem x4(s:aC)(hk:cG s)(x:bg)(hy:∀ i,s.on x=some i→(s.b9 i).dD=false):fi Tryz.prog 130 fD [.ptr 1000000 [],enc x] (aM s) (jV s):=by
 refine fi.mk Tryz.func130 Af Ax (u8 rfl) (u8 rfl) dz (fun hwf W0 bF E1 =>?_);simp only[uW,bJ,Z1];clear hwf;have n3:aj (aM s) 3=none:=eF (.inl (by omega)) fun i _=>by simp[bE];omega
 have aW:aj (aM s) 1000000=some (.box (.agg [.int .i64 s.au,.mref 1000001,.mref 1000002,.int .i64 s.all.length,.mref 1000003,.mref 1000004])):=fB;have J:aj (aM s) 1000001=some (.bz (s.here.map enc) (List.replicate s.here.length (.bool true))):=fU;have U:aj (aM s) 1000002=some (.bz (s.bp.map enc) (dT (bE 1000000) s.aQ)):=gf;have ah:aj (aM s) 1000003=some (.bz (s.dV.map enc) (s.bq.map enc)):=gh;have hfin:∀ ts,c4 (av ts ((3,.box (enc x))::aM s)) 9 (.agg [.int .i64 s.au,.mref 1000001,.mref 1000002,.int .i64 s.all.length,.mref 1000003,.mref 1000004])=some (fT s):=fun ts =>
  gS (gV (dI _) hk.cE fun n hn=>by have:=dz n hn;simp only[aj];rw[if_neg (by omega)]) 4
 have hlk:=gn eS x.aK s.here;rw[eC] at hlk;cases hy2:s.on x with
 |none =>
  have R:=y6 @n3 (y6 @aW (y6 @U (y6 @jR (y6 @bB (y6 @bw aD)))))
  repeat' ((first |(refine ae.od (gs:=vV) (gs1:=[_,_]) rfl fun K hK =>?_)|refine ae.aF (by decide +kernel) rfl fun K hK =>?_|(refine .ay [0,1,3] hK ?_;clear hK K)|(with_reducible refine .done (hK _ ?_);clear hK K)|refine ae.of rfl ?_|(with_reducible refine az.aE (fun h =>?_) (fun h =>?_) <;>try simp only[h])) <;>try simp only[aG,R,simprocAttr])
  all_goals clear R
  exact .call (xb hk hy2 (hs hk))
 |some i =>
  have hc:=hy i hy2;have hy:=hy2;obtain ⟨ha,hb1,hb2⟩:=pE hy;have hil:=(jj ha).1;have hno:=(jj ha).2;have hlt:=hk.cE i hil;have hb:aj (aM s) (bE 1000000 i)=some (.box (enc (s.b9 i))):=by
   have:=jg (dI s.all.length) (B:=1000000) hlt;rw[this];simp[aC.b9,Z0,hlt]
  have R:=y6 @n3 (y6 @aW (y6 @U (y6 @hb (y6 @hc (y6 @jR (y6 @bB (y6 @bw aD)))))))
  repeat' ((first |(refine ae.od (gs:=vV) (gs1:=[_,_,_,_,_,_]) rfl fun K hK =>?_)|refine ae.aF (by decide +kernel) rfl fun K hK =>?_|refine aR.rI hk hlt (pZ s hk x i hy) rfl ?_|(refine .ay [0,1,3] hK ?_;clear hK K)|(with_reducible refine .done (hK _ ?_);clear hK K)|refine ae.of rfl ?_|(with_reducible refine az.aE (fun h =>?_) (fun h =>?_) <;>try simp only[h])) <;>try simp only[aG,R,simprocAttr])
  all_goals clear R
  exact .call (ik (hs hk))
theorem CJ{s:aC}{x:bg}(h:eN x∉s.dV):fy (.bd [.i .i64,.i .i64]) (.agg [.int .i64 x.other,.int .i64 x.no]) (enc x) (s.dV.map enc) (s.bq.map enc)=some ((({ s with bq:=s.bq++[x] } : aC).dV).map enc,(s.bq++[x]).map enc):=by
 have hm:=wO sH (eN x) (enc x) (ef x) s.dV (s.bq.map enc);have hf:=qp (k:=eN x) (ks:=s.dV);rw[decide_eq_false h] at hf;have e:(enc (eN x):I)=.agg [.int .i64 x.other,.int .i64 x.no]:=rfl;rw[e] at hm;rw[hm];cases hq:s.dV.findIdx? fun y=>decide (eN x=y) with
 |none=>simp[aC.dV]
 |some i=>rw[hq] at hf;cases hf
theorem FD{s:aC}{x:bg}(h:s.unknown x=true):eN x∉s.dV:=by
 simp only[aC.unknown,t8,Bool.not_eq_true',decide_eq_false_iff_not] at h;exact h.2
theorem yO(x:bg):(dQ [.int .i64 0,.int .i64 0] [(0,.int .i64 x.other),(1,.int .i64 x.no)]).map I.agg=some (.agg [.int .i64 x.other,.int .i64 x.no]):=by simp[dQ,I.bT,I.size]
theorem F5(s:aC)(hk:cG s)(x:bg)(hy:s.unknown x=true):cU Tryz.prog 132 [.ptr 1000000 [],enc x] (aM s) (mU { s with bq:=s.bq++[x] }):=by
 refine cU.cd Tryz.func132 Ah Az KB (u8 rfl) (u8 rfl) dz (fun hwf W0 bF E1 =>?_);simp only[uY,DH,bJ,Z1];clear hwf;have n3:aj (aM s) 3=none:=eF (.inl (by omega)) fun i _=>by simp[bE];omega
 have aW:aj (aM s) 1000000=some (.box (.agg [.int .i64 s.au,.mref 1000001,.mref 1000002,.int .i64 s.all.length,.mref 1000003,.mref 1000004])):=fB;have J:aj (aM s) 1000001=some (.bz (s.here.map enc) (List.replicate s.here.length (.bool true))):=fU;have U:aj (aM s) 1000002=some (.bz (s.bp.map enc) (dT (bE 1000000) s.aQ)):=gf;have ah:aj (aM s) 1000003=some (.bz (s.dV.map enc) (s.bq.map enc)):=gh;have hfin:∀ ts,c4 (av ts ((3,.box (enc x))::aM s)) 9 (.agg [.int .i64 s.au,.mref 1000001,.mref 1000002,.int .i64 s.all.length,.mref 1000003,.mref 1000004])=some (fT s):=fun ts =>
  gS (gV (dI _) hk.cE fun n hn=>by have:=dz n hn;simp only[aj];rw[if_neg (by omega)]) 4
 have hlk:=gn eS x.aK s.here;rw[eC] at hlk;have hF:=r6 s x;rw[hy] at hF;have hup:=CJ (FD hy);have R:=y6 @n3 (y6 @aW (y6 @ah (y6 @hfin (y6 @hup (y6 @yO (y6 @bB (y6 @bw aD)))))))
 repeat' ((first |refine ae.aF (by decide +kernel) rfl fun K hK =>?_|refine .flat _ (hF) rfl ?_|refine .flat _ (kE) rfl ?_|(refine .ay [0,1,3] hK ?_;clear hK K)|(with_reducible refine .done (hK _ ?_);clear hK K)|refine ae.of rfl ?_|(with_reducible refine az.aE (fun h =>?_) (fun h =>?_) <;>try simp only[h])) <;>try simp only[aG,R,simprocAttr])
 all_goals clear R
 rw[mb];refine ma (fun n hn =>?_) (fun _ _ h=>iq (s := { s with bq:=s.bq++[x] }) ⟨hk.cE,hk.iF,hk.af⟩ h) ⟨rfl,rfl⟩;have:=dz n hn;simp only[aM,ec,aj];rw[if_neg (show ¬ n=3 by omega)]
 (repeat' split) <;>first | rfl | omega
theorem F6(s:aC)(hk:cG s)(x:bg)(hy:s.unknown x=false):fi Tryz.prog 132 fD [.ptr 1000000 [],enc x] (aM s) (jV s):=by
 refine fi.mk Tryz.func132 Ah Az (u8 rfl) (u8 rfl) dz (fun hwf W0 bF E1 =>?_);simp only[uY,bJ,Z1];clear hwf;have n3:aj (aM s) 3=none:=eF (.inl (by omega)) fun i _=>by simp[bE];omega
 have aW:aj (aM s) 1000000=some (.box (.agg [.int .i64 s.au,.mref 1000001,.mref 1000002,.int .i64 s.all.length,.mref 1000003,.mref 1000004])):=fB;have J:aj (aM s) 1000001=some (.bz (s.here.map enc) (List.replicate s.here.length (.bool true))):=fU;have U:aj (aM s) 1000002=some (.bz (s.bp.map enc) (dT (bE 1000000) s.aQ)):=gf;have ah:aj (aM s) 1000003=some (.bz (s.dV.map enc) (s.bq.map enc)):=gh;have hfin:∀ ts,c4 (av ts ((3,.box (enc x))::aM s)) 9 (.agg [.int .i64 s.au,.mref 1000001,.mref 1000002,.int .i64 s.all.length,.mref 1000003,.mref 1000004])=some (fT s):=fun ts =>
  gS (gV (dI _) hk.cE fun n hn=>by have:=dz n hn;simp only[aj];rw[if_neg (by omega)]) 4
 have hlk:=gn eS x.aK s.here;rw[eC] at hlk;have hF:=r6 s x;rw[hy] at hF;have R:=y6 @n3 (y6 @aW (y6 @ah (y6 @hfin (y6 @bB (y6 @bw aD)))))
 repeat' ((first |(refine ae.od (gs:=Bv) (gs1:=[_,_,_]) rfl fun K hK =>?_)|refine ae.aF (by decide +kernel) rfl fun K hK =>?_|refine .flat _ (hF) rfl ?_|(refine .ay [0,1,3] hK ?_;clear hK K)|(with_reducible refine .done (hK _ ?_);clear hK K)|refine ae.of rfl ?_|(with_reducible refine az.aE (fun h =>?_) (fun h =>?_) <;>try simp only[h])) <;>try simp only[aG,R,simprocAttr])
 all_goals clear R
 exact .call (ik (hs hk))
theorem F3(s:aC)(hk:cG s)(x:bg)(hy:s.unknown x=true∧x.aK∉s.here∧s.fh x.aK=false):cU Tryz.prog 131 [.ptr 1000000 [],enc x] (aM s) (mU { s with bq:=s.bq++[x],here:=gO s.here x.aK }):=by
 refine cU.cd Tryz.func131 Ag Ay KA (u8 rfl) (u8 rfl) dz (fun hwf W0 bF E1 =>?_);simp only[uX,DG,bJ,Z1];clear hwf;have n3:aj (aM s) 3=none:=eF (.inl (by omega)) fun i _=>by simp[bE];omega
 have aW:aj (aM s) 1000000=some (.box (.agg [.int .i64 s.au,.mref 1000001,.mref 1000002,.int .i64 s.all.length,.mref 1000003,.mref 1000004])):=fB;have J:aj (aM s) 1000001=some (.bz (s.here.map enc) (List.replicate s.here.length (.bool true))):=fU;have U:aj (aM s) 1000002=some (.bz (s.bp.map enc) (dT (bE 1000000) s.aQ)):=gf;have ah:aj (aM s) 1000003=some (.bz (s.dV.map enc) (s.bq.map enc)):=gh;have hfin:∀ ts,c4 (av ts ((3,.box (enc x))::aM s)) 9 (.agg [.int .i64 s.au,.mref 1000001,.mref 1000002,.int .i64 s.all.length,.mref 1000003,.mref 1000004])=some (fT s):=fun ts =>
  gS (gV (dI _) hk.cE fun n hn=>by have:=dz n hn;simp only[aj];rw[if_neg (by omega)]) 4
 have hlk:=gn eS x.aK s.here;rw[eC] at hlk;have hF:=r6 s x;rw[hy.1] at hF;have hF2:=p6 s x.aK;rw[hy.2.2] at hF2;have q1:decide (x.aK∈s.here)=false:=decide_eq_false hy.2.1;have hup:=CJ (FD hy.1);have hup2:=wP eS x.aK s.here;rw[eC] at hup2;have R:=y6 @n3 (y6 @aW (y6 @J (y6 @ah (y6 @hfin (y6 @hlk (y6 @q1 (y6 @hup (y6 @hup2 (y6 @yO (y6 @bB (y6 @bw aD)))))))))))
 repeat' ((first |(with_reducible refine .guard (fun hb =>?_) (fun hb =>?_) <;>try simp only[hb])|refine ae.aF (by decide +kernel) rfl fun K hK =>?_|refine .flat _ (hF) rfl ?_|refine .flat _ (hF2) rfl ?_|refine .flat _ (kE) rfl ?_|(refine .ay [0,1,3] hK ?_;clear hK K)|(with_reducible refine .done (hK _ ?_);clear hK K)|refine ae.of rfl ?_|(with_reducible refine az.aE (fun h =>?_) (fun h =>?_) <;>try simp only[h])) <;>try simp only[aG,R,simprocAttr])
 all_goals clear R
 rw[mb];refine ma (fun n hn =>?_) (fun _ _ h=>iq (s := { s with bq:=s.bq++[x],here:=gO s.here x.aK }) ⟨hk.cE,hk.iF,nw hk.af⟩ h) ⟨rfl,rfl⟩;have:=dz n hn;simp only[aM,ec,aj];rw[if_neg (show ¬ n=3 by omega)]
 (repeat' split) <;>first | rfl | omega
theorem F4(s:aC)(hk:cG s)(x:bg)(hy:¬ (s.unknown x=true∧x.aK∉s.here∧s.fh x.aK=false)):fi Tryz.prog 131 fD [.ptr 1000000 [],enc x] (aM s) (jV s):=by
 refine fi.mk Tryz.func131 Ag Ay (u8 rfl) (u8 rfl) dz (fun hwf W0 bF E1 =>?_);simp only[uX,bJ,Z1];clear hwf;have n3:aj (aM s) 3=none:=eF (.inl (by omega)) fun i _=>by simp[bE];omega
 have aW:aj (aM s) 1000000=some (.box (.agg [.int .i64 s.au,.mref 1000001,.mref 1000002,.int .i64 s.all.length,.mref 1000003,.mref 1000004])):=fB;have J:aj (aM s) 1000001=some (.bz (s.here.map enc) (List.replicate s.here.length (.bool true))):=fU;have U:aj (aM s) 1000002=some (.bz (s.bp.map enc) (dT (bE 1000000) s.aQ)):=gf;have ah:aj (aM s) 1000003=some (.bz (s.dV.map enc) (s.bq.map enc)):=gh;have hfin:∀ ts,c4 (av ts ((3,.box (enc x))::aM s)) 9 (.agg [.int .i64 s.au,.mref 1000001,.mref 1000002,.int .i64 s.all.length,.mref 1000003,.mref 1000004])=some (fT s):=fun ts =>
  gS (gV (dI _) hk.cE fun n hn=>by have:=dz n hn;simp only[aj];rw[if_neg (by omega)]) 4
 have hlk:=gn eS x.aK s.here;rw[eC] at hlk;have hF:=r6 s x;have hF2:=p6 s x.aK;rcases q0:s.unknown x
 ·rw[q0] at hF;have R:=y6 @n3 (y6 @aW (y6 @J (y6 @ah (y6 @hfin (y6 @hlk (y6 @bB (y6 @bw aD)))))))
  repeat' ((first |(with_reducible refine .guard (fun hb =>?_) (fun hb =>?_) <;>try simp only[hb])|(refine ae.jw (gs:=nK) 20 [] [] [0,1,2,3,4,5,6,7,8,9,10,11,12,13,14,15,16,17,18,19] (by decide +kernel) rfl (cX.of (by simp[fw])) fun K hK =>?_;simp only[ff,nK,gx,Z5,zy5,List.take_zero,zz7,zz8,R,simprocAttr])|refine ae.aF (by decide +kernel) rfl fun K hK =>?_|refine .flat _ (hF) rfl ?_|(refine .ay [0,1,3] hK ?_;clear hK K)|(with_reducible refine .done (hK _ ?_);clear hK K)|refine ae.of rfl ?_|(with_reducible refine az.aE (fun h =>?_) (fun h =>?_) <;>try simp only[h])) <;>try simp only[aG,R,simprocAttr])
  all_goals clear R
  exact .call (ik (hs hk))
 rw[q0] at hF;rcases q1:decide (x.aK∈s.here)
 ·have q2:s.fh x.aK=true:=by
   rcases q2:s.fh x.aK
   ·exact absurd ⟨q0,of_decide_eq_false q1,q2⟩ hy
   ·rfl
  rw[q2] at hF2;have R:=y6 @n3 (y6 @aW (y6 @J (y6 @ah (y6 @hfin (y6 @hlk (y6 @q1 (y6 @bB (y6 @bw aD))))))))
  repeat' ((first |(with_reducible refine .guard (fun hb =>?_) (fun hb =>?_) <;>try simp only[hb])|(refine ae.jw (gs:=nK) 20 [] [] [0,1,2,3,4,5,6,7,8,9,10,11,12,13,14,15,16,17,18,19] (by decide +kernel) rfl (cX.of (by simp[fw])) fun K hK =>?_;simp only[ff,nK,gx,Z5,zy5,List.take_zero,zz7,zz8,R,simprocAttr])|refine ae.aF (by decide +kernel) rfl fun K hK =>?_|refine .flat _ (hF) rfl ?_|refine .flat _ (hF2) rfl ?_|(refine .ay [0,1,3] hK ?_;clear hK K)|(with_reducible refine .done (hK _ ?_);clear hK K)|refine ae.of rfl ?_|(with_reducible refine az.aE (fun h =>?_) (fun h =>?_) <;>try simp only[h])) <;>try simp only[aG,R,simprocAttr])
  all_goals clear R
  exact .call (ik (hs hk))
 ·have R:=y6 @n3 (y6 @aW (y6 @J (y6 @ah (y6 @hfin (y6 @hlk (y6 @q1 (y6 @bB (y6 @bw aD))))))))
  repeat' ((first |(with_reducible refine .guard (fun hb =>?_) (fun hb =>?_) <;>try simp only[hb])|(refine ae.jw (gs:=nK) 20 [] [] [0,1,2,3,4,5,6,7,8,9,10,11,12,13,14,15,16,17,18,19] (by decide +kernel) rfl (cX.of (by simp[fw])) fun K hK =>?_;simp only[ff,nK,gx,Z5,zy5,List.take_zero,zz7,zz8,R,simprocAttr])|refine ae.aF (by decide +kernel) rfl fun K hK =>?_|refine .flat _ (hF) rfl ?_|(refine .ay [0,1,3] hK ?_;clear hK K)|(with_reducible refine .done (hK _ ?_);clear hK K)|refine ae.of rfl ?_|(with_reducible refine az.aE (fun h =>?_) (fun h =>?_) <;>try simp only[h])) <;>try simp only[aG,R,simprocAttr])
  all_goals clear R
  exact .call (ik (hs hk))
abbrev gB(k:Nat)(s:aC):List (Nat×ao):=ec 1000000 (fS 1000000 57 k) s
def tB(k:Nat)(s:aC):cK:=fun r os'=>r=.tuple []∧os'=gB k s
theorem gI{k m:Nat}(h:m≤k+1):gp 1000000 (fS 1000000 57 k) m:=gp.fS (by omega) h
theorem tV{s:aC}(hk:cG s){k:Nat}(h:s.all.length≤k):gB k s=aM s:=ZA hk.cE fun i hi=>lU (by omega)
def iN(s:aC)(x:bg):aC := { s with here:=s.here.erase x.aK,all:=s.all++[⟨x.no,x.other,x.aK,false⟩],aQ:=s.aQ++[s.all.length] }
theorem Ze{s:aC}(hk:cG s)(x:bg):cG (iN s x):=by
 refine ⟨fun i hi =>?_,?_,hk.af.erase _⟩
 ·simp only[iN,zy7,zy4] at hi;simp only[iN,Z7,zw1];rcases hi with hi | hi
  ·have:=hk.cE i hi;omega
  ·omega
 ·exact List.nodup_append.2 ⟨hk.iF,by simp,fun a ha c hc e=>by rw[zy4.1 hc] at e;have:=hk.cE a ha;omega⟩
theorem Xc{s:aC}(hk:cG s){no:Int}(hno:no=(s.all.length:Int)+1)(v:I)(hv:v.bT=true):fy (.i .i64) (.int .i64 no) v (s.bp.map enc) (dT (bE 1000000) s.aQ)=some ((s.bp++[no]).map enc,dT (bE 1000000) s.aQ++[v]):=by
 have hm:=wO eS no v hv s.bp (dT (bE 1000000) s.aQ);rw[eC] at hm;rw[hm];have hf:=qp (k:=no) (ks:=s.bp);have:no∉s.bp:=fun h=>by
  obtain ⟨i,hi,e⟩:=zy1.1 h;have:=hk.cE i hi;omega
 rw[decide_eq_false this] at hf;cases hq:s.bp.findIdx? fun y=>decide (no=y) with
 |none=>rfl
 |some i=>rw[hq] at hf;cases hf
theorem FX(s:aC)(hk:cG s)(hlen:s.all.length≤100000)(x:bg)(hy:x.aK∈s.here∧x.other≠s.au∧x.no=(s.all.length:Int)+1):cU Tryz.prog 127 [.ptr 1000000 [],enc x] (aM s) (tB s.all.length (iN s x)):=by
 refine cU.cd Tryz.func127 Ac Au Kv (u8 rfl) (u8 rfl) dz (fun hwf W0 bF E1 =>?_);simp only[uT,DB,bJ,Z1];clear hwf;have n3:aj (aM s) 3=none:=eF (.inl (by omega)) fun i _=>by simp[bE];omega
 have n57:aj (aM s) 57=none:=eF (.inl (by omega)) fun i _=>by simp[bE];omega
 have aW:aj (aM s) 1000000=some (.box (.agg [.int .i64 s.au,.mref 1000001,.mref 1000002,.int .i64 s.all.length,.mref 1000003,.mref 1000004])):=fB;have J:aj (aM s) 1000001=some (.bz (s.here.map enc) (List.replicate s.here.length (.bool true))):=fU;have U:aj (aM s) 1000002=some (.bz (s.bp.map enc) (dT (bE 1000000) s.aQ)):=gf;have hlk:=gn eS x.aK s.here;rw[eC] at hlk;have q1:decide (x.aK∈s.here)=true:=decide_eq_true hy.1;have q2:(x.other != s.au)=true:=by simpa using hy.2.1
 have hw:IntKind.i64.wrap ((s.all.length:Int)+1)=(s.all.length:Int)+1:=ly _ (by omega) (by omega);have q3:(x.no==(s.all.length:Int)+1)=true:=by simpa using hy.2.2
 have hdl:=CA hy.1;have hup:=Xc hk hy.2.2 (.ptr 57 []) rfl;have hst:∀ A rest,de A none 1000000 [3] (.agg [.int .i64 s.au,.mref 1000001,.mref 1000002,.int .i64 s.all.length,.mref 1000003,.mref 1000004]) (.int .i64 ((s.all.length:Int)+1)) rest (some (.int .i64 s.all.length)) =
   aB rest (A.aT 1000000 (.box (.agg [.int .i64 s.au,.mref 1000001,.mref 1000002,.int .i64 ((s.all.length:Int)+1),.mref 1000003,.mref 1000004]))):=fun A rest=>dG rfl rfl rfl
 have hbld:(dQ [.int .i64 0,.int .i64 0,.int .i64 0,.bool false] [(0,.int .i64 x.no),(1,.int .i64 x.other),(2,.int .i64 x.aK)]).map I.agg=some (enc (⟨x.no,x.other,x.aK,false⟩:cC)):=by simp[dQ,I.bT,I.size];rfl
 have offT:∀ (a b:Int) v,du [.int .i64 a,.mref 1000001,.mref 1000002,.int .i64 (b+1),.mref 1000003,.mref 1000004] 2 2 v=some v:=fun a b v=>rfl;have R:=y6 @n3 (y6 @n57 (y6 @aW (y6 @J (y6 @U (y6 @hlk (y6 @q1 (y6 @q2 (y6 @hw (y6 @q3 (y6 @hdl (y6 @hup (y6 @hst (y6 @hbld (y6 @offT (y6 @bB (y6 @bw aD))))))))))))))))
 repeat' ((first |(with_reducible refine .guard (fun hb =>?_) (fun hb =>?_) <;>try simp only[hb])|refine ae.aF (by decide +kernel) rfl fun K hK =>?_|refine .flat _ (kE) rfl ?_|(refine .ay [0,1,3] hK ?_;clear hK K)|(with_reducible refine .done (hK _ ?_);clear hK K)|refine ae.of rfl ?_|(with_reducible refine az.aE (fun h =>?_) (fun h =>?_) <;>try simp only[h])) <;>try simp only[aG,R,simprocAttr])
 all_goals clear R
 rw[mb];have hg:=gI (k:=s.all.length) (m:=(iN s x).all.length) (by simp[iN]);refine ma (fun n hn =>?_) (fun _ _ h=>lr hg (Ze hk x).cE h) ⟨rfl,rfl⟩;have hl1:(iN s x).all.length=s.all.length+1:=by simp[iN]
 have hp:dT (fS 1000000 57 s.all.length) (s.aQ++[s.all.length])=dT (bE 1000000) s.aQ++[.ptr 57 []]:=by
  simp only[dT,zz3,Z3,zx0]
  congr 1
  ·exact List.map_congr_left fun i hi=>by rw[lU (hk.cE i hi)]
  ·simp[fS]
 have hnu:(iN s x).bp=s.bp++[x.no]:=by simp[aC.bp,iN,hy.2.2]
 rcases (dN hg).1 hn with hb | ⟨j,hj,rfl⟩
 ·have hc:n=1000000∨n=1000001∨n=1000002∨n=1000003∨n=1000004:=by omega
  rcases hc with rfl | rfl | rfl | rfl | rfl
  ·rw[fB];simp[aj,nq,iN]
  ·rw[show (1000001:Nat)=1000000+1 from rfl,fU];simp[aj,pf,iN]
  ·rw[show (1000002:Nat)=1000000+2 from rfl,gf];simp only[oj,hnu];simp only[iN,hp];simp[aj]
  ·rw[show (1000003:Nat)=1000000+3 from rfl,gh];have:=gh (B:=1000000) (ν:=bE 1000000) (s:=s);simp only[aj,Nat.reduceAdd,Nat.reduceEqDiff,if_false];exact this
  ·rw[show (1000004:Nat)=1000000+4 from rfl,oA];have:=oA (B:=1000000) (ν:=bE 1000000) (s:=s);simp only[aj,Nat.reduceAdd,Nat.reduceEqDiff,if_false];exact this
 ·rw[jg hg hj];by_cases e:j=s.all.length
  ·subst e;simp[aj,fS,iN]
  ·have hj2:j<s.all.length:=by omega
   rw[lU hj2];have:=jg (B:=1000000) (ν:=bE 1000000) (s:=s) (dI _) hj2;simp only[aj];rw[if_neg (by simp[bE];omega),if_neg (by simp[bE];omega),if_neg (by simp[bE];omega),if_neg (by simp[bE];omega),if_neg (by simp[bE];omega),this];simp[iN,List.getElem_append_left hj2]
theorem FY(s:aC)(hk:cG s)(hlen:s.all.length≤100000)(x:bg)(hy:¬ (x.aK∈s.here∧x.other≠s.au∧x.no=(s.all.length:Int)+1)):fi Tryz.prog 127 fD [.ptr 1000000 [],enc x] (aM s) (jV s):=by
 refine fi.mk Tryz.func127 Ac Au (u8 rfl) (u8 rfl) dz (fun hwf W0 bF E1 =>?_);simp only[uT,bJ,Z1];clear hwf;have n3:aj (aM s) 3=none:=eF (.inl (by omega)) fun i _=>by simp[bE];omega
 have aW:aj (aM s) 1000000=some (.box (.agg [.int .i64 s.au,.mref 1000001,.mref 1000002,.int .i64 s.all.length,.mref 1000003,.mref 1000004])):=fB;have J:aj (aM s) 1000001=some (.bz (s.here.map enc) (List.replicate s.here.length (.bool true))):=fU;have hlk:=gn eS x.aK s.here;rw[eC] at hlk;have hw:IntKind.i64.wrap ((s.all.length:Int)+1)=(s.all.length:Int)+1:=ly _ (by omega) (by omega);rcases q1:decide (x.aK∈s.here)
 ·have R:=y6 @n3 (y6 @aW (y6 @J (y6 @hlk (y6 @q1 (y6 @bB (y6 @bw aD))))))
  repeat' ((first |(with_reducible refine .guard (fun hb =>?_) (fun hb =>?_) <;>try simp only[hb])|(refine ae.jw (gs:=nJ) 26 [] [] [0,1,2,3,4,5,6,7,8,9,10,11,12,13,14,15,16,17,18,19,20,21,22,23,24,25] (by decide +kernel) rfl (cX.of (by simp[fw])) fun K hK =>?_;simp only[ff,nJ,gx,Z5,zy5,List.take_zero,zz7,zz8,R,simprocAttr])|refine ae.aF (by decide +kernel) rfl fun K hK =>?_|(refine .ay [0,1,3] hK ?_;clear hK K)|(with_reducible refine .done (hK _ ?_);clear hK K)|refine ae.of rfl ?_|(with_reducible refine az.aE (fun h =>?_) (fun h =>?_) <;>try simp only[h])) <;>try simp only[aG,R,simprocAttr])
  all_goals clear R
  exact .call (ik (hs hk))
 rcases q2:(x.other != s.au)
 ·have R:=y6 @n3 (y6 @aW (y6 @J (y6 @hlk (y6 @q1 (y6 @q2 (y6 @bB (y6 @bw aD)))))))
  repeat' ((first |(with_reducible refine .guard (fun hb =>?_) (fun hb =>?_) <;>try simp only[hb])|(refine ae.jw (gs:=nJ) 26 [] [] [0,1,2,3,4,5,6,7,8,9,10,11,12,13,14,15,16,17,18,19,20,21,22,23,24,25] (by decide +kernel) rfl (cX.of (by simp[fw])) fun K hK =>?_;simp only[ff,nJ,gx,Z5,zy5,List.take_zero,zz7,zz8,R,simprocAttr])|refine ae.aF (by decide +kernel) rfl fun K hK =>?_|(refine .ay [0,1,3] hK ?_;clear hK K)|(with_reducible refine .done (hK _ ?_);clear hK K)|refine ae.of rfl ?_|(with_reducible refine az.aE (fun h =>?_) (fun h =>?_) <;>try simp only[h])) <;>try simp only[aG,R,simprocAttr])
  all_goals clear R
  exact .call (ik (hs hk))
 have q3:(x.no==(s.all.length:Int)+1)=false:=by
  rcases q3:(x.no==(s.all.length:Int)+1)
  ·rfl
  ·exact absurd ⟨of_decide_eq_true q1,by simpa using q2,by simpa using q3⟩ hy
 have R:=y6 @n3 (y6 @aW (y6 @J (y6 @hlk (y6 @q1 (y6 @q2 (y6 @hw (y6 @q3 (y6 @bB (y6 @bw aD)))))))))
 repeat' ((first |(with_reducible refine .guard (fun hb =>?_) (fun hb =>?_) <;>try simp only[hb])|(refine ae.jw (gs:=nJ) 26 [] [] [0,1,2,3,4,5,6,7,8,9,10,11,12,13,14,15,16,17,18,19,20,21,22,23,24,25] (by decide +kernel) rfl (cX.of (by simp[fw])) fun K hK =>?_;simp only[ff,nJ,gx,Z5,zy5,List.take_zero,zz7,zz8,R,simprocAttr])|refine ae.aF (by decide +kernel) rfl fun K hK =>?_|(refine .ay [0,1,3] hK ?_;clear hK K)|(with_reducible refine .done (hK _ ?_);clear hK K)|refine ae.of rfl ?_|(with_reducible refine az.aE (fun h =>?_) (fun h =>?_) <;>try simp only[h])) <;>try simp only[aG,R,simprocAttr])
 all_goals clear R
 exact .call (ik (hs hk))
def ed(s:aC)(x:bg):aC×Bool:=match gD s x with
 |some s'=>(s',true)
 |none=>(s,false)
def Dd(s:aC)(x:bg):cK:=fun r os'=>r=.bool (ed s x).2∧os'=gB s.all.length (ed s x).1
def jm(B:Nat):List I:=[.func 1000125 [.ptr B []],.func 1000126 [.ptr B []],.func 1000127 [.ptr B []],.func 1000128 [.ptr B []],.func 1000129 [.ptr B []],.func 1000130 [.ptr B []],.func 1000131 [.ptr B []],.func 1000132 [.ptr B []]]
def kD(s:aC)(x:bg)(f:FuncId):Prop:=match eQ s x with
 |some s'=>cU Tryz.prog f [.ptr 1000000 [],enc x] (aM s) (tB s.all.length s')
 |none=>fi Tryz.prog f fD [.ptr 1000000 [],enc x] (aM s) (jV s)
theorem cU.post{P:Program}{f:FuncId}{args:List I}{os:List (Nat×ao)}{post post':cK}(h:cU P f args os post)(hp:∀ r os',post r os'→post' r os'):cU P f args os post' :=
 ⟨h.1,fun w D E vs ab hD ho hv=>(h.2 w D E vs ab hD ho hv).mono fun _ _ ⟨v,D',E',r,os',k1,k2,k⟩=>⟨v,D',E',r,os',k1,hp _ _ k2,k⟩⟩
theorem n1{s s':aC}{x:bg}(hk:cG s)(hn:eQ s x=some s')(hx:x.kind≠3):∀ r os',mU s' r os'→tB s.all.length s' r os':=by
 rintro r os' ⟨rfl,rfl⟩;obtain ⟨J,_,_,ar⟩:=hk.next hn
 exact ⟨rfl,(tV J (Nat.le_of_eq (ar hx))).symm⟩
theorem wJ{s:aC}(hk:cG s)(hlen:s.all.length≤100000){x:bg}(hx:hl x=true) :
  ∃ f:Nat,fk (.i .i64) .dB (.int .i64 x.kind) gK (jm 1000000)=some (.func (f+1000000) [.ptr 1000000 []],true)∧[125,126,127,128,129,130,131,132].contains f=true∧kD s x f:=by
 have ar:x.kind=1∨x.kind=2∨x.kind=3∨x.kind=4∨x.kind=5∨x.kind=6∨x.kind=7∨x.kind=8:=by
  simp only[hl] at hx;split at hx
  ·omega
  ·split at hx
   ·omega
   ·cases hx
 have lk:∀ n:Int,x.kind=n→fk (.i .i64) .dB (.int .i64 x.kind) gK (jm 1000000)=fk (.i .i64) .dB (.int .i64 n) gK (jm 1000000):=fun n h=>by rw[h]
 rcases ar with h | h | h | h | h | h | h | h
 ·refine ⟨125,by rw[h];simp[fk,eD,ca,gK,jm],rfl,?_⟩;simp only[kD,eQ,h,if_true];split
  ·rename_i s' ab;split at ab
   ·cases ab
   ·rename_i bH;cases ab;have hy:x.aK∉s.here∧s.fh x.aK=false:=⟨fun h=>bH (.inl h),by rcases q:s.fh x.aK;rfl;exact absurd (.inr q) bH⟩
    exact cU.post (FT s hk x hy) (n1 (x:=x) hk (by simp[eQ,h,hy.1,hy.2]) (by omega))
  ·rename_i ab;split at ab
   ·rename_i bH;exact FU s hk x bH
   ·cases ab
 ·refine ⟨126,by rw[h];simp[fk,eD,ca,gK,jm],rfl,?_⟩;simp only[kD,eQ,h,Int.reduceEq,if_false,if_true];split
  ·rename_i s' ab;split at ab
   ·rename_i bH;cases ab;exact cU.post (FV s hk x bH) (n1 (x:=x) hk (by simp[eQ,h,bH]) (by omega))
   ·cases ab
  ·rename_i ab;split at ab
   ·cases ab
   ·rename_i bH;exact FW s hk x bH
 ·refine ⟨127,by rw[h];simp[fk,eD,ca,gK,jm],rfl,?_⟩;simp only[kD,eQ,h,Int.reduceEq,if_false,if_true];split
  ·rename_i s' ab;split at ab
   ·rename_i bH;cases ab;exact FX s hk hlen x bH
   ·cases ab
  ·rename_i ab;split at ab
   ·cases ab
   ·rename_i bH;exact FY s hk hlen x bH
 ·refine ⟨128,by rw[h];simp[fk,eD,ca,gK,jm],rfl,?_⟩;simp only[kD,eQ,h,Int.reduceEq,if_false,if_true];cases ho:s.on x with
  |none=>exact x3 s hk x fun i hi=>by rw[ho] at hi;cases hi
  |some i =>
   cases hc:(s.b9 i).dD with
   |true =>
    simp only[hc,if_true];exact x3 s hk x fun j hj=>by rw[ho] at hj;cases hj;exact hc
   |false =>
    simp only[hc,Z2,if_false];exact cU.post (FZ s hk x i ho hc) (n1 (x:=x) hk (by simp[eQ,h,ho,hc]) (by omega))
 ·refine ⟨129,by rw[h];simp[fk,eD,ca,gK,jm],rfl,?_⟩;simp only[kD,eQ,h,Int.reduceEq,if_false,if_true];cases ho:s.on x with
  |none=>exact F1 s hk x ho
  |some i=>exact cU.post (F0 s hk x i ho) (n1 (x:=x) hk (by simp[eQ,h,ho]) (by omega))
 ·refine ⟨130,by rw[h];simp[fk,eD,ca,gK,jm],rfl,?_⟩;simp only[kD,eQ,h,Int.reduceEq,if_false,if_true];cases ho:s.on x with
  |none=>exact x4 s hk x fun i hi=>by rw[ho] at hi;cases hi
  |some i =>
   cases hc:(s.b9 i).dD with
   |false =>
    simp only[hc,Z2,if_false];exact x4 s hk x fun j hj=>by rw[ho] at hj;cases hj;exact hc
   |true =>
    simp only[hc,if_true];exact cU.post (F2 s hk x i ho hc) (n1 (x:=x) hk (by simp[eQ,h,ho,hc]) (by omega))
 ·refine ⟨131,by rw[h];simp[fk,eD,ca,gK,jm],rfl,?_⟩;simp only[kD,eQ,h,Int.reduceEq,if_false,if_true];split
  ·rename_i s' ab;split at ab
   ·rename_i bH;cases ab;exact cU.post (F3 s hk x bH) (n1 (x:=x) hk (by simp[eQ,h,bH.1,bH.2.1,bH.2.2]) (by omega))
   ·cases ab
  ·rename_i ab;split at ab
   ·cases ab
   ·rename_i bH;exact F4 s hk x bH
 ·refine ⟨132,by rw[h];simp[fk,eD,ca,gK,jm],rfl,?_⟩;simp only[kD,eQ,h,Int.reduceEq,if_false,if_true];cases hu:s.unknown x with
  |true =>
   simp only[if_true];exact cU.post (F5 s hk x hu) (n1 (x:=x) hk (by simp[eQ,h,hu]) (by omega))
  |false =>
   simp only[Z2,if_false];exact F6 s hk x hu
def dM(x:bg)(b:Bool)(l:List (Nat×ao)):List (Nat×ao):=(1900004,.box (.bool b))::(1900003,.box (enc x))::l
def lW(s:aC)(x:bg):cK:=fun r os'=>r=.bool (ed s x).2∧os'=dM x (ed s x).2 (gB s.all.length (ed s x).1)
def lb:List (Nat×Nat):=[(1900003,3),(1900004,4)]
theorem rQ{s:aC}(hk:cG s)(x:bg):cG (ed s x).1∧(ed s x).1.au=s.au∧s.all.length≤(ed s x).1.all.length∧(ed s x).1.all.length≤s.all.length+1:=by
 simp only[ed];cases h:gD s x with
 |none=>exact ⟨hk,rfl,Z4 _,by simp⟩
 |some s' =>
  simp only[gD] at h;split at h
  ·obtain ⟨J,U,ah,ar⟩:=hk.next h
   refine ⟨J,U,?_,ah⟩;by_cases hk3:x.kind=3
   ·simp only[eQ,hk3,Int.reduceEq,if_false,if_true] at h;split at h <;>cases h
    simp
   ·exact Nat.le_of_eq (ar hk3).symm
  ·cases h
theorem tU{s:aC}{k:Nat}(h:s.all.length≤k+1){n:Nat}(hn:aw (gB k s) n=true):n=57∨(1000000≤n∧n<1000006+k):=by
 rcases (dN (gI h)).1 hn with U | ⟨i,hi,rfl⟩
 ·omega
 ·simp only[fS];split <;>omega
theorem lp{s:aC}{n:Nat}(hn:aw (aM s) n=true):1000000≤n∧n<1000005+s.all.length:=by
 rcases (dN (dI _)).1 hn with U | ⟨i,hi,rfl⟩
 ·omega
 ·simp only[bE];omega
theorem jv{x:bg}{b:Bool}{l:List (Nat×ao)}{n:Nat} : aw (dM x b l) n=true↔n=1900004∨n=1900003∨aw l n=true:=by
 simp only[aw,dM,aj];by_cases J:n=1900004
 ·simp[J]
 by_cases U:n=1900003
 ·simp[U]
 simp[J,U]
theorem rm{x:bg}{b:Bool}{l:List (Nat×ao)}(aq:∀ m y,aj l m=some y→y.only (aw l)=true∧y.eg=true){n:Nat}{y:ao}(h:aj (dM x b l) n=some y):y.only (aw (dM x b l))=true∧y.eg=true:=by
 simp only[dM,aj] at h;split at h
 ·cases h;exact ⟨rfl,rfl⟩
 split at h
 ·cases h;exact ⟨b7 _ _,rfl⟩
 obtain ⟨J,U⟩:=aq n y h;refine ⟨ao.iI (fun m hm=>jv.2 (.inr (.inr hm))) y J,U⟩
theorem xp(ρ:List (Nat×Nat))(k:Nat)(v:ao)(os:List (Nat×ao)):dE ρ ((k,v)::os)=(bI ρ k,v.bn (bI ρ))::dE ρ os:=rfl
theorem EN{ρ:List (Nat×Nat)}{ν ν':Nat→Nat} : ∀ (l:List cC) (i:Nat),(∀ k,k<i+l.length→bI ρ (ν k)=ν' k)→dE ρ (jl ν i l)=jl ν' i l
 | [],_,_=>rfl
 |r::l,i,h=>by
  simp only[zx7] at h;simp only[jl,xp,h i (by omega),ao.bn,kR,EN l (i+1) fun k hk=>h k (by omega)]
theorem ER{ρ:Nat→Nat}{ν ν':Nat→Nat} : ∀ l:List Nat,(∀ i∈l,ρ (ν i)=ν' i)→I.dU ρ (dT ν l)=dT ν' l
 | [],_=>rfl
 |i::l,h=>by
  have ih:=ER (ρ:=ρ) l fun j hj=>h j (by simp[hj]);simp only[dT] at ih;simp only[dT,Z3,I.dU,I.bn,h i (by simp),ih]
theorem EP{ρ:List (Nat×Nat)}{B B':Nat}{ν ν':Nat→Nat}{s:aC}(aq:∀ i∈s.aQ,i<s.all.length)(aW:∀ j,j<5→bI ρ (B+j)=B'+j)(h:∀ k,k<s.all.length→bI ρ (ν k)=ν' k):dE ρ (ec B ν s)=ec B' ν' s:=by
 have hB:bI ρ B=B':=aW 0 (by omega);have J:=aW 1 (by omega);have U:=aW 2 (by omega);have ah:=aW 3 (by omega);have ar:=aW 4 (by omega);have hp:=ER (ρ:=bI ρ) s.aQ fun i hi=>h i (aq i hi);have hr:I.dU (bI ρ) (List.replicate s.here.length (.bool true))=List.replicate s.here.length (.bool true):=mZ _ _ (qi _);simp only[ec,xp,hB,J,U,ah,ar,EN s.all 0 (by simpa using h),nq,pf,oj,qM,oQ,gK,ao.bn,I.bn,I.dU,tL,hp,hr]
theorem Ct{ρ:List (Nat×Nat)}{os:List (Nat×ao)}{m:Nat}{y:ao}(inj:∀ m',aw os m'=true→bI ρ m'=bI ρ m→m'=m)(h:aj os m=some y):aj (dE ρ os) (bI ρ m)=some (y.bn (bI ρ)):=by
 have J:=qT ρ os [] (bI ρ m);rw[zx4] at J;rw[J];cases hp:pre ρ os (bI ρ m) with
 |none=>exact absurd rfl (xd hp (by simp[aw,h]))
 |some m' =>
  obtain ⟨k1,k2⟩:=kX hp;have:=inj m' k1 k2;subst this;simp only[h,zz0]
theorem me(m:Nat):bI lb m=if m=1900003 then 3 else if m=1900004 then 4 else m:=rfl
theorem EM{s:aC}(hk:cG s){k:Nat}(h:s.all.length≤k+1)(hlen:k≤100000):dE lb (gB k s)=gB k s :=
 EP hk.cE (fun j hj=>by rw[me,if_neg (by omega),if_neg (by omega)]) fun i hi=>by
  have:fS 1000000 57 k i=57∨(1000000≤fS 1000000 57 k i∧fS 1000000 57 k i<1000006+k):=by simp only[fS];split <;>omega
  rw[me,if_neg (by omega),if_neg (by omega)]
theorem YQ{s:aC}(hk:cG s)(hlen:s.all.length≤100000):dE lb (aM s)=aM s:=by
 rw[←tV hk (Z4 _)];exact EM hk (by omega) hlen
def xu:bu:=.seq (.cu none BD) (.seq (.cu L3 qA) (.seq (.cu none UC) .ret))
theorem L8:Tryz.f81.body.bind (vh Tryz.prog Tryz.f81.ntmps)=some (.cu none BC,113,4,5,xu):=by kernel_rfl
def pG(s:aC)(x:bg):List (Nat×ao):=(4,.box (.bool false))::(3,.box (enc x))::aM s
theorem Wh{s:aC}(hk:cG s)(hlen:s.all.length≤100000)(x:bg):gl lb (dM x false (aM s)) (pG s x):=by
 refine ⟨fun m y hy=>⟨?_,rm (fun _ _ h=>iq hk h) hy⟩,fun m m' hm hm' e =>?_⟩
 ·simp only[dM,aj] at hy;split at hy
  ·rename_i h;subst h;cases hy;rfl
  split at hy
  ·rename_i h;subst h;cases hy;simp only[ao.bn,kR];rfl
  ·have hm:=lp (s:=s) (n:=m) (by simp[aw,hy]);have e:bI lb m=m:=by rw[me,if_neg (by omega),if_neg (by omega)]
   have:=Ct (ρ:=lb) (os:=aM s) (m:=m) (fun m' hm' he=>by
    have:=lp hm';rw[e,me,if_neg (by omega),if_neg (by omega)] at he;exact he) hy
   rw[YQ hk hlen] at this;rw[e] at this ⊢;simp only[pG,aj];rw[if_neg (by omega),if_neg (by omega)];exact this
 ·have key:∀ m,aw (dM x false (aM s)) m=true→m=1900004∨m=1900003∨(1000000≤m∧m<1900000):=fun m hm=>by
   rcases jv.1 hm with h | h | h
   ·exact .inl h
   ·exact .inr (.inl h)
   ·have:=lp h;exact .inr (.inr (by omega))
  have k1:=key m hm;have k2:=key m' hm';rw[me,me] at e
  (repeat' split at e) <;>omega
theorem Ht{s:aC}(hk:cG s)(hlen:s.all.length≤100000)(x:bg):∀ r os',lW s x r os'→gE false lb (dM x false (aM s)) (pG s x) r os':=by
 rintro r os' ⟨rfl,rfl⟩;obtain ⟨J,U,ah,ar⟩:=rQ hk x;have hon:∀ m y,aj (gB s.all.length (ed s x).1) m=some y→y.only (aw (gB s.all.length (ed s x).1))=true∧y.eg=true:=fun m y h=>lr (gI ar) J.cE h;have key:∀ m,aw (dM x (ed s x).2 (gB s.all.length (ed s x).1)) m=true→m=1900004∨m=1900003∨m=57∨(1000000≤m∧m<1900000):=fun m hm=>by
  rcases jv.1 hm with h | h | h
  ·exact .inl h
  ·exact .inr (.inl h)
  ·have:=tU ar h;omega
 refine ⟨fun m y hy=>⟨(rm hon hy).1,(rm hon hy).2,fun h=>by cases h⟩,fun m m' hm hm' e =>?_,fun m hm =>?_,fun m hm hno =>?_,rfl,fun h=>by cases h⟩
 ·have k1:=key m hm;have k2:=key m' hm';rw[me,me] at e
  (repeat' split at e) <;>omega
 ·rcases jv.1 hm with h | h | h
  ·exact jv.2 (.inl h)
  ·exact jv.2 (.inr (.inl h))
  ·refine jv.2 (.inr (.inr ?_));rcases (dN (dI _)).1 h with h5 | ⟨i,hi,rfl⟩
   ·exact (dN (gI ar)).2 (.inl h5)
   ·exact (dN (gI ar)).2 (.inr ⟨i,by omega,(lU hi).symm⟩)
 ·have hno2:¬ (m=1900004∨m=1900003∨aw (aM s) m=true):=fun h=>by
   rw[jv.2 h] at hno;cases hno
  rcases jv.1 hm with h | h | h
  ·exact absurd (.inl h) hno2
  ·exact absurd (.inr (.inl h)) hno2
  ·have h57:m=57:=by
    rcases (dN (gI ar)).1 h with h5 | ⟨i,hi,e⟩
    ·exact absurd (.inr (.inr ((dN (dI _)).2 (.inl h5)))) hno2
    ·by_cases hi2:i=s.all.length
     ·subst hi2;simpa[fS] using e
     ·exact absurd (.inr (.inr ((dN (dI _)).2 (.inr ⟨i,by omega,by rw[e,lU (by omega)]⟩)))) hno2
   subst h57;refine ⟨?_,by decide⟩
   show aj (pG s x) 57=none
   simp only[pG,aj,Nat.reduceEqDiff,if_false];exact eF (.inl (by omega)) fun i _=>by simp[bE];omega
theorem Hs{s:aC}(hk:cG s)(hlen:s.all.length≤100000)(x:bg):∀ r os',lW s x r os'→∃ osF,r.flat=true∧r.bn (bI lb)=r∧(∀ m z,aj osF m=some z→aj (dE lb os'++pG s x) m=some z∧z.only (aw osF)=true∧z.eg=true)∧Dd s x r osF:=by
 rintro r os' ⟨rfl,rfl⟩;obtain ⟨J,U,ah,ar⟩:=rQ hk x;refine ⟨gB s.all.length (ed s x).1,rfl,rfl,fun m z hz=>⟨?_,lr (gI ar) J.cE hz⟩,rfl,rfl⟩;have hm:=tU ar (n:=m) (by simp[aw,hz]);simp only[dM,xp,EM J ar hlen,Z5,aj,me];rw[if_neg (by simp only[Nat.reduceEqDiff,if_false,if_true];omega),if_neg (by simp only[if_true];omega),fK,hz]
theorem WV(f:Nat):(f+1000000<1000000)=False:=by simp
theorem BX{s:aC}(hk:cG s)(hlen:s.all.length≤100000)(x:bg)(b:Bool):gl [] (aM s) (dM x b (aM s)):=by
 refine ⟨fun m y hy=>⟨?_,iq hk hy⟩,fun m m' _ _ h=>h⟩;have hm:=lp (s:=s) (n:=m) (by simp[aw,hy]);rw[ao.kp (ρ:=bI []) (fun n=>rfl)]
 show aj (dM x b (aM s)) m=some y
 simp only[dM,aj];rw[if_neg (by omega),if_neg (by omega)];exact hy
theorem Zt{s s':aC}(hk':cG s')(ah:s.all.length≤s'.all.length)(ar:s'.all.length≤s.all.length+1)(x:bg):gE false [] (aM s) (dM x false (aM s)) (.tuple []) (gB s.all.length s'):=by
 refine ⟨fun m y hy=>⟨(lr (gI ar) hk'.cE hy).1,(lr (gI ar) hk'.cE hy).2,fun h=>by cases h⟩,fun m m' _ _ h=>h,fun m hm =>?_,fun m hm hno =>?_,rfl,fun h=>by cases h⟩
 ·rcases (dN (dI _)).1 hm with h5 | ⟨i,hi,rfl⟩
  ·exact (dN (gI ar)).2 (.inl h5)
  ·exact (dN (gI ar)).2 (.inr ⟨i,by omega,(lU hi).symm⟩)
 ·have h57:m=57:=by
   rcases (dN (gI ar)).1 hm with h5 | ⟨i,hi,e⟩
   ·rw[(dN (dI _)).2 (.inl h5)] at hno;cases hno
   ·by_cases hi2:i=s.all.length
    ·subst hi2;simpa[fS] using e
    ·rw[(dN (dI _)).2 (.inr ⟨i,by omega,by rw[e,lU (by omega)]⟩)] at hno;cases hno
  subst h57;refine ⟨?_,by decide⟩
  show aj (dM x false (aM s)) 57=none
  simp only[dM,aj,Nat.reduceEqDiff,if_false];exact eF (.inl (by omega)) fun i _=>by simp[bE];omega
theorem bO.wJ{ab:List FuncId}{K:ai→Prop}{f:FuncId}{s s':aC}{x:bg}{avs:List I}{a1 a2:Option (List I)}{dst:Option Nat}{rest:List aH}{ts:List (Nat×I)}(hk:cG s)(hlen:s.all.length≤100000)(hk':cG s')(ah:s.all.length≤s'.all.length)(ar:s'.all.length≤s.all.length+1)
  (hf:ab.contains f=true) (hc:cU Tryz.prog f [.ptr 1000000 [],enc x] (aM s) (tB s.all.length s')) (hav:avs=[.ptr 1000000 [],enc x])
  (h:bO Tryz.prog dx ab K (aB rest ((av ts (gB s.all.length s'++dM x false (aM s))).aS dst (.tuple [])))):bO Tryz.prog dx ab K (.call f avs a1 a2 dst rest (av ts (dM x false (aM s)))):=by
 subst hav;refine .wW false [] (aM s) [.ptr 1000000 [],enc x] _ hf hc (BX hk hlen x false) sq ?_ ?_
 ·rintro r os' ⟨rfl,rfl⟩;exact Zt hk' ah ar x
 ·rintro r os' ⟨rfl,rfl⟩;rw[l7];exact h
theorem Yd{Q:Exit→ai→Prop}{f:FuncId}{s:aC}{x:bg}(hk:cG s)(hlen:s.all.length≤100000)(hc:fi Tryz.prog f fD [.ptr 1000000 [],enc x] (aM s) (jV s)){ts:List (Nat×I)}(hq:Q (.panic fD) (av ts (aM s++dM x false (aM s)))):nv Tryz.prog Q f [.ptr 1000000 [],enc x] (av ts (dM x false (aM s))) :=
 .mk false [] (aM s) [.ptr 1000000 [],enc x] fD _ hc (BX hk hlen x false) sq (fun os' h=>by cases h;exact uO hk rfl) (fun os' h=>by cases h;rw[l7];exact hq)
theorem Hr{ts:List (Nat×I)}{s:aC}{x:bg}(hlen:s.all.length≤100000):av ts (aM s++dM x false (aM s))=av ts (dM x false (aM s)):=by
 simp only[av,ai.mk.injEq,true_and]
 funext n
 rw[fK];cases h:aj (aM s) n with
 |none=>rfl
 |some y =>
  have:=lp (s:=s) (n:=n) (by simp[aw,h]);simp only[dM,aj];rw[if_neg (by omega),if_neg (by omega),h]
theorem EI{s:aC}{x:bg}(hk:cG s)(hlen:s.all.length≤100000)(hn:ed s x=(s,false)){ts:List (Nat×I)}(ht:Abs.bY ts 4=.ptr 1900004 []):rz [.cell 4 none] (lW s x) fD 1900004 (.panic fD) (av ts (dM x false (aM s))):=by
 refine ⟨rfl,⟨false,rfl⟩,dM x false (aM s),[.bool false],fun m z hz=>⟨?_,rm (fun _ _ h=>iq hk h) hz⟩,⟨⟨.bool false,?_,.inl ⟨rfl,rfl,rfl⟩⟩,trivial⟩,?_⟩
 ·show aj ((1900004,.box (.bool false))::dM x false (aM s)) m=some z
  simp only[aj];split
  ·rename_i h;subst h;exact hz
  ·exact hz
 ·show (match cM _ (Abs.bY ts 4) with | some x=>if cg none x=true then some x else none | none=>none)=some (I.bool false)
  rw[ht];rfl
 ·show lW s x (.bool false) (dM x false (aM s))
  simp only[lW];rw[hn];exact ⟨rfl,congrArg _ (tV hk (Z4 _)).symm⟩
theorem YX{s:aC}(hk:cG s)(hlen:s.all.length≤100000)(x:bg)(W:World)(D:aP)(E:aY)(n:Nat)(d:Deferred) :
  ae ⟨Tryz.prog,W,D,n,cL E,E,dx,none,some [d]⟩ xu (rz [.cell 4 none] (lW s x) fD 1900004) (av [(0,.ptr 1000000 []),(3,.ptr 1900003 []),(4,.ptr 1900004 [])] (dM x false (aM s))):=by
 have aW:aj (dM x false (aM s)) 1000000=some (.box (.agg [.int .i64 s.au,.mref 1000001,.mref 1000002,.int .i64 s.all.length,.mref 1000003,.mref 1000004])):=by
  simp only[dM,aj,Nat.reduceEqDiff,if_false];exact fB
 have ar:aj (dM x false (aM s)) 1000004=some (.bz gK (jm 1000000)):=by
  simp only[dM,aj,Nat.reduceEqDiff,if_false];exact oA
 have hb3:aj (dM x false (aM s)) 1900003=some (.box (enc x)):=rfl;have hb4:aj (dM x false (aM s)) 1900004=some (.box (.bool false)):=rfl;have hF:=Gs x;simp only[xu];rcases hx:hl x
 ·rw[hx] at hF;have hn:ed s x=(s,false):=by simp[ed,gD,hx]
  have R:=y6 @aW (y6 @ar (y6 @hb3 (y6 @hb4 (y6 @bB (y6 @bw aD)))))
  repeat' ((first |(with_reducible refine .guard (fun hb =>?_) (fun hb =>?_) <;>try simp only[hb])|(refine ae.od (gs:=BD) (gs1:=[_,_]) rfl fun K hK =>?_)|refine ae.aF (by decide +kernel) rfl fun K hK =>?_|refine .flat _ (hF) rfl ?_|(refine .ay [0,1,3,4] hK ?_;clear hK K)|(with_reducible refine .done (hK _ ?_);clear hK K)|refine ae.of rfl ?_|(with_reducible refine az.aE (fun h =>?_) (fun h =>?_) <;>try simp only[h])) <;>try simp only[aG,R,simprocAttr])
  all_goals clear R
  exact .call (ik (EI hk hlen hn rfl))
 rw[hx] at hF;obtain ⟨f,hlk,hfc,hdo⟩:=wJ hk hlen hx;have hfl:=sI f;have hlm:=WV f;have hkd:(enc x:I).dP=some [.int .i64 x.kind,.int .i64 x.aK,.int .i64 x.other,.int .i64 x.no]:=rfl;simp only[kD] at hdo;cases hn:eQ s x with
 |none =>
  rw[hn] at hdo;have hn2:ed s x=(s,false):=by simp[ed,gD,hx,hn]
  have R:=y6 @aW (y6 @ar (y6 @hb3 (y6 @hb4 (y6 @hlk (y6 @hfl (y6 @hlm (y6 @bB (y6 @bw aD))))))))
  repeat' ((first |(with_reducible refine .guard (fun hb =>?_) (fun hb =>?_) <;>try simp only[hb])|(refine ae.jw (gs:=qA) 8 [] [] [0,1,2,3,4,5,6,7] (by decide +kernel) rfl (cX.of (by simp[fw])) fun K hK =>?_;simp only[ff,qA,gx,Z5,zy5,List.take_zero,zz7,zz8,R,simprocAttr])|refine ae.aF (by decide +kernel) rfl fun K hK =>?_|refine .flat _ (hF) rfl ?_|refine .flat _ (kE) rfl ?_|(refine .ay [0,1,3,4] hK ?_;clear hK K)|(with_reducible refine .done (hK _ ?_);clear hK K)|refine ae.of rfl ?_|(with_reducible refine az.aE (fun h =>?_) (fun h =>?_) <;>try simp only[h])) <;>try simp only[aG,R,simprocAttr])
  all_goals clear R
  refine .fH (f:=f+1000000) (caps:=[.ptr 1000000 []]) rfl ?_;rw[sI,vB];exact Yd hk hlen hdo (by rw[Hr hlen];exact EI hk hlen hn2 rfl)
 |some s' =>
  rw[hn] at hdo;have hn2:ed s x=(s',true):=by simp[ed,gD,hx,hn]
  have hso:=rQ hk x;rw[hn2] at hso;simp only at hso;obtain ⟨k1,k2,k3,k4⟩:=hso;have e4:∀ n,n=1900004∨n=1900003→aj (gB s.all.length s') n=none:=fun n hn=>by
   rcases hn with rfl | rfl <;>exact eF (.inr (by omega)) fun i hi=>by simp only[fS];split <;>omega
  have hb4':aj (gB s.all.length s'++dM x false (aM s)) 1900004=some (.box (.bool false)):=by
   rw[fK,e4 _ (.inl rfl)];exact hb4
  have hst:∀ A rest,de A none 1900004 [] (.bool false) (.bool true) rest (some (.bool false))=aB rest (A.aT 1900004 (.box (.bool true))):=fun A rest=>dG rfl rfl rfl;have R:=y6 @aW (y6 @ar (y6 @hb3 (y6 @hb4 (y6 @hb4' (y6 @hst (y6 @hlk (y6 @hfl (y6 @hlm (y6 @bB (y6 @bw aD))))))))))
  repeat' ((first |(with_reducible refine .guard (fun hb =>?_) (fun hb =>?_) <;>try simp only[hb])|(refine ae.rA (gs:=qA) [125,126,127,128,129,130,131,132] [] [0,1,2,3,4,5,6,7,8] (by decide +kernel) (cX.of (by simp[fw])) fun K hK =>?_;simp only[ff,qA,zz7,zz8,R,simprocAttr])|refine ae.aF (by decide +kernel) rfl fun K hK =>?_|refine .flat _ (hF) rfl ?_|refine .flat _ (kE) rfl ?_|refine bO.wJ hk hlen k1 k3 k4 hfc hdo rfl ?_|(refine .ay [0,1,3,4] hK ?_;clear hK K)|(with_reducible refine .done (hK _ ?_);clear hK K)|refine ae.of rfl ?_|(with_reducible refine az.aE (fun h =>?_) (fun h =>?_) <;>try simp only[h])) <;>try simp only[aG,R,simprocAttr])
  all_goals clear R
  refine ⟨⟨true,rfl⟩,dM x true (gB s.all.length s'),[.bool true],fun m z hz=>⟨?_,rm (fun _ _ h=>lr (gI k4) k1.cE h) hz⟩,⟨⟨.bool true,rfl,.inl ⟨rfl,rfl,rfl⟩⟩,trivial⟩,?_⟩
  ·show aj ((1900004,.box (.bool true))::(gB s.all.length s'++dM x false (aM s))) m=some z
   simp only[dM,aj] at hz ⊢;split
   ·rename_i h;rw[if_pos h] at hz;exact hz
   rename_i h;rw[if_neg h] at hz;rw[fK];split at hz
   ·rename_i U;rw[U,e4 _ (.inr rfl),←U];simp only[aj,if_neg h];exact hz
   ·rw[hz]
  ·show lW s x (.bool true) (dM x true (gB s.all.length s'))
   simp only[lW];rw[hn2];exact ⟨rfl,rfl⟩
theorem GG(s:aC)(hk:cG s)(hlen:s.all.length≤100000)(x:bg):cU Tryz.prog 81 [.ptr 1000000 [],enc x] (aM s) (Dd s x):=by
 refine cU.X0 Tryz.func81 IW L8 Le (u8 rfl) (u8 rfl) dz YJ YI (by decide) fun hwf W0 bF E1 =>?_;simp only[bJ,Z1];clear hwf;have n3:aj (aM s) 3=none:=eF (.inl (by omega)) fun i _=>by simp[bE];omega
 have n4:aj (aM s) 4=none:=eF (.inl (by omega)) fun i _=>by simp[bE];omega
 refine .kn (by decide +kernel) fun K hK =>?_
 try simp only[BC,n3,n4,aD,bG,simprocAttr]
 refine .done (hK _ ?_);simp only[ez];refine ⟨_,_,lb,dM x false (aM s),[0,3,4],[.ptr 1000000 [],.ptr 1900003 [],.ptr 1900004 []],1900004,false,lW s x,rfl,?_⟩;exact {
  fG:=rfl
  BW:=Wh hk hlen x
  arg:=⟨.inl ⟨rfl,jv.2 (.inr (.inr ((dN (dI _)).2 (.inl (by omega))))),rfl⟩,.inl ⟨rfl,jv.2 (.inr (.inl rfl)),rfl⟩,.inl ⟨rfl,jv.2 (.inl rfl),rfl⟩,trivial⟩
  yJ:=Ht hk hlen x
  Fk:=rfl
  box:=rfl
  lO:=fun m hm=>by
   have:1000000≤m:=by
    rcases jv.1 hm with h | h | h
    ·omega
    ·omega
    ·exact (lp h).1
   exact ⟨zw3 (u8 rfl) this,this⟩
  rest:=fun W D E d=>YX hk hlen x W D E _ d
  iu:=Hs hk hlen x }
end Go.Proofs.YthbdbocionnfgaaGreatDoor
namespace Go.Abs
open Go Go.RowKit
theorem bm.fn{ts ts':List (Nat×I)}{os os':List (Nat×ao)}(J:b6 ts ts')(U:∀ n,aj os' n=none∨aj os' n=aj os n)(ah:cm (aw os') ts')(ar:∀ n x,aj os' n=some x→x.only (aw os')=true):bm (av ts os) (av ts' os'):=by
 rintro c a w ⟨D,E,ab⟩;have hp:∀ n,aw os' n=true→(if aw os' n then E n else none)=E n:=fun n hn=>by simp[hn]
 refine ⟨D,fun n=>if aw os' n then E n else none,ab.sz,ab.eB,fun t =>?_,ab.dO,ab.c9,ab.aQ,fun n =>?_,fun n m e e' b J U ah ar =>?_,fun n e hn =>?_,ab.eP,ab.cT,ab.eW,ab.fC⟩
 ·have:=uc J t;rcases this with h | h
  ·simp only[av];rw[h];simp[aZ]
  ·refine aZ.db (p:=aw os') hp (w6 ah t) ?_;have:=ab.dR t;simp only[av] at *;rw[h];exact this
 ·have ho:=ab.bP n;simp only[av] at *;rcases U n with h | h
  ·rw[h];simp[c6,aw,h]
  ·rw[h];by_cases hin:aj os n=none
   ·rw[hin];simp[c6,aw,h,hin]
   ·have aA:(if aw os' n then E n else none)=E n:=hp n (by simp[aw,h];cases bH:aj os n <;>simp_all);cases hx:aj os n with
    |none=>exact absurd hx hin
    |some x =>
     have hon:=ar n x (h.trans hx);rw[hx] at ho;cases x with
     |box x =>
      obtain ⟨b,cs,T,k1,k2,k3,k4,k5⟩:=ho;exact ⟨b,cs,T,aA.trans k1,k2,k3,al.db hp _ _ (by simpa[ao.only] using hon) k4,k5⟩
     |bU T sz es =>
      obtain ⟨aJ,k1,k2,k3⟩:=ho;refine ⟨aJ,aA.trans k1,k2,?_⟩;cases aJ with
      |none=>exact k3
      |some bc =>
       obtain ⟨b,cap⟩:=bc;obtain ⟨cs,pre,rest,q1,q2,q3,q4,q5⟩:=k3;exact ⟨cs,pre,rest,q1,q2,q3,aN.db hp _ _ (by simpa[ao.only] using hon) q4,q5⟩
     |dK T xs =>
      obtain ⟨aJ,k1,k2,k3⟩:=ho;exact ⟨aJ,aA.trans k1,k2,k3⟩
     |dJ x =>
      obtain ⟨b,k1,k2⟩:=ho;exact ⟨b,aA.trans k1,k2⟩
     |bz ks vs =>
      obtain ⟨b,es,ck,k1,k2,k3,k4,k5,k6,k7⟩:=ho;simp only[ao.only,t8] at hon;exact ⟨b,es,ck,aA.trans k1,k2,k3,k4,aI.db hp _ _ hon.1 k5,aI.db hp _ _ hon.2 k6,k7⟩
     |it ks vs left cur =>
      obtain ⟨r,b,es,ck,si,se,la,k1,k2,k3,k4,k5,k6,k7⟩:=ho;simp only[ao.only,t8] at hon;exact ⟨r,b,es,ck,si,se,la,aA.trans k1,k2,k3,k4,aI.db hp _ _ hon.1 k5,aI.db hp _ _ hon.2 k6,k7⟩
 ·refine ab.cQ n m e e' b ?_ ?_ ah ar
  ·split at J
   ·exact J
   ·cases J
  ·split at U
   ·exact U
   ·cases U
 ·by_cases hi:aw os' n=true
  ·simp only[hi,if_true];exact ab.dS n e hn
  ·simp only[hi];exact .inl rfl
end Go.Abs
namespace Go.Proofs.YthbdbocionnfgaaGreatDoor
open Go Go.Abs
open Go.Abs.Enc (enc)
theorem CI:(∀ v:I,v.bT=true→fy (.i .i64) (.int .i64 1) v [] []=some ([.int .i64 1],[v]))∧(∀ a1 v:I,v.bT=true→fy (.i .i64) (.int .i64 2) v [.int .i64 1] [a1]=some ([.int .i64 1,.int .i64 2],[a1,v]))∧(∀ a1 a2 v:I,v.bT=true→fy (.i .i64) (.int .i64 3) v [.int .i64 1,.int .i64 2] [a1,a2]=some ([.int .i64 1,.int .i64 2,.int .i64 3],[a1,a2,v]))∧(∀ a1 a2 a3 v:I,v.bT=true→fy (.i .i64) (.int .i64 4) v [.int .i64 1,.int .i64 2,.int .i64 3] [a1,a2,a3]=some ([.int .i64 1,.int .i64 2,.int .i64 3,.int .i64 4],[a1,a2,a3,v]))∧(∀ a1 a2 a3 a4 v:I,v.bT=true→fy (.i .i64) (.int .i64 5) v [.int .i64 1,.int .i64 2,.int .i64 3,.int .i64 4] [a1,a2,a3,a4]=some ([.int .i64 1,.int .i64 2,.int .i64 3,.int .i64 4,.int .i64 5],[a1,a2,a3,a4,v]))∧(∀ a1 a2 a3 a4 a5 v:I,v.bT=true→fy (.i .i64) (.int .i64 6) v [.int .i64 1,.int .i64 2,.int .i64 3,.int .i64 4,.int .i64 5] [a1,a2,a3,a4,a5]=some ([.int .i64 1,.int .i64 2,.int .i64 3,.int .i64 4,.int .i64 5,.int .i64 6],[a1,a2,a3,a4,a5,v]))∧(∀ a1 a2 a3 a4 a5 a6 v:I,v.bT=true→fy (.i .i64) (.int .i64 7) v [.int .i64 1,.int .i64 2,.int .i64 3,.int .i64 4,.int .i64 5,.int .i64 6] [a1,a2,a3,a4,a5,a6]=some ([.int .i64 1,.int .i64 2,.int .i64 3,.int .i64 4,.int .i64 5,.int .i64 6,.int .i64 7],[a1,a2,a3,a4,a5,a6,v]))∧(∀ a1 a2 a3 a4 a5 a6 a7 v:I,v.bT=true→fy (.i .i64) (.int .i64 8) v [.int .i64 1,.int .i64 2,.int .i64 3,.int .i64 4,.int .i64 5,.int .i64 6,.int .i64 7] [a1,a2,a3,a4,a5,a6,a7]=some ([.int .i64 1,.int .i64 2,.int .i64 3,.int .i64 4,.int .i64 5,.int .i64 6,.int .i64 7,.int .i64 8],[a1,a2,a3,a4,a5,a6,a7,v])) :=
 ⟨fun  v h=>by simp[fy,eD,ca,I.bT];try exact h,fun a1 v h=>by simp[fy,eD,ca,I.bT];try exact h,fun a1 a2 v h=>by simp[fy,eD,ca,I.bT];try exact h,fun a1 a2 a3 v h=>by simp[fy,eD,ca,I.bT];try exact h,fun a1 a2 a3 a4 v h=>by simp[fy,eD,ca,I.bT];try exact h,fun a1 a2 a3 a4 a5 v h=>by simp[fy,eD,ca,I.bT];try exact h,fun a1 a2 a3 a4 a5 a6 v h=>by simp[fy,eD,ca,I.bT];try exact h,fun a1 a2 a3 a4 a5 a6 a7 v h=>by simp[fy,eD,ca,I.bT];try exact h⟩
theorem bR:(∀ f c,(I.func f c).bT=true)∧(∀ n,(I.mref n).bT=true)∧(∀ n p,(I.ptr n p).bT=true):=⟨fun _ _=>rfl,fun _=>rfl,fun _ _=>rfl⟩
def nV(au:Int):List (Nat×ao):=[(9,.box (.agg [.int .i64 au,.mref 5,.mref 6,.int .i64 0,.mref 7,.mref 11])),(5,.bz [] []),(6,.bz [] []),(7,.bz [] []),(11,.bz gK (jm 9))]
def eU(au:Int):aC:=⟨au,[],[],[],[]⟩
def Ym(au:Int):cK:=fun r os'=>r=.ptr 9 []∧os'=nV au
theorem FN(au:Int):cU Tryz.prog 106 [enc au] [] (Ym au):=by
 refine cU.cd Tryz.func106 H8 Jd Kk (u8 rfl) (u8 rfl) (fun m hm=>by simp[aw,aj] at hm) (fun hwf W0 bF E1 =>?_);simp only[yV,Dp,bJ];clear hwf;have hbld:(dQ [.int .i64 0,.raw (.map none),.raw (.map none),.int .i64 0,.raw (.map none),.raw (.map none)] [(0,.int .i64 au),(1,.mref 5),(2,.mref 6),(4,.mref 7)]).map I.agg=some (.agg [.int .i64 au,.mref 5,.mref 6,.int .i64 0,.mref 7,.raw (.map none)]):=by simp[dQ,I.bT,I.size]
 have hst:∀ A rest,de A none 9 [5] (.agg [.int .i64 au,.mref 5,.mref 6,.int .i64 0,.mref 7,.raw (.map none)]) (.mref 11) rest (some (.raw (.map none)))=aB rest (A.aT 9 (.box (.agg [.int .i64 au,.mref 5,.mref 6,.int .i64 0,.mref 7,.mref 11]))):=fun A rest=>dG rfl rfl rfl;have hval:∀ a b c d e f:I,(I.agg [a,b,c,d,e,f]).bT=true:=fun _ _ _ _ _ _=>rfl;have hoff:∀ v,du [.int .i64 au,.mref 5,.mref 6,.int .i64 0,.mref 7,.raw (.map none)] 5 5 v=some v:=fun _=>rfl;have hall:([I.ptr 9 []].all fun y=>y.bT)=true:=rfl;have R:=y6 @hall (y6 @hbld (y6 @hst (y6 @hval (y6 @hoff (y6 @CI (y6 @bR (y6 @bB (y6 @bw aD))))))))
 repeat' ((first |refine ae.aF (by decide +kernel) rfl fun K hK =>?_|(refine .ay [0,2,3] hK ?_;clear hK K)|(with_reducible refine .done (hK _ ?_);clear hK K)|refine ae.of rfl ?_|(with_reducible refine az.aE (fun h =>?_) (fun h =>?_) <;>try simp only[h])) <;>try simp only[aG,R,simprocAttr])
 all_goals clear R
 refine ⟨nV au,[.ptr 9 []],fun n x hx =>?_,⟨⟨_,rfl,.inl ⟨rfl,rfl,rfl⟩⟩,trivial⟩,rfl,rfl⟩;simp only[nV,aj] at hx
 (repeat' split at hx) <;>first
  |(cases hx;done)
  |(rename_i h;subst h;cases hx;exact ⟨rfl,rfl,rfl⟩)
abbrev dv(s:aC):List (Nat×ao):=ec 2000 (bE 2000) s
def xv:List (Nat×Nat):=[(9,2000),(5,2001),(6,2002),(7,2003),(11,2004)]
theorem YS(au:Int):dE xv (nV au)=dv (eU au):=rfl
theorem kV(au:Int):cG (eU au):=⟨fun i hi=>by simp[eU] at hi,by simp[eU],by simp[eU]⟩
theorem aR.eU{K:ai→Prop}{au:Int}{avs:List I}{a1 a2:Option (List I)}{dst:Option Nat}{rest:List aH}{ts:List (Nat×I)}{os0:List (Nat×ao)}(hav:avs=[enc au])(hno:∀ m,2000≤m→m<1000000→aj os0 m=none)
  (h:aR Tryz.prog dx false K (aB rest ((av ts (dv (Go.Proofs.YthbdbocionnfgaaGreatDoor.eU au)++os0)).aS dst (.ptr 2000 [])))):aR Tryz.prog dx false K (.call 106 avs a1 a2 dst rest (av ts os0)):=by
 subst hav;have key:∀ m,aw (nV au) m=true→m=9∨m=5∨m=6∨m=7∨m=11:=fun m hm=>by
  simp only[aw,nV,aj] at hm
  (repeat' split at hm) <;>first | omega | (simp at hm;done)
 refine .bP false xv [] [enc au] _ rfl (FN au) ⟨fun m x hx=>by simp[aj] at hx,fun m m' hm=>by simp[aw,aj] at hm⟩ ⟨.inl ⟨(kR _ _).symm,b7 _ _,ef _⟩,trivial⟩ ?_ ?_
 ·rintro r os' ⟨rfl,rfl⟩;refine ⟨fun m y hy =>?_,fun m m' hm hm' e =>?_,fun m hm=>by simp[aw,aj] at hm,fun m hm _ =>?_,rfl,fun h=>by cases h⟩
  ·simp only[nV,aj] at hy
   (repeat' split at hy) <;>first
    |(cases hy;done)
    |(rename_i h;subst h;cases hy;exact ⟨rfl,rfl,fun h=>by cases h⟩)
  ·rcases key m hm with rfl | rfl | rfl | rfl | rfl <;>rcases key m' hm' with rfl | rfl | rfl | rfl | rfl <;>first | rfl | (simp[xv,bI] at e;done)
  ·rcases key m hm with rfl | rfl | rfl | rfl | rfl <;>exact ⟨hno _ (by decide) (by decide),by decide⟩
 ·rintro r os' ⟨rfl,rfl⟩;rw[YS];exact h
def pM(k:Nat):List (Nat×Nat):=(57,2005+k)::(List.range' 0 400).map fun j=>(1000000+j,2000+j)
theorem EY(m:Nat):∀ k a,bI ((List.range' a k).map fun j=>(1000000+j,2000+j)) m=if 1000000+a≤m∧m<1000000+a+k then m-998000 else m
 |0,a=>by
  rw[if_neg (by omega)];rfl
 |k+1,a=>by
  rw[List.range'_succ,Z3,bI,EY m k (a+1)];by_cases h:m=1000000+a
  ·rw[if_pos h,if_pos (by omega)];omega
  ·rw[if_neg h];by_cases U:1000000+(a+1)≤m∧m<1000000+(a+1)+k
   ·rw[if_pos U,if_pos (by omega)]
   ·rw[if_neg U,if_neg (by omega)]
theorem jX(k m:Nat):bI (pM k) m=if m=57 then 2005+k else if 1000000≤m∧m<1000400 then m-998000 else m:=by
 simp only[pM,bI,EY,Nat.add_zero,Nat.reduceAdd]
theorem iA(k:Nat):gp 2000 (bE 2000) k:=gp.bE _ _
theorem lq{s:aC}(hk:cG s){n:Nat}{x:ao}(h:aj (dv s) n=some x):x.only (aw (dv s))=true∧x.eg=true:=lr (iA _) hk.cE h
theorem xQ{s:aC}{n:Nat}(hn:aw (dv s) n=true):2000≤n∧n<2005+s.all.length:=by
 rcases (dN (iA _)).1 hn with U | ⟨i,hi,rfl⟩
 ·omega
 ·simp only[bE];omega
theorem EL{s:aC}(hk:cG s){k:Nat}(h:s.all.length≤k+1)(hlen:k≤300):dE (pM k) (gB k s)=dv s :=
 EP hk.cE (fun j hj=>by rw[jX,if_neg (by omega),if_pos (by omega)];omega) fun i hi=>by
  simp only[fS,bE];split
  ·rename_i e;rw[jX,if_pos rfl];omega
  ·rw[jX,if_neg (by omega),if_pos (by omega)];omega
theorem YP{s:aC}(hk:cG s){k:Nat}(h:s.all.length≤k)(hlen:k≤300):dE (pM k) (aM s)=dv s:=by
 rw[←tV hk h];exact EL hk (by omega) hlen
theorem aR.rU{K:ai→Prop}{s s2:aC}{b:Bool}{x:bg}{avs:List I}{a1 a2:Option (List I)}{dst:Option Nat}{rest:List aH}{ts:List (Nat×I)}{ow:List (Nat×ao)}(hk:cG s)(hlen:s.all.length≤300)(hav:avs=[.ptr 2000 [],enc x])(how:∀ m,2000≤m→aj ow m=none)(hst:ed s x=(s2,b))
  (h:aR Tryz.prog dx false K (aB rest ((av ts (dv s2++(ow++dv s))).aS dst (.bool b)))):aR Tryz.prog dx false K (.call 81 avs a1 a2 dst rest (av ts (ow++dv s))):=by
 subst hav;obtain ⟨J,U,ah,ar⟩:=rQ hk x;refine .bP false (pM s.all.length) (aM s) [.ptr 1000000 [],enc x] _ rfl (GG s hk (by omega) x) ⟨fun m y hy=>⟨?_,iq hk hy⟩,fun m m' hm hm' e =>?_⟩ ⟨.inl ⟨?_,(dN (dI _)).2 (.inl (by omega)),rfl⟩,.inl ⟨(kR _ _).symm,b7 _ _,ef _⟩,trivial⟩ ?_ ?_
 ·have hm:=lp (s:=s) (n:=m) (by simp[aw,hy]);have:=Ct (ρ:=pM s.all.length) (os:=aM s) (m:=m) (fun m' hm' he=>by
   have:=lp hm';rw[jX,jX] at he
   (repeat' split at he) <;>omega) hy
  rw[YP hk (Z4 _) hlen] at this;rw[fK,how]
  ·exact this
  ·rw[jX,if_neg (by omega),if_pos (by omega)];omega
 ·have k1:=lp hm;have k2:=lp hm';rw[jX,jX] at e
  (repeat' split at e) <;>omega
 ·simp only[I.bn,jX];rfl
 ·rintro r os' ⟨rfl,rfl⟩;refine ⟨fun m y hy=>⟨(lr (gI ar) J.cE hy).1,(lr (gI ar) J.cE hy).2,fun h=>by cases h⟩,fun m m' hm hm' e =>?_,fun m hm =>?_,fun m hm hno =>?_,rfl,fun h=>by cases h⟩
  ·have k1:=tU ar hm;have k2:=tU ar hm';have e1:∀ m,m=57∨(1000000≤m∧m<1000005+s.all.length)→True:=fun _ _=>trivial;have key:∀ m,aw (gB s.all.length (ed s x).1) m=true→m=57∨(1000000≤m∧m<1000005+s.all.length):=fun m hm=>by
    rcases (dN (gI ar)).1 hm with h5 | ⟨i,hi,rfl⟩
    ·omega
    ·simp only[fS];split <;>omega
   have k1:=key m hm;have k2:=key m' hm';rw[jX,jX] at e
   (repeat' split at e) <;>omega
  ·rcases (dN (dI _)).1 hm with h5 | ⟨i,hi,rfl⟩
   ·exact (dN (gI ar)).2 (.inl h5)
   ·exact (dN (gI ar)).2 (.inr ⟨i,by omega,(lU hi).symm⟩)
  ·have h57:m=57:=by
    rcases (dN (gI ar)).1 hm with h5 | ⟨i,hi,e⟩
    ·rw[(dN (dI _)).2 (.inl h5)] at hno;cases hno
    ·by_cases hi2:i=s.all.length
     ·subst hi2;simpa[fS] using e
     ·rw[(dN (dI _)).2 (.inr ⟨i,by omega,by rw[e,lU (by omega)]⟩)] at hno;cases hno
   subst h57;rw[jX,if_pos rfl];refine ⟨?_,by omega⟩;rw[fK,how _ (by omega)];exact eF (.inr (by omega)) fun i hi=>by simp only[bE];omega
 ·rintro r os' ⟨rfl,rfl⟩;rw[EL J ar hlen,hst];exact h
def ga:aC→List bg→Option aC
 |s,[]=>some s
 |s,x::l=>match gD s x with
  |some s'=>ga s' l
  |none=>none
theorem pO:∀ (l:List bg) (s:aC) (l2:List bg),ga s (l++l2)=(ga s l).bind fun s'=>ga s' l2
 | [],s,l2=>rfl
 |x::l,s,l2=>by
  simp only[Z5,ga];cases gD s x with
  |none=>rfl
  |some s'=>exact pO l s' l2
theorem xV{s s':aC}{x:bg}(hk:cG s)(h:gD s x=some s'):cG s'∧s'.au=s.au∧s'.all.length≤s.all.length+1:=by
 simp only[gD] at h;split at h
 ·obtain ⟨J,U,ah,_⟩:=hk.next h
  exact ⟨J,U,ah⟩
 ·cases h
theorem nc:∀ {l:List bg} {s s':aC},cG s→ga s l=some s'→cG s'∧s'.au=s.au∧s'.all.length≤s.all.length+l.length
 | [],s,s',hk,h=>by cases h;exact ⟨hk,rfl,Z4 _⟩
 |x::l,s,s',hk,h=>by
  simp only[ga] at h;cases hx:gD s x with
  |none=>rw[hx] at h;cases h
  |some s2 =>
   rw[hx] at h;obtain ⟨J,U,ah⟩:=xV hk hx;obtain ⟨k1,k2,k3⟩:=nc J h;exact ⟨k1,k2.trans U,by simp only[zx7];omega⟩
def fL(au:Int)(l:List bg):Option aC:=ga (eU au) l
def rp(au:Int)(l:List bg):cK:=fun r os'=>match fL au l with
 |some s=>r=.tuple [.ptr 2000 [],.bool true]∧os'=dv s
 |none=>r=.tuple [.nilp,.bool false]∧os'=[]
def sc(l:List bg)(t:Nat×aC):ai:=av [(6,.ptr 2000 []),(11,enc l),(12,.int .i64 l.length),(13,.int .i64 t.1)] (dv t.2)
theorem Gp(au:Int)(l:List bg)(aq:l.length≤200):cU Tryz.prog 62 [enc au,enc l] [] (rp au l):=by
 refine cU.cd Tryz.func62 Al AE AM (u8 rfl) (u8 rfl) (fun m hm=>by simp[aw,aj] at hm) (fun hwf W0 bF E1 =>?_);simp only[u5,xj,bJ,Z1];clear hwf;have R:=y6 @bR (y6 @bB (y6 @bw aD))
 repeat' ((first |refine ae.aF (by decide +kernel) rfl fun K hK =>?_|refine aR.eU rfl (fun _ _ _=>rfl) ?_|(refine .ay [0,1,4,5,6,8,11,12,13,14,20] hK ?_;clear hK K)|(with_reducible refine .done (hK _ ?_);clear hK K)|refine ae.of rfl ?_|(with_reducible refine az.aE (fun h =>?_) (fun h =>?_) <;>try simp only[h])) <;>try simp only[aG,R,simprocAttr])
 all_goals clear R
 refine ae.loop (sc l) (fun t=>t.1≤l.length∧ga (eU au) (l.take t.1)=some t.2) (fun t=>l.length-t.1) (0,eU au) ⟨zy3 _,rfl⟩ ?_ ?_
 ·rw[zx4];refine bm.fn ?_ (fun n=>.inr rfl) ?_ (fun n x h=>(lq (kV au) h).1)
  ·simp[b6,bZ]
  ·have:=(dN (iA (eU au).all.length) (n:=2000)).2 (.inl (by omega));simp[cm,I.only,b7,this]
 rintro ⟨i,s⟩ ⟨hi,hrun⟩;simp only at hi hrun;obtain ⟨hk,hme,hln⟩:=nc (kV au) hrun;have hln2:s.all.length≤i:=by simpa[eU,hi] using hln
 have n8:aj (dv s) 8=none:=eF (.inl (by omega)) fun i _=>by simp[bE];omega
 simp only[sc];by_cases hlt:i<l.length
 ·have hc:=fm hlt;have he:=fun A=>eb (A:=A) 4 hlt rfl;have hw:=fo (i:=i) (by omega);have hst:∀ A rest,de A (some 4) 8 [] (.agg [.int .i64 0,.int .i64 0,.int .i64 0,.int .i64 0]) (enc l[i]) rest (some (.agg [.int .i64 0,.int .i64 0,.int .i64 0,.int .i64 0]))=aB rest (A.aT 8 (.box (enc l[i]))):=fun A rest=>dG (ef _) (by rw[fb];rfl) (eH _);have how:∀ (a b:ao) m,2000≤m→aj [(8,a),(8,b)] m=none:=fun a b m hm=>by simp only[aj];rw[if_neg (by omega),if_neg (by omega)]
  have hsp:l=l.take i++l[i]::l.drop (i+1):=by simp
  cases hn:gD s l[i] with
  |none =>
   have ab:ed s l[i]=(s,false):=by simp[ed,hn]
   have R:=y6 @hc (y6 @he (y6 @hst (y6 @n8 (y6 @bR (y6 @bB (y6 @bw aD))))))
   repeat' ((first |refine ae.aF (by decide +kernel) rfl fun K hK =>?_|refine aR.rU (ow:=[(8,_),(8,_)]) hk (by omega) rfl (how _ _) ab ?_|(refine .ay [0,1,4,5,6,8,11,12,13,14,20] hK ?_;clear hK K)|(with_reducible refine .done (hK _ ?_);clear hK K)|refine ae.of rfl ?_|(with_reducible refine az.aE (fun h =>?_) (fun h =>?_) <;>try simp only[h])) <;>try simp only[aG,R,simprocAttr])
   all_goals clear R
   have hno:fL au l=none:=by
    rw[fL,hsp,pO,hrun];simp only[Option.bind_some,ga,hn]
   refine ⟨[],[.nilp,.bool false],fun n x hx=>by simp[aj] at hx,⟨⟨_,rfl,.inl ⟨rfl,rfl,rfl⟩⟩,⟨_,rfl,.inl ⟨rfl,rfl,rfl⟩⟩,trivial⟩,?_⟩;unfold rp;rw[hno];exact ⟨rfl,rfl⟩
  |some s2 =>
   have ab:ed s l[i]=(s2,true):=by simp[ed,hn]
   have R:=y6 @hc (y6 @he (y6 @hst (y6 @hw (y6 @n8 (y6 @bR (y6 @bB (y6 @bw aD)))))))
   repeat' ((first |refine ae.aF (by decide +kernel) rfl fun K hK =>?_|refine aR.rU (ow:=[(8,_),(8,_)]) hk (by omega) rfl (how _ _) ab ?_|(refine .ay [0,1,4,5,6,8,11,12,13,14,20] hK ?_;clear hK K)|(with_reducible refine .done (hK _ ?_);clear hK K)|refine ae.of rfl ?_|(with_reducible refine az.aE (fun h =>?_) (fun h =>?_) <;>try simp only[h])) <;>try simp only[aG,R,simprocAttr])
   all_goals clear R
   obtain ⟨hk2,hme2,hln3⟩:=xV hk hn;refine ⟨(i+1,s2),⟨by simp only;omega,?_⟩,by simp only;omega,?_⟩
   ·rw[Z9 hlt,pO,hrun];simp only[Option.bind_some,ga,hn]
   ·refine bm.fn ?_ (fun n =>?_) ?_ (fun n x h=>(lq hk2 h).1)
    ·simp[b6,bZ]
    ·simp only[fK];cases aj (dv s2) n with
     |none=>exact .inl rfl
     |some y=>exact .inr rfl
    ·have:=(dN (iA s2.all.length) (n:=2000)).2 (.inl (by omega));simp[cm,I.only,b7,this]
 ·have hge:i=l.length:=by omega
  have hc:=fu hlt;subst hge;rw[zx3] at hrun;have R:=y6 @hc (y6 @bR (y6 @bB (y6 @bw aD)))
  repeat' ((first |refine ae.aF (by decide +kernel) rfl fun K hK =>?_|(refine .ay [0,1,4,5,6,8,11,12,13,14,20] hK ?_;clear hK K)|(with_reducible refine .done (hK _ ?_);clear hK K)|refine ae.of rfl ?_|(with_reducible refine az.aE (fun h =>?_) (fun h =>?_) <;>try simp only[h])) <;>try simp only[aG,R,simprocAttr])
  all_goals clear R
  refine ⟨dv s,[.ptr 2000 [],.bool true],fun n x hx=>⟨hx,lq hk hx⟩,⟨⟨_,rfl,.inl ⟨rfl,rfl,?_⟩⟩,⟨_,rfl,.inl ⟨rfl,rfl,rfl⟩⟩,trivial⟩,?_⟩
  ·exact (dN (iA s.all.length) (n:=2000)).2 (.inl (by omega))
  ·unfold rp fL;rw[hrun];exact ⟨rfl,rfl⟩
end Go.Proofs.YthbdbocionnfgaaGreatDoor
namespace Go.Proofs.YthbdbocionnfgaaGreatDoor
open Go Go.Abs Go.ChangeShapes Go.WideShapes Go.RowKit
open Go.Abs.Enc (enc)
theorem Tryz.own:ownKnob Tryz.prog.godebug=none:=by kernel_rfl
theorem Tryz.WD:laidOutB Tryz.prog=true:=by kernel_rfl
theorem nX:iW Tryz.prog 3 Int:=X9 (by kernel_rfl) (by kernel_rfl)
theorem Xj:iW Tryz.prog 37 bg:=⟨by kernel_rfl,by decide,fun h=>by
 obtain ⟨vs,hv,hr⟩:=Ya [(3,0),(3,1),(3,2),(3,3)]
  [(1,fun v=>∃ a:Int,v=enc a),(1,fun v=>∃ a:Int,v=enc a),(1,fun v=>∃ a:Int,v=enc a),(1,fun v=>∃ a:Int,v=enc a)]
  (by kernel_rfl) (by simp only[ri];exact ⟨trivial,nX.aV,trivial,nX.aV,trivial,nX.aV,trivial,nX.aV,trivial⟩) (by kernel_rfl) h
 obtain ⟨v0,vs0,e0,aW,hv0⟩:=sj hv;obtain ⟨a0,f0⟩:∃ a:Int,v0=enc a:=aW;obtain ⟨v1,vs1,e1,J,hv1⟩:=sj hv0;obtain ⟨a1,f1⟩:∃ a:Int,v1=enc a:=J;obtain ⟨v2,vs2,e2,U,hv2⟩:=sj hv1;obtain ⟨a2,f2⟩:∃ a:Int,v2=enc a:=U;obtain ⟨v3,vs3,e3,ah,hv3⟩:=sj hv2;obtain ⟨a3,f3⟩:∃ a:Int,v3=enc a:=ah;have e4:=G3 hv3;rw[e0,e1,e2,e3,e4,f0,f1,f2,f3] at hr;exact ⟨⟨a0,a1,a2,a3⟩,hr⟩⟩
theorem Xk:iW Tryz.prog 22 (List bg):=C2 (by kernel_rfl) Xj (by kernel_rfl)
theorem Xl:iW Tryz.prog 24 bt:=⟨by kernel_rfl,by decide,fun h=>by
 obtain ⟨a,b,c,hab⟩:=Yb (α:=Int) (β:=List bg) (γ:=Int) (u0:=3) (u1:=22) (u2:=3) (by kernel_rfl) nX Xk nX (by kernel_rfl) h;exact ⟨⟨a,b,c⟩,hab⟩⟩
def pk : List (String × DataW Unit) := [("math/bits.deBruijn32tab", Rows.laid_math_bits_deBruijn32tab), ("math/bits.deBruijn64tab", Rows.laid_math_bits_deBruijn64tab), ("internal/strconv.uint64pow10", Rows.laid_internal_strconv_uint64pow10)]
def FM:List Int:=[1,10,100,1000,10000,100000,1000000,10000000,100000000,1000000000,10000000000,100000000000,1000000000000,10000000000000,100000000000000,1000000000000000,10000000000000000,100000000000000000,1000000000000000000,10000000000000000000]
theorem Vo : Tryz.prog.globalNamed "internal/strconv.uint64pow10" = some 3 := by kernel_rfl
theorem ZF:(Tryz.prog.globals[3]?).map (·.type)=some 209:=by kernel_rfl
theorem X1{W:World}(h:laidMetH Tryz.prog pk W):gM Tryz.prog W (fun _=>False):=by
 rw[MakeChecks.laidMetH_plain _ _ _ (by kernel_rfl)] at h;obtain ⟨g', t', cs, fuel, p, hg', ht', hvar, af⟩ := Lib.laidMet.reads h (n := "internal/strconv.uint64pow10") (d := Rows.laid_internal_strconv_uint64pow10) (by simp [pk])
 obtain rfl:=Option.some.inj (Vo.symm.trans hg');obtain rfl:=Option.some.inj (ZF.symm.trans ht');have hd':DataW.trod (fun _=>()) Tryz.prog W 0 (fun _=>true) false fuel 209 cs.toList=some (Lib.tabData .u64 FM,p):=af;have hc:=Lib.cells_of_tab (n:=20) (e:=171) (Wn (by kernel_rfl)) (by kernel_rfl) (by kernel_rfl) (by kernel_rfl) hd';intro g hg;refine ⟨id,?_⟩
 show W.var? Tryz.prog "internal/strconv.uint64pow10" = _
 rw[hvar];have:cs=(FM.map fun z=>Value.int .u64 z).toArray:=by rw[←hc]
 rw[this];rfl
end Go.Proofs.YthbdbocionnfgaaGreatDoor
namespace Go.Proofs.YthbdbocionnfgaaGreatDoor
open Go Go.Abs
open Go.Abs.Enc (enc)
theorem aR.EF{K:ai→Prop}{au:Int}{l:List bg}{avs:List I}{a1 a2:Option (List I)}{dst:Option Nat}{rest:List aH}{ts:List (Nat×I)}{os0:List (Nat×ao)}(aq:l.length≤200)(hav:avs=[enc au,enc l])(hno:∀ m,2000≤m→m<1000000→aj os0 m=none)
  (J:fL au l=none→aR Tryz.prog dx false K (aB rest ((av ts os0).aS dst (.tuple [.nilp,.bool false]))))
  (U:∀ s,fL au l=some s→aR Tryz.prog dx false K (aB rest ((av ts (dv s++os0)).aS dst (.tuple [.ptr 2000 [],.bool true])))):aR Tryz.prog dx false K (.call 62 avs a1 a2 dst rest (av ts os0)):=by
 subst hav;refine .bP false [] [] [enc au,enc l] _ rfl (Gp au l aq) ⟨fun m x hx=>by simp[aj] at hx,fun m m' hm=>by simp[aw,aj] at hm⟩ ⟨.inl ⟨(kR _ _).symm,b7 _ _,ef _⟩,.inl ⟨(kR _ _).symm,b7 _ _,ef _⟩,trivial⟩ ?_ ?_
 ·intro r os' hp;unfold rp at hp;cases hr:fL au l with
  |none =>
   rw[hr] at hp;obtain ⟨rfl,rfl⟩:=hp;exact ⟨fun m y hy=>by simp[aj] at hy,fun m m' hm=>by simp[aw,aj] at hm,fun m hm=>hm,fun m hm=>by simp[aw,aj] at hm,rfl,fun h=>by cases h⟩
  |some s =>
   rw[hr] at hp;obtain ⟨rfl,rfl⟩:=hp;obtain ⟨hk,hme,hln⟩:=nc (kV au) hr;have hln2:s.all.length≤200:=by have:(Go.Proofs.YthbdbocionnfgaaGreatDoor.eU au).all.length=0:=rfl;omega
   refine ⟨fun m y hy=>⟨(lq hk hy).1,(lq hk hy).2,fun h=>by cases h⟩,fun m m' _ _ h=>h,fun m hm=>by simp[aw,aj] at hm,fun m hm _ =>?_,?_,fun h=>by cases h⟩
   ·have:=xQ hm;exact ⟨hno m (by omega) (by omega),by simp only[bI];omega⟩
   ·have:=(dN (iA s.all.length) (n:=2000)).2 (.inl (by omega));simp[I.only,I.cv,this]
 ·intro r os' hp;unfold rp at hp;cases hr:fL au l with
  |none =>
   rw[hr] at hp;obtain ⟨rfl,rfl⟩:=hp;exact J hr
  |some s =>
   rw[hr] at hp;obtain ⟨rfl,rfl⟩:=hp;rw[l7];exact U s hr
theorem aR.EG{K:ai→Prop}{au:Int}{l:List bg}{avs:List I}{a1 a2:Option (List I)}{dst:Option Nat}{rest:List aH}{ts:List (Nat×I)}{os0:List (Nat×ao)}(aq:l.length≤200)(hr:fL au l=none)(hav:avs=[enc au,enc l])(hno:∀ m,2000≤m→m<1000000→aj os0 m=none)
  (J:aR Tryz.prog dx false K (aB rest ((av ts os0).aS dst (.tuple [.nilp,.bool false])))):aR Tryz.prog dx false K (.call 62 avs a1 a2 dst rest (av ts os0)) :=
 aR.EF aq hav hno (fun _=>J) fun s h=>by rw[hr] at h;cases h
theorem aR.EH{K:ai→Prop}{au:Int}{l:List bg}{s:aC}{avs:List I}{a1 a2:Option (List I)}{dst:Option Nat}{rest:List aH}{ts:List (Nat×I)}{os0:List (Nat×ao)}(aq:l.length≤200)(hr:fL au l=some s)(hav:avs=[enc au,enc l])(hno:∀ m,2000≤m→m<1000000→aj os0 m=none)
  (J:aR Tryz.prog dx false K (aB rest ((av ts (dv s++os0)).aS dst (.tuple [.ptr 2000 [],.bool true])))):aR Tryz.prog dx false K (.call 62 avs a1 a2 dst rest (av ts os0)) :=
 aR.EF aq hav hno (fun h=>by rw[hr] at h;cases h) fun s' h=>by rw[hr] at h;cases h;exact J
theorem tm(k:Nat)(hk:k<2000)(z:ao):∀ m,2000≤m→m<1000000→aj [(k,z)] m=none:=fun m h _=>by simp only[aj];rw[if_neg (by omega)]
theorem bh:(∀ aL A,bj aL A .nilp=some .nilp)∧(∀ aL A (x:I),x.bA=true→bj aL A (.ref x)=some (.ref x)):=⟨fun _ _=>by simp only[bj],fun _ _ x h=>by simp only[bj,h,if_true]⟩
def iH(p:bt):Bool:=dp 0 5 p.au&&(decide (p.j.length≤200)&&dp 0 p.j.length p.eL)
def cZ(p:bt):Option aC:=if iH p then fL p.au p.j else none
def km(o:Option aC):I:=match o with
 |some s=>.tuple [c8 s,.int .i64 0]
 |none=>.tuple [.nilp,.int .i64 91]
def mV(p:bt):cK:=fun r os'=>match cZ p with
 |some s=>r=.tuple [.ptr 2000 [],.int .i64 0]∧os'=dv s
 |none=>r=.tuple [.nilp,.int .i64 91]∧os'=[]
theorem iJ{p:bt}{s:aC}(h:cZ p=some s):cG s∧s.au=p.au∧s.all.length≤p.j.length∧p.j.length≤200∧iH p=true∧fL p.au p.j=some s:=by
 simp only[cZ] at h;split at h
 ·rename_i bH;obtain ⟨hk,hme,hln⟩:=nc (kV p.au) h;refine ⟨hk,hme,by simpa[eU] using hln,?_,bH,h⟩;simp only[iH,t8,decide_eq_true_eq] at bH;exact bH.2.1
 ·cases h
theorem MU{s:aC}(hk:cG s)(z:ao):∀ ts,c4 (av ts (dv s++[(1,z)])) 9 (.agg [.int .i64 s.au,.mref 2001,.mref 2002,.int .i64 s.all.length,.mref 2003,.mref 2004])=some (fT s):=fun ts =>
 gS (gV (iA _) hk.cE fun n hn=>by
  rw[fK];cases h:aj (dv s) n with
  |none=>simp[aw,h] at hn
  |some y=>rfl) 4
theorem wQ:∀ a b c d e:I,(I.agg [a,.mref 2001,b,c,d,e]).bA=false:=fun a b c d e=>by simp[I.bA,I.cq]
theorem Co(s:aC)(z:ao):aj (dv s++[(1,z)]) 2000=some (.box (.agg [.int .i64 s.au,.mref 2001,.mref 2002,.int .i64 s.all.length,.mref 2003,.mref 2004])):=by
 rw[fK,fB];rfl
theorem Cp(s:aC)(z:ao):aj (dv s++[(1,z)]) 1=some z:=by
 rw[fK,eF (.inl (by omega)) fun i _=>by simp only[bE];omega];rfl
theorem Db{p:bt}(h:I.gi [enc p]):p.j.length≤maxLen :=
 ((lv p.j).1 (by have:=h.1;simp only[enc,I.wf,I.gi] at this;exact this.2.1)).1
theorem p0(p:bt):a8 Tryz.prog 69 [enc p] (km (cZ p)):=by
 refine a8.cd Tryz.func69 Am AF AN (u8 rfl) (fun hwf W0 bF E1 =>?_);simp only[u6,xk,bJ];have hlen:=Db hwf;clear hwf;have hg:decide ((p.j.length:Int)>200) = !decide (p.j.length≤200):=by by_cases h:p.j.length≤200 <;>simp[h] <;>omega
 have hF1:=mw p.au;have hF2:=oG p.eL 0 p.j.length;rcases q1:dp 0 5 p.au <;>rcases q2:decide (p.j.length≤200) <;>rcases q3:dp 0 p.j.length p.eL
 case true.true.true =>
  have hok:iH p=true:=by simp[iH,q1,q2,q3]
  have aq:p.j.length≤200:=of_decide_eq_true q2;have hop:cZ p=fL p.au p.j:=by simp[cZ,hok]
  rw[q1] at hF1;rw[q3] at hF2;rw[q2] at hg;rw[hop];cases hr:fL p.au p.j with
  |none =>
   have R:=y6 @hg (y6 @bh (y6 @eG (y6 @bR (y6 @bB (y6 @bw aD)))))
   repeat' ((first |(with_reducible refine .guard (fun hb =>?_) (fun hb =>?_) <;>try simp only[hb])|refine ae.aF (by decide +kernel) rfl fun K hK =>?_|refine .flat _ (hF1) rfl ?_|refine .flat _ (hF2) rfl ?_|refine aR.EG aq hr rfl (tm 1 (by decide) _) ?_|(refine .ay [0,1,2,3,4,5,24,34] hK ?_;clear hK K)|(with_reducible refine .done (hK _ ?_);clear hK K)|refine ae.of rfl ?_|(with_reducible refine az.aE (fun h =>?_) (fun h =>?_) <;>try simp only[h])) <;>try simp only[aG,R,simprocAttr])
   all_goals clear R
   rfl
  |some s =>
   have hfin:=MU (nc (kV p.au) hr).1 (.box (enc p));have hla:=Co s (.box (enc p));have hlb:=Cp s (.box (enc p));have R:=y6 @hg (y6 @hfin (y6 @hla (y6 @hlb (y6 @wQ (y6 @bh (y6 @eG (y6 @bR (y6 @bB (y6 @bw aD)))))))))
   repeat' ((first |(with_reducible refine .guard (fun hb =>?_) (fun hb =>?_) <;>try simp only[hb])|refine ae.aF (by decide +kernel) rfl fun K hK =>?_|refine .flat _ (hF1) rfl ?_|refine .flat _ (hF2) rfl ?_|refine aR.EH aq hr rfl (tm 1 (by decide) _) ?_|(refine .ay [0,1,2,3,4,5,24,34] hK ?_;clear hK K)|(with_reducible refine .done (hK _ ?_);clear hK K)|refine ae.of rfl ?_|(with_reducible refine az.aE (fun h =>?_) (fun h =>?_) <;>try simp only[h])) <;>try simp only[aG,R,simprocAttr])
   all_goals clear R
   rfl
 all_goals
  have hop:cZ p=none:=by simp[cZ,iH,q1,q2,q3]
  rw[q1] at hF1;rw[q3] at hF2;rw[q2] at hg;rw[hop];have R:=y6 @hg (y6 @bh (y6 @eG (y6 @bR (y6 @bB (y6 @bw aD)))))
  repeat' ((first |(with_reducible refine .guard (fun hb =>?_) (fun hb =>?_) <;>try simp only[hb])|refine ae.aF (by decide +kernel) rfl fun K hK =>?_|refine .flat _ (hF1) rfl ?_|refine .flat _ (hF2) rfl ?_|(refine .ay [0,1,2,3,4,5,24,34] hK ?_;clear hK K)|(with_reducible refine .done (hK _ ?_);clear hK K)|refine ae.of rfl ?_|(with_reducible refine az.aE (fun h =>?_) (fun h =>?_) <;>try simp only[h])) <;>try simp only[aG,R,simprocAttr])
  all_goals clear R
  rfl
theorem yf(p:bt):cU Tryz.prog 69 [enc p] [] (mV p):=by
 refine cU.cd Tryz.func69 Am AF AN (u8 rfl) (u8 rfl) (fun m hm=>by simp[aw,aj] at hm) (fun hwf W0 bF E1 =>?_);simp only[u6,xk,bJ];have hlen:=Db hwf;clear hwf;have hg:decide ((p.j.length:Int)>200) = !decide (p.j.length≤200):=by by_cases h:p.j.length≤200 <;>simp[h] <;>omega
 have hF1:=mw p.au;have hF2:=oG p.eL 0 p.j.length;have fail:∀ ts os,cZ p=none→Abs.bY ts 2=.nilp→Abs.bY ts 3=.int .i64 91→iX [.tmp 2,.tmp 3] (mV p) (av ts os):=fun ts os hop U ah=>by
  refine ⟨[],[.nilp,.int .i64 91],fun n x hx=>by simp[aj] at hx,⟨⟨.nilp,congrArg some U,.inl ⟨rfl,rfl,rfl⟩⟩,⟨.int .i64 91,congrArg some ah,.inl ⟨rfl,rfl,rfl⟩⟩,trivial⟩,?_⟩;unfold mV;rw[hop];exact ⟨rfl,rfl⟩
 rcases q1:dp 0 5 p.au <;>rcases q2:decide (p.j.length≤200) <;>rcases q3:dp 0 p.j.length p.eL
 case true.true.true =>
  have hok:iH p=true:=by simp[iH,q1,q2,q3]
  have aq:p.j.length≤200:=of_decide_eq_true q2;have hop:cZ p=fL p.au p.j:=by simp[cZ,hok]
  rw[q1] at hF1;rw[q3] at hF2;rw[q2] at hg;cases hr:fL p.au p.j with
  |none =>
   rw[hr] at hop;have R:=y6 @hg (y6 @bh (y6 @eG (y6 @bR (y6 @bB (y6 @bw aD)))))
   repeat' ((first |(with_reducible refine .guard (fun hb =>?_) (fun hb =>?_) <;>try simp only[hb])|refine ae.aF (by decide +kernel) rfl fun K hK =>?_|refine .flat _ (hF1) rfl ?_|refine .flat _ (hF2) rfl ?_|refine aR.EG aq hr rfl (tm 1 (by decide) _) ?_|(refine .ay [0,1,2,3,4,5,24,34] hK ?_;clear hK K)|(with_reducible refine .done (hK _ ?_);clear hK K)|refine ae.of rfl ?_|(with_reducible refine az.aE (fun h =>?_) (fun h =>?_) <;>try simp only[h])) <;>try simp only[aG,R,simprocAttr])
   all_goals clear R
   exact fail _ _ hop rfl rfl
  |some s =>
   have hk:=(nc (kV p.au) hr).1;rw[hr] at hop;have hla:=Co s (.box (enc p));have hlb:=Cp s (.box (enc p));have R:=y6 @hg (y6 @hla (y6 @hlb (y6 @wQ (y6 @bh (y6 @eG (y6 @bR (y6 @bB (y6 @bw aD))))))))
   repeat' ((first |(with_reducible refine .guard (fun hb =>?_) (fun hb =>?_) <;>try simp only[hb])|refine ae.aF (by decide +kernel) rfl fun K hK =>?_|refine .flat _ (hF1) rfl ?_|refine .flat _ (hF2) rfl ?_|refine aR.EH aq hr rfl (tm 1 (by decide) _) ?_|(refine .ay [0,1,2,3,4,5,24,34] hK ?_;clear hK K)|(with_reducible refine .done (hK _ ?_);clear hK K)|refine ae.of rfl ?_|(with_reducible refine az.aE (fun h =>?_) (fun h =>?_) <;>try simp only[h])) <;>try simp only[aG,R,simprocAttr])
   all_goals clear R
   refine ⟨dv s,[.ptr 2000 [],.int .i64 0],fun n x hx=>⟨?_,lq hk hx⟩,⟨⟨_,rfl,.inl ⟨rfl,rfl,?_⟩⟩,⟨_,rfl,.inl ⟨rfl,rfl,rfl⟩⟩,trivial⟩,?_⟩
   ·show aj (dv s++_) n=some x
    rw[fK,hx]
   ·exact (dN (iA s.all.length) (n:=2000)).2 (.inl (by omega))
   ·unfold mV;rw[hop];exact ⟨rfl,rfl⟩
 all_goals
  have hop:cZ p=none:=by simp[cZ,iH,q1,q2,q3]
  rw[q1] at hF1;rw[q3] at hF2;rw[q2] at hg;have R:=y6 @hg (y6 @bh (y6 @eG (y6 @bR (y6 @bB (y6 @bw aD)))))
  repeat' ((first |(with_reducible refine .guard (fun hb =>?_) (fun hb =>?_) <;>try simp only[hb])|refine ae.aF (by decide +kernel) rfl fun K hK =>?_|refine .flat _ (hF1) rfl ?_|refine .flat _ (hF2) rfl ?_|(refine .ay [0,1,2,3,4,5,24,34] hK ?_;clear hK K)|(with_reducible refine .done (hK _ ?_);clear hK K)|refine ae.of rfl ?_|(with_reducible refine az.aE (fun h =>?_) (fun h =>?_) <;>try simp only[h])) <;>try simp only[aG,R,simprocAttr])
  all_goals clear R
  exact fail _ _ hop rfl rfl
def qg(p:bt):Int:=match cZ p with
 |some _=>0
 |none=>91
theorem uu(p:bt):a8 Tryz.prog 23 [enc p] (enc (qg p)):=by
 refine a8.cd Tryz.func23 Ip Jt KK (u8 rfl) (fun hwf W0 bF E1 =>?_);simp only[zh,DQ,bJ];have hF:=p0 p;simp only[qg];cases ho:cZ p with
 |none =>
  rw[ho] at hF;simp only[km] at hF;have R:=y6 @bh (y6 @eG (y6 @bR (y6 @bB (y6 @bw aD))))
  repeat' ((first |refine ae.aF (by decide +kernel) rfl fun K hK =>?_|refine .lead _ (hF) ?_|(refine .ay [0,1,2,4] hK ?_;clear hK K)|(with_reducible refine .done (hK _ ?_);clear hK K)|refine ae.of rfl ?_|(with_reducible refine az.aE (fun h =>?_) (fun h =>?_) <;>try simp only[h])) <;>try simp only[aG,R,simprocAttr])
  all_goals clear R
  all_goals rfl
 |some s =>
  rw[ho] at hF;simp only[km] at hF;have R:=y6 @dH (y6 @bh (y6 @eG (y6 @bR (y6 @bB (y6 @bw aD)))))
  repeat' ((first |refine ae.aF (by decide +kernel) rfl fun K hK =>?_|refine .lead _ (hF) ?_|(refine .ay [0,1,2,4] hK ?_;clear hK K)|(with_reducible refine .done (hK _ ?_);clear hK K)|refine ae.of rfl ?_|(with_reducible refine az.aE (fun h =>?_) (fun h =>?_) <;>try simp only[h])) <;>try simp only[aG,R,simprocAttr])
  all_goals clear R
  all_goals rfl
def gX:bg:=⟨0,0,0,0⟩
theorem qj:I.agg [.int .i64 0,.int .i64 0,.int .i64 0,.int .i64 0]=enc gX:=rfl
def tQ(k:Nat)(l:List bg)(m:Nat):List (Nat×ao):=[(k,.box (.agg ((l++List.replicate m gX).map enc)))]
def qh(l:List bg)(v:I)(os':List (Nat×ao)):Prop:=(l=[]∧(v=.nils 4∨v=.c0 4)∧os'=[])∨(l≠[]∧∃ m,v=.view 7 [] 4 0 l.length∧os'=tQ 7 l m)
def Yk(l:List bg):cK:=fun r os'=>qh l r os'
theorem Gl(l:List bg)(aq:l.length≤1000):cU Tryz.prog 59 [enc l] [] (Yk l):=by
 refine cU.cd Tryz.func59 Ak AD AL (u8 rfl) (u8 rfl) (fun m hm=>by simp[aw,aj] at hm) (fun hwf W0 bF E1 =>?_);simp only[u4,xi,bJ];refine .gA (by decide +kernel) fun K hK =>?_;simp only[vX,bG,simprocAttr];refine .done (hK _ ?_);clear hK K;refine ae.seq (ae.seq ?_);by_cases hn:l=[]
 ·subst hn;refine .kn (by decide +kernel) fun K hK =>?_;simp only[qy,bG,simprocAttr];simp only[ue,List.isEmpty_nil,pA];refine .any rfl fun b _ =>?_
  try simp only[bG,simprocAttr]
  generalize (b==0)=t;cases t
  ·refine .done (hK _ ?_);clear hK K;try simp only[ez]
   refine ae.jN ?_;simp only[az,bG,simprocAttr];refine ⟨fun h =>?_,fun h =>?_⟩
   ·cases h
   refine ae.skip ?_;try simp only[ez,simprocAttr]
   refine .gA (by decide +kernel) fun K hK =>?_;simp only[qz,bG,simprocAttr]
   try simp only[kB,qj,bG,simprocAttr]
   refine .done (hK _ ?_);clear hK K;refine ae.ret ?_;simp only[oh];exact ⟨[],[.c0 4],BZ,⟨⟨.c0 4,rfl,.inl ⟨rfl,rfl,rfl⟩⟩,trivial⟩,.inl ⟨rfl,.inr rfl,rfl⟩⟩
  ·refine .done (hK _ ?_);clear hK K;refine ae.jN ?_;simp only[az,bG,simprocAttr];refine ⟨fun h =>?_,fun h =>?_⟩
   ·refine .gA (by decide +kernel) fun K hK =>?_;simp only[vY,bG,simprocAttr];refine .done (hK _ ?_);clear hK K;refine ae.ret ?_;simp only[ez,oh];exact ⟨[],[.nils 4],BZ,⟨⟨.nils 4,rfl,.inl ⟨rfl,rfl,rfl⟩⟩,trivial⟩,.inl ⟨rfl,.inl rfl,rfl⟩⟩
   ·cases h
 ·have hu:jD (enc l)=false:=by rw[ue];simpa using hn
  refine .kn (by decide +kernel) fun K hK =>?_;simp only[qy,bG,simprocAttr]
  try simp only[hu,CK _ l hn,bG,simprocAttr]
  refine .done (hK _ ?_);clear hK K;try simp only[ez]
  refine ae.jN ?_;simp only[az,bG,simprocAttr];refine ⟨fun h =>?_,fun h =>?_⟩
  ·cases h
  refine ae.skip ?_;try simp only[ez,simprocAttr]
  refine .gA (by decide +kernel) fun K hK =>?_;simp only[qz,bG,simprocAttr]
  try simp only[kB,qj,bG,simprocAttr]
  refine aR.uJ gX rfl hn rfl (by omega) (by simp only[maxLen];omega) fun m =>?_
  try simp only[bG,simprocAttr]
  refine .done (hK _ ?_);clear hK K;refine ae.ret ?_;simp only[oh];exact ⟨tQ 7 l m,[.view 7 [] 4 0 l.length],Wi rfl (fun p=>by simp only[I.only];exact eE p _),⟨⟨_,rfl,.inl ⟨rfl,rfl,rfl⟩⟩,trivial⟩,.inr ⟨hn,m,rfl,rfl⟩⟩
theorem oT{l:List bg}{v:I}{os':List (Nat×ao)}(h:qh l v os'):(∀ n x,aj os' n=some x→x.only (aw os')=true∧x.eg=true)∧v.only (aw os')=true∧(∀ m,aw os' m=true→m=7)∧v.bT=true∧cg none v=true∧v.aX=.one∧v.size=1∧v.isAgg=false:=by
 rcases h with ⟨rfl,rfl | rfl,rfl⟩ | ⟨hn,m,rfl,rfl⟩
 ·exact ⟨fun n x hx=>by simp[aj] at hx,rfl,fun m hm=>by simp[aw,aj] at hm,rfl,rfl,rfl,rfl,rfl⟩
 ·exact ⟨fun n x hx=>by simp[aj] at hx,rfl,fun m hm=>by simp[aw,aj] at hm,rfl,rfl,rfl,rfl,rfl⟩
 ·refine ⟨fun n x hx =>?_,rfl,fun m hm =>?_,rfl,rfl,rfl,rfl,rfl⟩
  ·simp only[tQ,aj] at hx;split at hx
   ·cases hx;exact ⟨by simp only[ao.only,I.only];exact eE _ _,rfl⟩
   ·cases hx
  ·simp only[aw,tQ,aj] at hm;split at hm
   ·assumption
   ·simp at hm
theorem Fy{ts:List (Nat×I)}{os0 os':List (Nat×ao)}(hno:aj os0 7=none)(h:∀ m,aw os' m=true→m=7):av ts (os'++os0)=av ts (os0++os'):=by
 simp only[av,ai.mk.injEq,true_and]
 funext n
 rw[fK,fK];cases J:aj os' n with
 |none=>simp only;cases aj os0 n <;>rfl
 |some y =>
  have:=h n (by simp[aw,J]);subst this;rw[hno]
theorem aR.J7{K:ai→Prop}{l:List bg}{avs:List I}{a1 a2:Option (List I)}{dst:Option Nat}{rest:List aH}{ts:List (Nat×I)}{os0:List (Nat×ao)}(aq:l.length≤1000)(hav:a1=some [enc l])(hf:b8 false (av ts os0) avs=some [enc l])(hno:aj os0 7=none)
  (h:∀ v os',qh l v os'→aR Tryz.prog dx false K (aB rest ((av ts (os0++os')).aS dst v))):aR Tryz.prog dx false K (.call 59 avs a1 a2 dst rest (av ts os0)):=by
 have harg:gP false (av ts os0) [] [] avs [enc l]:=by
  match avs,hf with
  | [],hf=>simp[b8] at hf
  | [x],hf =>
   refine ⟨.inr ?_,trivial⟩;simp only[b8] at hf;split at hf
   ·rename_i y ys J U;cases U;cases hf;exact J
   ·cases hf
  |x::y::r,hf =>
   simp only[b8] at hf;split at hf
   ·rename_i J U;split at U <;>cases U;cases hf
   ·cases hf
 refine .bP false [] [] [enc l] _ rfl (Gl l aq) ⟨fun m x hx=>by simp[aj] at hx,fun m m' hm=>by simp[aw,aj] at hm⟩ (by simpa[iE,AS] using harg) ?_ ?_
 ·intro r os' hp;obtain ⟨J,U,ah,_⟩:=oT hp;exact ⟨fun m y hy=>⟨(J m y hy).1,(J m y hy).2,fun h=>by cases h⟩,fun m m' _ _ h=>h,fun m hm=>by simp[aw,aj] at hm,fun m hm _=>by rw[ah m hm];exact ⟨hno,by decide⟩,U,fun h=>by cases h⟩
 ·intro r os' hp;rw[l7,kp (ρ:=bI []) (fun _=>rfl),Fy hno (oT hp).2.2.1];exact h r os' hp
def e9(p:bt)(v:I):I:=.agg [.int .i64 p.au,v,.int .i64 p.eL]
def Yl(p:bt):cK:=fun r os'=>∃ v,r=e9 p v∧qh p.j v os'
theorem kP:(∀ p v,(e9 p v).dP=some [.int .i64 p.au,v,.int .i64 p.eL])∧(∀ p v,(e9 p v).bT=true)∧(∀ (a c:Int) v w,du [.int .i64 a,v,.int .i64 c] 1 1 w=some w)∧(∀ (a c:Int) v w,du [.int .i64 a,v,.int .i64 c] 0 0 w=some w) :=
 ⟨fun _ _=>rfl,fun _ _=>rfl,fun _ _ _ _=>iG (by simp) rfl,fun _ _ _ _=>iG (by simp) rfl⟩
theorem Gk(p:bt)(aq:p.j.length≤1000):cU Tryz.prog 57 [enc p] [] (Yl p):=by
 refine cU.cd Tryz.func57 Aj AB AK (u8 rfl) (u8 rfl) (fun m hm=>by simp[aw,aj] at hm) (fun hwf W0 bF E1 =>?_);simp only[u3,xh,bJ];clear hwf;have hfe:∀ A,b8 false A [enc p.j]=some [enc p.j]:=fun A=>by simp only[b8,lH]
 have R:=y6 @eG (y6 @bR (y6 @bB (y6 @bw aD)))
 repeat' ((first |refine ae.aF (by decide +kernel) rfl fun K hK =>?_|refine aR.J7 aq rfl (hfe _) rfl (fun v os' hc =>?_)|(refine .ay [0,1,2] hK ?_;clear hK K)|(with_reducible refine .done (hK _ ?_);clear hK K)|refine ae.of rfl ?_|(with_reducible refine az.aE (fun h =>?_) (fun h =>?_) <;>try simp only[h])) <;>try simp only[aG,R,Z5,simprocAttr])
 all_goals clear R
 obtain ⟨g1,g2,g3,g4,g5,g6,g7,g8⟩:=oT hc;have hst:∀ A rest,de A none 1 [1] (enc p) v rest (some (enc p.j))=aB rest (A.aT 1 (.box (e9 p v))):=fun A rest=>dG g4 g5 (g6.trans rfl);have hok:cg (some 3) (e9 p v)=true:=by simp[cg,e9,I.isAgg,I.size,I.sizes,g7]
 have hsh:(e9 p v).aX=.eI [.one,.one,.one]:=by simp[e9,I.aX,I.c7,g6]
 have hst2:∀ A rest,de A (some 3) 2 [] (.agg [.int .i64 0,.nils 4,.int .i64 0]) (e9 p v) rest (some (.agg [.int .i64 0,.nils 4,.int .i64 0]))=aB rest (A.aT 2 (.box (e9 p v))):=fun A rest=>dG rfl hok hsh
 try simp only[hst,bG,simprocAttr]
 have R:=y6 @hst (y6 @hok (y6 @hst2 (y6 @kP (y6 @eG (y6 @bR (y6 @bB (y6 @bw aD)))))))
 repeat' ((first |refine ae.aF (by decide +kernel) rfl fun K hK =>?_|(refine .ay [0,1,2] hK ?_;clear hK K)|(with_reducible refine .done (hK _ ?_);clear hK K)|refine ae.of rfl ?_|(with_reducible refine az.aE (fun h =>?_) (fun h =>?_) <;>try simp only[h])) <;>try simp only[aG,R,simprocAttr])
 all_goals clear R
 refine ⟨os',[e9 p v],fun n x hx=>⟨?_,g1 n x hx⟩,⟨⟨e9 p v,?_,.inl ⟨rfl,rfl,?_⟩⟩,trivial⟩,v,rfl,hc⟩
 ·have:=g3 n (by simp[aw,hx]);subst this;simp only[av,aj,Nat.reduceEqDiff,if_false];exact hx
 ·simp[ru,cM,av,Abs.bY,aj,I.at,hok]
 ·simp[e9,I.only,I.cv,g2]
theorem Gm(l:List bg)(aq:l.length≤1000):a8 Tryz.prog 59 [enc l] (enc l):=by
 refine a8.cd Tryz.func59 Ak AD AL (u8 rfl) (fun hwf W0 bF E1 =>?_);simp only[u4,xi,bJ];refine .gA (by decide +kernel) fun K hK =>?_;simp only[vX,bG,simprocAttr];refine .done (hK _ ?_);clear hK K;refine ae.seq (ae.seq ?_);by_cases hn:l=[]
 ·subst hn;refine .kn (by decide +kernel) fun K hK =>?_;simp only[qy,bG,simprocAttr];simp only[ue,List.isEmpty_nil,pA];refine .any rfl fun b _ =>?_
  try simp only[bG,simprocAttr]
  generalize (b==0)=t;cases t
  ·refine .done (hK _ ?_);clear hK K;try simp only[ez]
   refine ae.jN ?_;simp only[az,bG,simprocAttr];refine ⟨fun h =>?_,fun h =>?_⟩
   ·cases h
   refine ae.skip ?_;try simp only[ez,simprocAttr]
   refine .gA (by decide +kernel) fun K hK =>?_;simp only[qz,bG,simprocAttr]
   try simp only[kB,qj,bG,simprocAttr]
   refine .done (hK _ ?_);clear hK K;refine ae.ret ?_;simp only[bG,simprocAttr];rfl
  ·refine .done (hK _ ?_);clear hK K;refine ae.jN ?_;simp only[az,bG,simprocAttr];refine ⟨fun h =>?_,fun h =>?_⟩
   ·refine .gA (by decide +kernel) fun K hK =>?_;simp only[vY,bG,simprocAttr];refine .done (hK _ ?_);clear hK K;refine ae.ret ?_;simp only[ez,bG,simprocAttr];rfl
   ·cases h
 ·have hu:jD (enc l)=false:=by rw[ue];simpa using hn
  refine .kn (by decide +kernel) fun K hK =>?_;simp only[qy,bG,simprocAttr]
  try simp only[hu,CK _ l hn,bG,simprocAttr]
  refine .done (hK _ ?_);clear hK K;try simp only[ez]
  refine ae.jN ?_;simp only[az,bG,simprocAttr];refine ⟨fun h =>?_,fun h =>?_⟩
  ·cases h
  refine ae.skip ?_;try simp only[ez,simprocAttr]
  refine .gA (by decide +kernel) fun K hK =>?_;simp only[qz,bG,simprocAttr]
  try simp only[kB,qj,bG,simprocAttr]
  refine aR.uJ gX rfl hn rfl (by omega) (by simp only[maxLen];omega) fun m =>?_
  try simp only[bG,simprocAttr]
  refine .done (hK _ ?_);clear hK K;refine ae.ret ?_;simp only[bG,simprocAttr]
  try simp only[vK (α:=bg) (sz:=4) rfl,List.take_left,bG,simprocAttr]
theorem ya(p:bt)(aq:p.j.length≤1000):a8 Tryz.prog 57 [enc p] (enc p):=by
 refine a8.cd Tryz.func57 Aj AB AK (u8 rfl) (fun hwf W0 bF E1 =>?_);simp only[u3,xh,bJ];clear hwf;have hst:∀ A rest,de A none 1 [1] (enc p) (enc p.j) rest (some (enc p.j))=aB rest (A.aT 1 (.box (enc p))):=fun A rest=>dG (ef _) (by simp[kc,kb]) rfl;have hst2:∀ A rest,de A (some 3) 2 [] (.agg [.int .i64 0,.nils 4,.int .i64 0]) (enc p) rest (some (.agg [.int .i64 0,.nils 4,.int .i64 0]))=aB rest (A.aT 2 (.box (enc p))):=fun A rest=>dG (ef _) (by rw[fb];rfl) (eH _);have R:=y6 @hst (y6 @hst2 (y6 @eG (y6 @bR (y6 @bB (y6 @bw aD)))))
 repeat' ((first |refine ae.aF (by decide +kernel) rfl fun K hK =>?_|refine .lead _ (Gm p.j aq) ?_|(refine .ay [0,1,2] hK ?_;clear hK K)|(with_reducible refine .done (hK _ ?_);clear hK K)|refine ae.of rfl ?_|(with_reducible refine az.aE (fun h =>?_) (fun h =>?_) <;>try simp only[h])) <;>try simp only[aG,R,simprocAttr])
 all_goals clear R
def jE(p:bt)(x:bg):bt×Int:=if p.j.length=200 then (⟨0,[],0⟩,2) else (⟨p.au,p.j++[x],p.eL⟩,0)
theorem aR.Kh{K:ai→Prop}{p:bt}{avs:List I}{a1 a2:Option (List I)}{dst:Option Nat}{rest:List aH}{ts:List (Nat×I)}{os0:List (Nat×ao)}(aq:p.j.length≤1000)(hav:avs=[enc p])(hno:aj os0 7=none)
  (h:∀ v os',qh p.j v os'→aR Tryz.prog dx false K (aB rest ((av ts (os0++os')).aS dst (e9 p v)))):aR Tryz.prog dx false K (.call 57 avs a1 a2 dst rest (av ts os0)):=by
 subst hav;refine .bP false [] [] [enc p] _ rfl (Gk p aq) ⟨fun m x hx=>by simp[aj] at hx,fun m m' hm=>by simp[aw,aj] at hm⟩ ⟨.inl ⟨(kR _ _).symm,b7 _ _,ef _⟩,trivial⟩ ?_ ?_
 ·rintro r os' ⟨v,rfl,hp⟩;obtain ⟨J,U,ah,_⟩:=oT hp;exact ⟨fun m y hy=>⟨(J m y hy).1,(J m y hy).2,fun h=>by cases h⟩,fun m m' _ _ h=>h,fun m hm=>by simp[aw,aj] at hm,fun m hm _=>by rw[ah m hm];exact ⟨hno,by decide⟩,by simp[e9,I.only,I.cv,U],fun h=>by cases h⟩
 ·rintro r os' ⟨v,rfl,hp⟩;rw[l7,kp (ρ:=bI []) (fun _=>rfl),Fy hno (oT hp).2.2.1];exact h v os' hp
theorem sL{p:bt}{k n:Nat}{xs l:List bg}{A:ai}(hA:A.o k=some (.box (.agg (xs.map enc))))(hx:xs.take n=l):bj true A (e9 p (.view k [] 4 0 n))=some (enc (⟨p.au,l,p.eL⟩:bt)):=by
 have J:bj true A (.view k [] 4 0 n)=some (enc l):=by
  rw[vM,hA];have:lK 4 0 n (some (xs.map enc))=some (enc l):=by rw[vK (α:=bg) (sz:=4) rfl,hx]
  exact this
 have U:∀ k n,bj true A (.int k n)=some (.int k n):=fun k n=>by simp only[bj]
 simp only[e9,vL,vN,vO,J,U,j8,zz0];rfl
theorem uv(p:bt)(x:bg)(aq:p.j.length≤200):a8 Tryz.prog 73 [enc p,enc x] (.tuple [enc (jE p x).1,enc (jE p x).2]):=by
 refine a8.cd Tryz.func73 IQ JS K9 (u8 rfl) (fun hwf W0 bF E1 =>?_);simp only[zJ,Ek,bJ,Z1];clear hwf;rcases q:((p.j.length:Int)==200)
 case true =>
  have U:p.j.length=200:=by simp at q;omega
  have hw:jE p x=(⟨0,[],0⟩,2):=by simp[jE,U]
  rw[hw];have R:=y6 @q (y6 @sv (y6 @tW (y6 @eG (y6 @bR (y6 @bB (y6 @bw aD))))))
  repeat' ((first |refine ae.aF (by decide +kernel) rfl fun K hK =>?_|(refine .ay [0,1,2,3,4,5,9] hK ?_;clear hK K)|(with_reducible refine .done (hK _ ?_);clear hK K)|refine ae.of rfl ?_|(with_reducible refine az.aE (fun h =>?_) (fun h =>?_) <;>try simp only[h])) <;>try simp only[aG,R,simprocAttr])
  all_goals clear R
  rfl
 have hne:¬ p.j.length=200:=fun h=>by rw[h] at q;simp at q
 have hw:jE p x=(⟨p.au,p.j++[x],p.eL⟩,0):=by simp[jE,hne]
 rw[hw];have hbs:=h3 4 x rfl;have R:=y6 @hbs (y6 @q (y6 @eG (y6 @bR (y6 @bB (y6 @bw aD)))))
 repeat' ((first |refine ae.aF (by decide +kernel) rfl fun K hK =>?_|refine aR.Kh (by omega) rfl rfl (fun v os' hc =>?_)|(refine .ay [0,1,2,3,4,5,9] hK ?_;clear hK K)|(with_reducible refine .done (hK _ ?_);clear hK K)|refine ae.of rfl ?_|(with_reducible refine az.aE (fun h =>?_) (fun h =>?_) <;>try simp only[h])) <;>try simp only[aG,R,Z5,simprocAttr])
 all_goals clear R
 obtain ⟨g1,g2,g3,g4,g5,g6,g7,g8⟩:=oT hc;have hok:cg (some 3) (e9 p v)=true:=by simp[cg,e9,I.isAgg,I.size,I.sizes,g7]
 have hsh:(e9 p v).aX=.eI [.one,.one,.one]:=by simp[e9,I.aX,I.c7,g6]
 have hst:∀ A rest,de A (some 3) 2 [] (enc p) (e9 p v) rest (some (enc p))=aB rest (A.aT 2 (.box (e9 p v))):=fun A rest=>dG rfl hok hsh
 try simp only[hst,bG,simprocAttr]
 have R:=y6 @hbs (y6 @qj (y6 @g5 (y6 @kP (y6 @eG (y6 @bR (y6 @bB (y6 @bw aD)))))))
 repeat' ((first |refine ae.aF (by decide +kernel) rfl fun K hK =>?_|(refine .ay [0,1,2,3,4,5,9] hK ?_;clear hK K)|(with_reducible refine .done (hK _ ?_);clear hK K)|refine ae.of rfl ?_|(with_reducible refine az.aE (fun h =>?_) (fun h =>?_) <;>try simp only[h])) <;>try simp only[aG,R,simprocAttr])
 all_goals clear R
 have hst2:∀ A rest k n w,de A none 2 [1] (e9 p w) (.view k [] 4 0 n) rest (some v)=aB rest (A.aT 2 (.box (e9 p (.view k [] 4 0 n)))):=fun A rest k n w=>dG rfl rfl (by rw[g6];rfl);have hok2:∀ k n,cg (some 3) (e9 p (.view k [] 4 0 n))=true:=fun _ _=>rfl;have hst3:∀ A rest k n,de A (some 3) 4 [] (.agg [.int .i64 0,.nils 4,.int .i64 0]) (e9 p (.view k [] 4 0 n)) rest (some (.agg [.int .i64 0,.nils 4,.int .i64 0]))=aB rest (A.aT 4 (.box (e9 p (.view k [] 4 0 n)))):=fun A rest k n=>dG rfl rfl rfl;have hlx:([x]:List bg).length=1:=rfl;rcases hc with ⟨hj,rfl | rfl,rfl⟩ | ⟨hj,m,rfl,rfl⟩
 ·refine aR.He gX rfl (by simp) rfl (by simp) (by simp[maxLen]) fun q =>?_;have hf:=fun A h=>sL (p:=p) (k:=17) (n:=1) (xs:=[x]++List.replicate q gX) (l:=p.j++[x]) (A:=A) h (by rw[hj];rfl)
  try simp only[hlx,hst2,kP,aD,bG,simprocAttr]
  have R:=y6 @hst2 (y6 @hok2 (y6 @hst3 (y6 @hf (y6 @kP (y6 @eG (y6 @bR (y6 @bB (y6 @bw aD))))))))
  repeat' ((first |refine ae.aF (by decide +kernel) rfl fun K hK =>?_|(refine .ay [0,1,2,3,4,5,9] hK ?_;clear hK K)|(with_reducible refine .done (hK _ ?_);clear hK K)|refine ae.of rfl ?_|(with_reducible refine az.aE (fun h =>?_) (fun h =>?_) <;>try simp only[h])) <;>try simp only[aG,R,simprocAttr])
  all_goals clear R
 ·refine aR.uJ gX rfl (by simp) rfl (by simp) (by simp[maxLen]) fun q =>?_;have hf:=fun A h=>sL (p:=p) (k:=17) (n:=1) (xs:=[x]++List.replicate q gX) (l:=p.j++[x]) (A:=A) h (by rw[hj];rfl)
  try simp only[hlx,hst2,kP,aD,bG,simprocAttr]
  have R:=y6 @hst2 (y6 @hok2 (y6 @hst3 (y6 @hf (y6 @kP (y6 @eG (y6 @bR (y6 @bB (y6 @bw aD))))))))
  repeat' ((first |refine ae.aF (by decide +kernel) rfl fun K hK =>?_|(refine .ay [0,1,2,3,4,5,9] hK ?_;clear hK K)|(with_reducible refine .done (hK _ ?_);clear hK K)|refine ae.of rfl ?_|(with_reducible refine az.aE (fun h =>?_) (fun h =>?_) <;>try simp only[h])) <;>try simp only[aG,R,simprocAttr])
  all_goals clear R
 ·by_cases hm:m=0
  ·subst hm;refine aR.Hc (esz:=4) gX rfl (xs:=p.j++List.replicate 0 gX) (ys:=[x]) (by simp) rfl (by simp) (by simp) rfl (by simp;omega) (by simp[maxLen];omega) fun q =>?_;have hf:=fun A h=>sL (p:=p) (k:=17) (n:=p.j.length+1) (xs:=(p.j++List.replicate 0 gX).take p.j.length++([x]++List.replicate q gX)) (l:=p.j++[x]) (A:=A) h (by simp[List.take_append];exact List.take_of_length_le (by omega))
   try simp only[hlx,hst2,kP,aD,bG,simprocAttr]
   have R:=y6 @hst2 (y6 @hok2 (y6 @hst3 (y6 @hf (y6 @kP (y6 @eG (y6 @bR (y6 @bB (y6 @bw aD))))))))
   repeat' ((first |refine ae.aF (by decide +kernel) rfl fun K hK =>?_|(refine .ay [0,1,2,3,4,5,9] hK ?_;clear hK K)|(with_reducible refine .done (hK _ ?_);clear hK K)|refine ae.of rfl ?_|(with_reducible refine az.aE (fun h =>?_) (fun h =>?_) <;>try simp only[h])) <;>try simp only[aG,R,simprocAttr])
   all_goals clear R
  ·rw[yD (esz:=4) _ rfl (xs:=p.j++List.replicate m gX) (ys:=[x]) (by simp) rfl (by simp;omega)];have hf:=fun A h=>sL (p:=p) (k:=7) (n:=p.j.length+1) (xs:=(p.j++List.replicate m gX).take p.j.length++([x]++(p.j++List.replicate m gX).drop (p.j.length+1))) (l:=p.j++[x]) (A:=A) h (by simp[List.take_append];exact List.take_of_length_le (by omega))
   try simp only[hlx,hst2,kP,aD,bG,simprocAttr]
   have R:=y6 @hst2 (y6 @hok2 (y6 @hst3 (y6 @hf (y6 @kP (y6 @eG (y6 @bR (y6 @bB (y6 @bw aD))))))))
   repeat' ((first |refine ae.aF (by decide +kernel) rfl fun K hK =>?_|(refine .ay [0,1,2,3,4,5,9] hK ?_;clear hK K)|(with_reducible refine .done (hK _ ?_);clear hK K)|refine ae.of rfl ?_|(with_reducible refine az.aE (fun h =>?_) (fun h =>?_) <;>try simp only[h])) <;>try simp only[aG,R,simprocAttr])
   all_goals clear R
def gL:bt:=⟨0,[],0⟩
theorem Fm:(∀ A n b rest (q:bt) x y,de A (some 3) n [] b (enc q) rest (some (.agg [.int .i64 x,.nils 4,.int .i64 y]))=aB rest (A.aT n (.box (enc q))))∧(∀ A n b rest (q:bt) (r:bt),de A (some 3) n [] b (enc q) rest (some (enc r))=aB rest (A.aT n (.box (enc q)))) :=
 ⟨fun A n b rest q x y=>dG (ef _) (by rw[fb];rfl) (eH _),fun A n b rest q r=>dG (ef _) (by rw[fb];rfl) ((eH _).trans (eH _).symm)⟩
theorem yN(a b:Int):(dQ [.int .i64 0,.int .i64 0,.int .i64 0,.int .i64 0] [(0,.int .i64 a),(1,.int .i64 b)]).map I.agg=some (enc (⟨a,b,0,0⟩:bg)):=by simp[dQ,I.bT,I.size];rfl
theorem uP(a b c d:Int):(dQ [.int .i64 0,.int .i64 0,.int .i64 0,.int .i64 0] [(0,.int .i64 a),(1,.int .i64 b),(2,.int .i64 c),(3,.int .i64 d)]).map I.agg=some (enc (⟨a,b,c,d⟩:bg)):=by simp[dQ,I.bT,I.size];rfl
theorem cj:(type_of% @Fm)∧(type_of% @yN)∧(type_of% @uP)∧(type_of% @sv)∧(type_of% @tW)∧(type_of% @eG):=⟨Fm,yN,uP,sv,tW,eG⟩
def sY(p:bt)(b:Int):bt×Int:=match cZ p with
 |none=>(gL,91)
 |some s=>if dp 1 9999 b=false then (gL,1) else if b∈s.here∨s.fh b=true then (gL,92) else jE p ⟨1,b,0,0⟩
theorem Gb(p:bt)(b:Int):a8 Tryz.prog 27 [enc p,enc b] (.tuple [enc (sY p b).1,enc (sY p b).2]):=by
 refine a8.cd Tryz.func27 Ir Jv KM (u8 rfl) (fun hwf W0 bF E1 =>?_);simp only[zj,DS,bJ,Z1];clear hwf;have hF:=p0 p;simp only[sY];cases ho:cZ p with
 |none =>
  rw[ho] at hF;simp only[km] at hF;have R:=y6 @cj (y6 @bh (y6 @bR (y6 @bB (y6 @bw aD))))
  repeat' ((first |(with_reducible refine .guard (fun hb =>?_) (fun hb =>?_) <;>try simp only[hb])|refine ae.aF (by decide +kernel) rfl fun K hK =>?_|refine .lead _ (hF) ?_|(refine .ay [0,1,2,4,5,6,7,13,18,23] hK ?_;clear hK K)|(with_reducible refine .done (hK _ ?_);clear hK K)|refine ae.of rfl ?_|(with_reducible refine az.aE (fun h =>?_) (fun h =>?_) <;>try simp only[h])) <;>try simp only[aG,R,simprocAttr])
  all_goals clear R
  rfl
 |some s =>
  have hjl:=(iJ ho).2.2.2.1;rw[ho] at hF;simp only[km] at hF;have hlk:=gn eS b s.here;rw[eC] at hlk;have hB:=p5 b;have hR:=p6 s b;have hW:=uv p ⟨1,b,0,0⟩ hjl;rcases q1:dp 1 9999 b
  ·rw[q1] at hB;have R:=y6 @dH (y6 @cj (y6 @bh (y6 @bR (y6 @bB (y6 @bw aD)))))
   repeat' ((first |(with_reducible refine .guard (fun hb =>?_) (fun hb =>?_) <;>try simp only[hb])|refine ae.aF (by decide +kernel) rfl fun K hK =>?_|refine .lead _ (hF) ?_|refine .flat _ (hB) rfl ?_|(refine .ay [0,1,2,4,5,6,7,13,18,23] hK ?_;clear hK K)|(with_reducible refine .done (hK _ ?_);clear hK K)|refine ae.of rfl ?_|(with_reducible refine az.aE (fun h =>?_) (fun h =>?_) <;>try simp only[h])) <;>try simp only[aG,R,simprocAttr])
   all_goals clear R
   rfl
  rw[q1] at hB;rcases q2:decide (b∈s.here)
  ·rcases q3:s.fh b
   ·rw[q3] at hR;have bH:(b∈s.here∨s.fh b=true)=False:=by simpa[q3] using q2
    simp only[Bool.true_eq_false,if_false,bH];have R:=y6 @q2 (y6 @hlk (y6 @dH (y6 @cj (y6 @bh (y6 @bR (y6 @bB (y6 @bw aD)))))))
    repeat' ((first |(with_reducible refine .guard (fun hb =>?_) (fun hb =>?_) <;>try simp only[hb])|refine ae.aF (by decide +kernel) rfl fun K hK =>?_|refine .lead _ (hF) ?_|refine .flat _ (hB) rfl ?_|refine .flat _ (hR) rfl ?_|refine .lead _ (hW) ?_|(refine .ay [0,1,2,4,5,6,7,13,18,23] hK ?_;clear hK K)|(with_reducible refine .done (hK _ ?_);clear hK K)|refine ae.of rfl ?_|(with_reducible refine az.aE (fun h =>?_) (fun h =>?_) <;>try simp only[h])) <;>try simp only[aG,R,simprocAttr])
    all_goals clear R
   ·rw[q3] at hR;have bH:(b∈s.here∨s.fh b=true)=True:=by simp[q3]
    simp only[Bool.true_eq_false,if_false,bH,if_true];have R:=y6 @q2 (y6 @hlk (y6 @dH (y6 @cj (y6 @bh (y6 @bR (y6 @bB (y6 @bw aD)))))))
    repeat' ((first |(with_reducible refine .guard (fun hb =>?_) (fun hb =>?_) <;>try simp only[hb])|refine ae.aF (by decide +kernel) rfl fun K hK =>?_|refine .lead _ (hF) ?_|refine .flat _ (hB) rfl ?_|refine .flat _ (hR) rfl ?_|(refine .ay [0,1,2,4,5,6,7,13,18,23] hK ?_;clear hK K)|(with_reducible refine .done (hK _ ?_);clear hK K)|refine ae.of rfl ?_|(with_reducible refine az.aE (fun h =>?_) (fun h =>?_) <;>try simp only[h])) <;>try simp only[aG,R,simprocAttr])
    all_goals clear R
    rfl
  ·have bH:b∈s.here:=of_decide_eq_true q2;simp only[Bool.true_eq_false,if_false,bH,true_or,if_true];have R:=y6 @q2 (y6 @hlk (y6 @dH (y6 @cj (y6 @bh (y6 @bR (y6 @bB (y6 @bw aD)))))))
   repeat' ((first |(with_reducible refine .guard (fun hb =>?_) (fun hb =>?_) <;>try simp only[hb])|refine ae.aF (by decide +kernel) rfl fun K hK =>?_|refine .lead _ (hF) ?_|refine .flat _ (hB) rfl ?_|(refine .ay [0,1,2,4,5,6,7,13,18,23] hK ?_;clear hK K)|(with_reducible refine .done (hK _ ?_);clear hK K)|refine ae.of rfl ?_|(with_reducible refine az.aE (fun h =>?_) (fun h =>?_) <;>try simp only[h])) <;>try simp only[aG,R,simprocAttr])
   all_goals clear R
   rfl
def pT(p:bt):bt×Int:=match cZ p with
 |none=>(gL,91)
 |some _=>(⟨p.au,p.j,p.j.length⟩,0)
theorem Zu(A:ai)(n:Nat)(p:bt)(v:Int)(rest:List aH)(u:Int):de A none n [2] (enc p) (.int .i64 v) rest (some (.int .i64 u))=aB rest (A.aT n (.box (enc (⟨p.au,p.j,v⟩:bt)))):=dG rfl rfl rfl
theorem uo(p:bt):a8 Tryz.prog 10 [enc p] (.tuple [enc (pT p).1,enc (pT p).2]):=by
 refine a8.cd Tryz.func10 H6 Jb Ki (u8 rfl) (fun hwf W0 bF E1 =>?_);simp only[yT,Dm,bJ];clear hwf;have hF:=uu p;simp only[qg] at hF;simp only[pT];cases ho:cZ p with
 |none =>
  rw[ho] at hF;have R:=y6 @cj (y6 @bh (y6 @bR (y6 @bB (y6 @bw aD))))
  repeat' ((first |refine ae.aF (by decide +kernel) rfl fun K hK =>?_|refine .lead _ (hF) ?_|(refine .ay [0,1,2,3,4,8] hK ?_;clear hK K)|(with_reducible refine .done (hK _ ?_);clear hK K)|refine ae.of rfl ?_|(with_reducible refine az.aE (fun h =>?_) (fun h =>?_) <;>try simp only[h])) <;>try simp only[aG,R,simprocAttr])
  all_goals clear R
  rfl
 |some s =>
  have hjl:=(iJ ho).2.2.2.1;rw[ho] at hF;have R:=y6 @Zu (y6 @cj (y6 @bh (y6 @bR (y6 @bB (y6 @bw aD)))))
  repeat' ((first |refine ae.aF (by decide +kernel) rfl fun K hK =>?_|refine .lead _ (hF) ?_|refine .lead _ (ya p (by omega)) ?_|(refine .ay [0,1,2,3,4,8] hK ?_;clear hK K)|(with_reducible refine .done (hK _ ?_);clear hK K)|refine ae.of rfl ?_|(with_reducible refine az.aE (fun h =>?_) (fun h =>?_) <;>try simp only[h])) <;>try simp only[aG,R,simprocAttr])
  all_goals clear R
theorem xO{α:Type}[Enc α]{A:ai}(esz:Nat){l:List α}{i:Nat}(h:i≤l.length)(ab:Enc.sz α=esz):jZ A esz none (some (.int .i64 i)) none (enc l)=some (enc (l.take i)):=by
 simp only[jZ,hE,ab,if_true,iP,jk,Z8];rw[if_pos ⟨by omega,by omega,by omega,by omega⟩];simp
def kY:cC:=⟨0,0,0,false⟩
theorem nm:(∀ A n b rest (q:cC) x y z w,de A (some 4) n [] b (enc q) rest (some (.agg [.int .i64 x,.int .i64 y,.int .i64 z,.bool w]))=aB rest (A.aT n (.box (enc q))))∧(∀ A n b rest (q r:cC),de A (some 4) n [] b (enc q) rest (some (enc r))=aB rest (A.aT n (.box (enc q)))) :=
 ⟨fun A n b rest q x y z w=>dG (ef _) (by rw[fb];rfl) (eH _),fun A n b rest q r=>dG (ef _) (by rw[fb];rfl) ((eH _).trans (eH _).symm)⟩
theorem nz:(dQ [.int .i64 0,.int .i64 0,.int .i64 0,.bool false] []).map I.agg=some (enc kY):=by simp[dQ];rfl
theorem sw(a b c:Int):(dQ [.int .i64 0,.int .i64 0,.int .i64 0,.bool false] [(0,.int .i64 a),(1,.int .i64 b),(2,.int .i64 c)]).map I.agg=some (enc (⟨a,b,c,false⟩:cC)):=by simp[dQ,I.bT,I.size];rfl
def rM(p:bt)(b to:Int):bt×cC×Int:=match cZ p with
 |none=>(gL,kY,91)
 |some s=>if dp 1 9999 b=false then (gL,kY,1) else if dp 0 5 to=false∨to=p.au then (gL,kY,90) else if b∉s.here then (gL,kY,93) else
  if p.j.length=200 then (gL,kY,2) else ((jE p ⟨3,b,to,(s.all.length:Int)+1⟩).1,⟨(s.all.length:Int)+1,to,b,false⟩,0)
theorem Gc(p:bt)(b to:Int):a8 Tryz.prog 31 [enc p,enc b,enc to] (.tuple [enc (rM p b to).1,enc (rM p b to).2.1,enc (rM p b to).2.2]):=by
 refine a8.cd Tryz.func31 Is Jw KN (u8 rfl) (fun hwf W0 bF E1 =>?_);simp only[zk,DT,bJ,Z1,Nat.reduceAdd];clear hwf;have hF:=p0 p;simp only[rM];cases ho:cZ p with
 |none =>
  rw[ho] at hF;simp only[km] at hF;have R:=y6 @nz (y6 @nm (y6 @cj (y6 @bh (y6 @bR (y6 @bB (y6 @bw aD))))))
  repeat' ((first |(with_reducible refine .guard (fun hb =>?_) (fun hb =>?_) <;>try simp only[hb])|refine ae.aF (by decide +kernel) rfl fun K hK =>?_|refine .lead _ (hF) ?_|(refine .ay [0,1,2,3,6,7,8,9,10,11,17,23,29,41,70] hK ?_;clear hK K)|(with_reducible refine .done (hK _ ?_);clear hK K)|refine ae.of rfl ?_|(with_reducible refine az.aE (fun h =>?_) (fun h =>?_) <;>try simp only[h])) <;>try simp only[aG,R,simprocAttr])
  all_goals clear R
  rfl
 |some s =>
  have hjl:=(iJ ho).2.2.2.1;have hsl:=(iJ ho).2.2.1;rw[ho] at hF;simp only[km] at hF;have hlk:=gn eS b s.here;rw[eC] at hlk;have hB:=p5 b;have hT:=mw to;have hW:=uv p ⟨3,b,to,(s.all.length:Int)+1⟩ hjl;have hw:IntKind.i64.wrap ((s.all.length:Int)+1)=(s.all.length:Int)+1:=ly _ (by omega) (by omega);rcases q1:dp 1 9999 b
  ·rw[q1] at hB;have R:=y6 @nz (y6 @nm (y6 @dH (y6 @cj (y6 @bh (y6 @bR (y6 @bB (y6 @bw aD)))))))
   repeat' ((first |(with_reducible refine .guard (fun hb =>?_) (fun hb =>?_) <;>try simp only[hb])|refine ae.aF (by decide +kernel) rfl fun K hK =>?_|refine .lead _ (hF) ?_|refine .flat _ (hB) rfl ?_|(refine .ay [0,1,2,3,6,7,8,9,10,11,17,23,29,41,70] hK ?_;clear hK K)|(with_reducible refine .done (hK _ ?_);clear hK K)|refine ae.of rfl ?_|(with_reducible refine az.aE (fun h =>?_) (fun h =>?_) <;>try simp only[h])) <;>try simp only[aG,R,simprocAttr])
   all_goals clear R
   rfl
  rw[q1] at hB;rcases q2:dp 0 5 to
  ·rw[q2] at hT;simp only[Bool.true_eq_false,if_false,true_or,if_true];have R:=y6 @nz (y6 @nm (y6 @dH (y6 @cj (y6 @bh (y6 @bR (y6 @bB (y6 @bw aD)))))))
   repeat' ((first |(with_reducible refine .guard (fun hb =>?_) (fun hb =>?_) <;>try simp only[hb])|refine ae.aF (by decide +kernel) rfl fun K hK =>?_|refine .lead _ (hF) ?_|refine .flat _ (hB) rfl ?_|refine .flat _ (hT) rfl ?_|(refine .ay [0,1,2,3,6,7,8,9,10,11,17,23,29,41,70] hK ?_;clear hK K)|(with_reducible refine .done (hK _ ?_);clear hK K)|refine ae.of rfl ?_|(with_reducible refine az.aE (fun h =>?_) (fun h =>?_) <;>try simp only[h])) <;>try simp only[aG,R,simprocAttr])
   all_goals clear R
   rfl
  rw[q2] at hT;rcases q3:(to==p.au)
  case true =>
   have e:to=p.au:=by simpa using q3
   simp only[Bool.true_eq_false,if_false,false_or,e,if_true];rw[e] at hT q3;have R:=y6 @q3 (y6 @nz (y6 @nm (y6 @dH (y6 @cj (y6 @bh (y6 @bR (y6 @bB (y6 @bw aD))))))))
   repeat' ((first |(with_reducible refine .guard (fun hb =>?_) (fun hb =>?_) <;>try simp only[hb])|refine ae.aF (by decide +kernel) rfl fun K hK =>?_|refine .lead _ (hF) ?_|refine .flat _ (hB) rfl ?_|refine .flat _ (hT) rfl ?_|(refine .ay [0,1,2,3,6,7,8,9,10,11,17,23,29,41,70] hK ?_;clear hK K)|(with_reducible refine .done (hK _ ?_);clear hK K)|refine ae.of rfl ?_|(with_reducible refine az.aE (fun h =>?_) (fun h =>?_) <;>try simp only[h])) <;>try simp only[aG,R,simprocAttr])
   all_goals clear R
   rfl
  have e:¬ to=p.au:=by simpa using q3
  simp only[Bool.true_eq_false,if_false,false_or,e];rcases q4:decide (b∈s.here)
  ·have bH:b∉s.here:=of_decide_eq_false q4;rw[if_pos bH];have R:=y6 @q3 (y6 @q4 (y6 @hlk (y6 @nz (y6 @nm (y6 @dH (y6 @cj (y6 @bh (y6 @bR (y6 @bB (y6 @bw aD))))))))))
   repeat' ((first |(with_reducible refine .guard (fun hb =>?_) (fun hb =>?_) <;>try simp only[hb])|refine ae.aF (by decide +kernel) rfl fun K hK =>?_|refine .lead _ (hF) ?_|refine .flat _ (hB) rfl ?_|refine .flat _ (hT) rfl ?_|(refine .ay [0,1,2,3,6,7,8,9,10,11,17,23,29,41,70] hK ?_;clear hK K)|(with_reducible refine .done (hK _ ?_);clear hK K)|refine ae.of rfl ?_|(with_reducible refine az.aE (fun h =>?_) (fun h =>?_) <;>try simp only[h])) <;>try simp only[aG,R,simprocAttr])
   all_goals clear R
   rfl
  ·have bH:b∈s.here:=of_decide_eq_true q4;rw[if_neg (by simpa using bH)];by_cases U:p.j.length=200
   ·have hw1:jE p ⟨3,b,to,(s.all.length:Int)+1⟩=(gL,2):=by simp[jE,U,gL]
    rw[hw1] at hW;simp only[if_pos U];have R:=y6 @hw (y6 @q3 (y6 @q4 (y6 @hlk (y6 @nz (y6 @sw (y6 @nm (y6 @dH (y6 @cj (y6 @bh (y6 @bR (y6 @bB (y6 @bw aD))))))))))))
    repeat' ((first |(with_reducible refine .guard (fun hb =>?_) (fun hb =>?_) <;>try simp only[hb])|refine ae.aF (by decide +kernel) rfl fun K hK =>?_|refine .lead _ (hF) ?_|refine .flat _ (hB) rfl ?_|refine .flat _ (hT) rfl ?_|refine .lead _ (hW) ?_|(refine .ay [0,1,2,3,6,7,8,9,10,11,17,23,29,41,70] hK ?_;clear hK K)|(with_reducible refine .done (hK _ ?_);clear hK K)|refine ae.of rfl ?_|(with_reducible refine az.aE (fun h =>?_) (fun h =>?_) <;>try simp only[h])) <;>try simp only[aG,R,simprocAttr])
    all_goals clear R
    rfl
   ·have hw1:(jE p ⟨3,b,to,(s.all.length:Int)+1⟩).2=0:=by simp[jE,U]
    rw[hw1] at hW;simp only[if_neg U];have R:=y6 @hw (y6 @q3 (y6 @q4 (y6 @hlk (y6 @nz (y6 @sw (y6 @nm (y6 @dH (y6 @cj (y6 @bh (y6 @bR (y6 @bB (y6 @bw aD))))))))))))
    repeat' ((first |(with_reducible refine .guard (fun hb =>?_) (fun hb =>?_) <;>try simp only[hb])|refine ae.aF (by decide +kernel) rfl fun K hK =>?_|refine .lead _ (hF) ?_|refine .flat _ (hB) rfl ?_|refine .flat _ (hT) rfl ?_|refine .lead _ (hW) ?_|(refine ae.rA (gs:=vW) [] [(3,[3]),(6,[6]),(7,[7]),(11,[11])] [0,1,2,3,4] (by decide +kernel) (cX.of (by simp[fw,bZ,I.only])) fun K hK =>?_;simp only[ff,vW,zz7,zz8,R,simprocAttr])|(refine .ay [0,1,2,3,6,7,8,9,10,11,17,23,29,41,70] hK ?_;clear hK K)|(with_reducible refine .done (hK _ ?_);clear hK K)|refine ae.of rfl ?_|(with_reducible refine az.aE (fun h =>?_) (fun h =>?_) <;>try simp only[h])) <;>try simp only[aG,R,simprocAttr])
    all_goals clear R
def qL(k:Int):Int:=if k=1 then 7 else if k=2 then 5 else if k=3 then 8 else if k=4 then 6 else 0
theorem WS(k:Int):fk (.i .i64) (.int .i64 0) (.int .i64 k) [.int .i64 1,.int .i64 2,.int .i64 3,.int .i64 4] [.int .i64 7,.int .i64 5,.int .i64 8,.int .i64 6]=some (.int .i64 (qL k),decide (k=1∨k=2∨k=3∨k=4)):=by
 have h:=td eS (.int .i64 0) k [1,2,3,4] [.int .i64 7,.int .i64 5,.int .i64 8,.int .i64 6];simp only[Z3,zx0,eC] at h;rw[h];by_cases J:k=1
 ·subst J;rfl
 by_cases U:k=2
 ·subst U;rfl
 by_cases ah:k=3
 ·subst ah;rfl
 by_cases ar:k=4
 ·subst ar;rfl
 simp[List.findIdx?_cons,J,U,ah,ar,qL]
theorem GF(k:Int):a8 Tryz.prog 80 [enc k] (enc (qL k)):=by
 refine a8.cd Tryz.func80 IV JW Ld (u8 rfl) (fun hwf W0 bF E1 =>?_);simp only[zN,Eo,bJ];clear hwf;have hv:∀ k n,(I.int k n).bT=true:=fun _ _=>rfl;have aq:=WS k;have R:=y6 @hv (y6 @aq (y6 @CI (y6 @bR (y6 @bB (y6 @bw aD)))))
 repeat' ((first |refine ae.aF (by decide +kernel) rfl fun K hK =>?_|(refine .ay [0,2] hK ?_;clear hK K)|(with_reducible refine .done (hK _ ?_);clear hK K)|refine ae.of rfl ?_|(with_reducible refine az.aE (fun h =>?_) (fun h =>?_) <;>try simp only[h])) <;>try simp only[aG,R,simprocAttr])
 all_goals clear R
def lR(r:ea):bg:=⟨qL r.kind,r.aK,r.cP,r.no⟩
def qB(p:bt)(r:ea):bt×Int:=match cZ p with
 |none=>(gL,91)
 |some s=>if tt r=false∨r.to≠p.au then (gL,95) else match gD s (lR r) with
  |none=>(p,0)
  |some _=>jE p (lR r)
theorem Fz{ts:List (Nat×I)}{os0:List (Nat×ao)}{s:aC}(hno:∀ m,2000≤m→aj os0 m=none):av ts (dv s++os0)=av ts (os0++dv s):=by
 simp only[av,ai.mk.injEq,true_and]
 funext n
 rw[fK,fK];cases J:aj (dv s) n with
 |none=>simp only;cases aj os0 n <;>rfl
 |some y=>rw[hno n (xQ (s:=s) (by simp[aw,J])).1]
theorem aR.X7{K:ai→Prop}{p:bt}{avs:List I}{a1 a2:Option (List I)}{dst:Option Nat}{rest:List aH}{ts:List (Nat×I)}{os0:List (Nat×ao)}(ho:cZ p=none)(hav:avs=[enc p])
  (h:aR Tryz.prog dx false K (aB rest ((av ts os0).aS dst (.tuple [.nilp,.int .i64 91])))):aR Tryz.prog dx false K (.call 69 avs a1 a2 dst rest (av ts os0)):=by
 subst hav;refine .bP false [] [] [enc p] _ rfl (yf p) ⟨fun m x hx=>by simp[aj] at hx,fun m m' hm=>by simp[aw,aj] at hm⟩ ⟨.inl ⟨(kR _ _).symm,b7 _ _,ef _⟩,trivial⟩ ?_ ?_
 ·intro r os' hp;unfold mV at hp;rw[ho] at hp;obtain ⟨rfl,rfl⟩:=hp;exact ⟨fun m y hy=>by simp[aj] at hy,fun m m' hm=>by simp[aw,aj] at hm,fun m hm=>hm,fun m hm=>by simp[aw,aj] at hm,rfl,fun h=>by cases h⟩
 ·intro r os' hp;unfold mV at hp;rw[ho] at hp;obtain ⟨rfl,rfl⟩:=hp;exact h
theorem aR.tv{K:ai→Prop}{p:bt}{s:aC}{avs:List I}{a1 a2:Option (List I)}{dst:Option Nat}{rest:List aH}{ts:List (Nat×I)}{os0:List (Nat×ao)}(ho:cZ p=some s)(hav:avs=[enc p])(hno:∀ m,2000≤m→aj os0 m=none)
  (h:aR Tryz.prog dx false K (aB rest ((av ts (os0++dv s)).aS dst (.tuple [.ptr 2000 [],.int .i64 0])))):aR Tryz.prog dx false K (.call 69 avs a1 a2 dst rest (av ts os0)):=by
 subst hav;obtain ⟨hk,_,ah,ar,_⟩:=iJ ho;refine .bP false [] [] [enc p] _ rfl (yf p) ⟨fun m x hx=>by simp[aj] at hx,fun m m' hm=>by simp[aw,aj] at hm⟩ ⟨.inl ⟨(kR _ _).symm,b7 _ _,ef _⟩,trivial⟩ ?_ ?_
 ·intro r os' hp;unfold mV at hp;rw[ho] at hp;obtain ⟨rfl,rfl⟩:=hp;refine ⟨fun m y hy=>⟨(lq hk hy).1,(lq hk hy).2,fun h=>by cases h⟩,fun m m' _ _ h=>h,fun m hm=>by simp[aw,aj] at hm,fun m hm _ =>?_,?_,fun h=>by cases h⟩
  ·have:=xQ hm;exact ⟨hno m this.1,by simp only[bI];omega⟩
  ·have:=(dN (iA s.all.length) (n:=2000)).2 (.inl (by omega));simp[I.only,I.cv,this]
 ·intro r os' hp;unfold mV at hp;rw[ho] at hp;obtain ⟨rfl,rfl⟩:=hp;rw[l7,Fz hno];exact h
theorem aR.FA{K:ai→Prop}{s s2:aC}{b:Bool}{x:bg}{avs:List I}{a1 a2:Option (List I)}{dst:Option Nat}{rest:List aH}{ts:List (Nat×I)}{ow:List (Nat×ao)}(hk:cG s)(hlen:s.all.length≤300)(hav:avs=[.ptr 2000 [],enc x])(how:∀ m,2000≤m→aj ow m=none)(hst:ed s x=(s2,b))
  (h:aR Tryz.prog dx false K (aB rest ((av ts (ow++dv s2)).aS dst (.bool b)))):aR Tryz.prog dx false K (.call 81 avs a1 a2 dst rest (av ts (ow++dv s))):=by
 refine aR.rU hk hlen hav how hst ?_;have hso:=rQ hk x;rw[hst] at hso;obtain ⟨k1,k2,k3,k4⟩:=hso;have e:av ts (dv s2++(ow++dv s))=av ts (ow++dv s2):=by
  rw[←Fz how];simp only[av,ai.mk.injEq,true_and]
  funext n
  rw[fK (dv s2) (ow++dv s),fK (dv s2) ow,fK ow (dv s)];cases J:aj (dv s2) n with
  |some y=>rfl
  |none =>
   simp only;have:aj (dv s) n=none:=by
    cases U:aj (dv s) n with
    |none=>rfl
    |some y =>
     exfalso
     have hin:aw (dv s) n=true:=by simp[aw,U]
     have:aw (dv s2) n=true:=by
      rcases (dN (iA _)).1 hin with h5 | ⟨i,hi,rfl⟩
      ·exact (dN (iA _)).2 (.inl h5)
      ·exact (dN (iA _)).2 (.inr ⟨i,Nat.lt_of_lt_of_le hi k3,rfl⟩)
     simp[aw,J] at this
   rw[this];cases aj ow n <;>rfl
 rw[e];exact h
theorem x7(p:bt)(r:ea):a8 Tryz.prog 35 [enc p,enc r] (.tuple [enc (qB p r).1,enc (qB p r).2]):=by
 refine a8.cd Tryz.func35 It Jx KO (u8 rfl) (fun hwf W0 bF E1 =>?_);simp only[zl,DU,bJ,Z1];clear hwf;simp only[qB];have how:∀ (a b c:ao) m,2000≤m→aj [(4,a),(3,b),(2,c)] m=none:=fun a b c m hm=>by simp only[aj];rw[if_neg (by omega),if_neg (by omega),if_neg (by omega)]
 have how2:∀ (a b c d e:ao) m,2000≤m→aj [(8,a),(8,b),(4,c),(3,d),(2,e)] m=none:=fun a b c d e m hm=>by simp only[aj];rw[if_neg (by omega),if_neg (by omega),if_neg (by omega),if_neg (by omega),if_neg (by omega)]
 cases ho:cZ p with
 |none =>
  have R:=y6 @cj (y6 @bh (y6 @bR (y6 @bB (y6 @bw aD))))
  repeat' ((first |(with_reducible refine .guard (fun hb =>?_) (fun hb =>?_) <;>try simp only[hb])|refine ae.aF (by decide +kernel) rfl fun K hK =>?_|refine aR.X7 ho rfl ?_|(refine .ay [0,1,2,3,4,5,6,7,8,14,19,44] hK ?_;clear hK K)|(with_reducible refine .done (hK _ ?_);clear hK K)|refine ae.of rfl ?_|(with_reducible refine az.aE (fun h =>?_) (fun h =>?_) <;>try simp only[h])) <;>try simp only[aG,R,simprocAttr])
  all_goals clear R
  rfl
 |some s =>
  obtain ⟨hk,hme,ah,hjl,_⟩:=iJ ho
  dsimp only
  have hR:=Gt r;have n8:aj (dv s) 8=none:=eF (.inl (by omega)) fun i _=>by simp only[bE];omega
  rcases q1:tt r
  ·rw[q1] at hR;simp only[true_or,if_true];have R:=y6 @n8 (y6 @cj (y6 @bh (y6 @bR (y6 @bB (y6 @bw aD)))))
   repeat' ((first |(with_reducible refine .guard (fun hb =>?_) (fun hb =>?_) <;>try simp only[hb])|refine ae.aF (by decide +kernel) rfl fun K hK =>?_|refine aR.tv ho rfl (how _ _ _) ?_|refine .flat _ (hR) rfl ?_|(refine .ay [0,1,2,3,4,5,6,7,8,14,19,44] hK ?_;clear hK K)|(with_reducible refine .done (hK _ ?_);clear hK K)|refine ae.of rfl ?_|(with_reducible refine az.aE (fun h =>?_) (fun h =>?_) <;>try simp only[h])) <;>try simp only[aG,R,Z5,simprocAttr])
   all_goals clear R
   rfl
  rw[q1] at hR;rcases q2:(r.to != p.au)
  case true =>
   have e:r.to≠p.au:=by simpa using q2
   simp only[Bool.true_eq_false,false_or,if_pos e];have R:=y6 @n8 (y6 @q2 (y6 @cj (y6 @bh (y6 @bR (y6 @bB (y6 @bw aD))))))
   repeat' ((first |(with_reducible refine .guard (fun hb =>?_) (fun hb =>?_) <;>try simp only[hb])|refine ae.aF (by decide +kernel) rfl fun K hK =>?_|refine aR.tv ho rfl (how _ _ _) ?_|refine .flat _ (hR) rfl ?_|(refine .ay [0,1,2,3,4,5,6,7,8,14,19,44] hK ?_;clear hK K)|(with_reducible refine .done (hK _ ?_);clear hK K)|refine ae.of rfl ?_|(with_reducible refine az.aE (fun h =>?_) (fun h =>?_) <;>try simp only[h])) <;>try simp only[aG,R,Z5,simprocAttr])
   all_goals clear R
   rfl
  have e:¬ r.to≠p.au:=by simpa using q2
  simp only[Bool.true_eq_false,false_or,if_neg e];have hKd:=GF r.kind;have hst:∀ A rest b,de A (some 4) 8 [] b (enc (lR r)) rest (some (.agg [.int .i64 0,.int .i64 0,.int .i64 0,.int .i64 0]))=aB rest (A.aT 8 (.box (enc (lR r)))):=fun A rest b=>dG (ef _) (by rw[fb];rfl) (eH _);have hbl:(dQ [.int .i64 0,.int .i64 0,.int .i64 0,.int .i64 0] [(0,.int .i64 (qL r.kind)),(1,.int .i64 r.aK),(2,.int .i64 r.cP),(3,.int .i64 r.no)]).map I.agg=some (enc (lR r)):=uP _ _ _ _;cases ht:gD s (lR r) with
  |none =>
   have ab:ed s (lR r)=(s,false):=by simp[ed,ht]
   have R:=y6 @n8 (y6 @q2 (y6 @hst (y6 @hbl (y6 @cj (y6 @bh (y6 @bR (y6 @bB (y6 @bw aD))))))))
   repeat' ((first |(with_reducible refine .guard (fun hb =>?_) (fun hb =>?_) <;>try simp only[hb])|refine ae.aF (by decide +kernel) rfl fun K hK =>?_|refine aR.tv ho rfl (how _ _ _) ?_|refine .flat _ (hR) rfl ?_|refine .flat _ (hKd) rfl ?_|refine aR.FA (ow:=[(8,_),(8,_),(4,_),(3,_),(2,_)]) hk (by omega) rfl (how2 _ _ _ _ _) ab ?_|refine .lead _ (ya p (by omega)) ?_|(refine .ay [0,1,2,3,4,5,6,7,8,14,19,44] hK ?_;clear hK K)|(with_reducible refine .done (hK _ ?_);clear hK K)|refine ae.of rfl ?_|(with_reducible refine az.aE (fun h =>?_) (fun h =>?_) <;>try simp only[h])) <;>try simp only[aG,R,Z5,simprocAttr])
   all_goals clear R
  |some s2 =>
   have ab:ed s (lR r)=(s2,true):=by simp[ed,ht]
   have hW:=uv p (lR r) hjl;have R:=y6 @n8 (y6 @q2 (y6 @hst (y6 @hbl (y6 @cj (y6 @bh (y6 @bR (y6 @bB (y6 @bw aD))))))))
   repeat' ((first |(with_reducible refine .guard (fun hb =>?_) (fun hb =>?_) <;>try simp only[hb])|refine ae.aF (by decide +kernel) rfl fun K hK =>?_|refine aR.tv ho rfl (how _ _ _) ?_|refine .flat _ (hR) rfl ?_|refine .flat _ (hKd) rfl ?_|refine aR.FA (ow:=[(8,_),(8,_),(4,_),(3,_),(2,_)]) hk (by omega) rfl (how2 _ _ _ _ _) ab ?_|refine .lead _ (hW) ?_|(refine .ay [0,1,2,3,4,5,6,7,8,14,19,44] hK ?_;clear hK K)|(with_reducible refine .done (hK _ ?_);clear hK K)|refine ae.of rfl ?_|(with_reducible refine az.aE (fun h =>?_) (fun h =>?_) <;>try simp only[h])) <;>try simp only[aG,R,Z5,simprocAttr])
   all_goals clear R
end Go.Proofs.YthbdbocionnfgaaGreatDoor
namespace Go.Proofs.YthbdbocionnfgaaGreatDoor
open Go Go.Abs Go.Shelf
open Go.Abs.Enc (enc)
def WH:Go.Shelf.Ren:=⟨fun | 189=>89 | 125=>117 | 257=>116 | 128=>142 | 129=>143 | 294=>133 | 295=>134 | 296=>135 | 297=>136 | 298=>137 | 299=>138 | 216=>139 | 300=>140 | 301=>141 | 328=>153 | 329=>154 | 330=>155 | 331=>156 | 332=>157 | 215=>158 | 343=>169 | n=>n,fun | 28=>54 | 3=>3 | 46=>151 | 0=>0 | 51=>169 | 53=>171 | 4=>4 | 183=>161 | 182=>160 | 131=>166 | 5=>5 | 9=>9 | 218=>178 | 222=>182 | 228=>195 | 229=>196 | n=>n,fun | n=>n⟩
theorem Cd:Go.Proofs.Lays.n189 Tryz.prog WH := {
 mixed:=by kernel_rfl
 f125:=Tryz.func117.trans (congrArg some (by kernel_rfl))
 f128:=Tryz.func142.trans (congrArg some (by kernel_rfl))
 f129:=Tryz.func143.trans (congrArg some (by kernel_rfl))
 f189:=Tryz.func89.trans (congrArg some (by kernel_rfl))
 f215:=Tryz.func158.trans (congrArg some (by kernel_rfl))
 f216:=Tryz.func139.trans (congrArg some (by kernel_rfl))
 f257:=Tryz.func116.trans (congrArg some (by kernel_rfl))
 f294:=Tryz.func133.trans (congrArg some (by kernel_rfl))
 f295:=Tryz.func134.trans (congrArg some (by kernel_rfl))
 f296:=Tryz.func135.trans (congrArg some (by kernel_rfl))
 f297:=Tryz.func136.trans (congrArg some (by kernel_rfl))
 f298:=Tryz.func137.trans (congrArg some (by kernel_rfl))
 f299:=Tryz.func138.trans (congrArg some (by kernel_rfl))
 f300:=Tryz.func140.trans (congrArg some (by kernel_rfl))
 f301:=Tryz.func141.trans (congrArg some (by kernel_rfl))
 f328:=Tryz.func153.trans (congrArg some (by kernel_rfl))
 f329:=Tryz.func154.trans (congrArg some (by kernel_rfl))
 f330:=Tryz.func155.trans (congrArg some (by kernel_rfl))
 f331:=Tryz.func156.trans (congrArg some (by kernel_rfl))
 f332:=Tryz.func157.trans (congrArg some (by kernel_rfl))
 f343:=Tryz.func169.trans (congrArg some (by kernel_rfl))
 t0:=Tryz.underlying0
 a0:=Tryz.isAgg0
 z0:=Tryz.sizeOf0
 v0:=Tryz.zeroValue0
 t3:=Tryz.underlying3
 a3:=Tryz.isAgg3
 z3:=Tryz.sizeOf3
 v3:=Tryz.zeroValue3
 t4:=Tryz.underlying4
 a4:=Tryz.isAgg4
 z4:=Tryz.sizeOf4
 v4:=Tryz.zeroValue4
 t5:=Tryz.underlying5
 a5:=Tryz.isAgg5
 z5:=Tryz.sizeOf5
 v5:=Tryz.zeroValue5
 t9:=Tryz.underlying9
 a9:=Tryz.isAgg9
 z9:=Tryz.sizeOf9
 v9:=Tryz.zeroValue9
 t28:=Tryz.underlying54
 a28:=Tryz.isAgg54
 z28:=Tryz.sizeOf54
 v28:=Tryz.zeroValue54
 t46:=Tryz.underlying151
 a46:=Tryz.isAgg151
 z46:=Tryz.sizeOf151
 v46:=Tryz.zeroValue151
 t51:=Tryz.underlying169
 a51:=Tryz.isAgg169
 z51:=Tryz.sizeOf169
 v51:=Tryz.zeroValue169
 t53:=Tryz.underlying171
 a53:=Tryz.isAgg171
 z53:=Tryz.sizeOf171
 v53:=Tryz.zeroValue171
 t131:=Tryz.underlying166
 a131:=Tryz.isAgg166
 z131:=Tryz.sizeOf166
 v131:=Tryz.zeroValue166
 t182:=Tryz.underlying160
 a182:=Tryz.isAgg160
 z182:=Tryz.sizeOf160
 v182:=Tryz.zeroValue160
 t183:=Tryz.underlying161
 a183:=Tryz.isAgg161
 z183:=Tryz.sizeOf161
 v183:=Tryz.zeroValue161
 t218:=Tryz.underlying178
 a218:=Tryz.isAgg178
 z218:=Tryz.sizeOf178
 v218:=Tryz.zeroValue178
 t222:=Tryz.underlying182
 a222:=Tryz.isAgg182
 z222:=Tryz.sizeOf182
 v222:=Tryz.zeroValue182
 t228:=Tryz.underlying195
 a228:=Tryz.isAgg195
 z228:=Tryz.sizeOf195
 v228:=Tryz.zeroValue195
 t229:=Tryz.underlying196
 a229:=Tryz.isAgg196
 z229:=Tryz.sizeOf196
 v229:=Tryz.zeroValue196 }
def jY(k:Nat)(ws:List Int):List (Nat×ao):=[(k,.box (.agg (ws.map enc)))]
theorem Cu(p:Nat→Bool)(l:List Int):(I.agg (l.map enc)).only p=true:=by simp only[I.only];exact eE p l
def Y9(ws:List Int):cK:=fun r os'=>r=.tuple []∧os'=jY 1000000 ws
def bV(xs:List Int):List Int:=xs.mergeSort fun x y=>decide (x≤y)
theorem EC{w:World}{D:aP}{E:aY} : ∀ {xs:List Int} {cs:List Value},aN w D E (xs.map enc) cs→cs=xs.map (Value.int .i64)∧∀ x∈xs,IntKind.i64.min≤x∧x≤IntKind.i64.max
 | [],cs,h=>by
  simp only[zx0,aN] at h;subst h;exact ⟨rfl,by simp⟩
 |x::xs,cs,h=>by
  simp only[Z3,aN] at h;obtain ⟨c1,c2,rfl,J,U⟩:=h;obtain ⟨rfl,ah⟩:=EC U;have h1':c1=[.int .i64 x]∧IntKind.i64.min≤x∧x≤IntKind.i64.max:=J;obtain ⟨rfl,ar⟩:=h1';refine ⟨rfl,fun y hy =>?_⟩;rcases zw5.1 hy with rfl | hy
  ·exact ar
  ·exact ah y hy
theorem rv{w:World}{D:aP}{E:aY} : ∀ {xs:List Int},(∀ x∈xs,IntKind.i64.min≤x∧x≤IntKind.i64.max)→aN w D E (xs.map enc) (xs.map (Value.int .i64))
 | [],_=>rfl
 |x::xs,h=>⟨[.int .i64 x],xs.map (Value.int .i64),rfl,⟨rfl,h x (by simp)⟩,rv fun y hy=>h y (by simp[hy])⟩
theorem rN(xs:List Int):(I.agg (xs.map enc)).aX=.eI (List.replicate xs.length .one):=by
 show cR.eI (I.c7 _)=_
 congr 1
 induction xs with
 |nil=>rfl
 |cons x xs ih=>simp only[Z3,I.c7,ih,zx7,List.replicate_succ];rfl
theorem Yy{xs ys q:List Int}(aq:ys.length=xs.length){cs:Array Value}(hc:cs.toList=(xs++q).map (Value.int .i64)):(Sort.putCells (Value.int .i64) 0 ys.toArray cs).toList=(ys++q).map (Value.int .i64):=by
 apply List.ext_getElem?;intro k;have J:cs[k]?=((xs++q).map (Value.int .i64))[k]?:=by rw[←hc,zx1]
 rw[zx1,Sort.putCells,Array.getElem?_mapIdx,J];simp only[zy0,List.size_toArray,zy3,true_and,Z1,Nat.sub_zero];by_cases hk:k<ys.length
 ·simp only[hk,if_true];rw[zz5 (by omega),zz5 hk,zz4 (by omega),zz4 hk];simp[hk]
 ·simp only[hk,if_false];rw[zx6 (by omega),zx6 (by omega),aq];cases (q[k-xs.length]?) <;>rfl
open Go.Sort Go.RowKit in
theorem GJ(xs q:List Int)(hn:xs.length≤1000):cU Tryz.prog 89 [.view 1000000 [] 1 0 xs.length] (jY 1000000 (xs++q)) (Y9 (bV xs++q)):=by
 refine ⟨An,fun w D E vs _ hD hO hv =>?_⟩;have ho:=hO.bP 1000000;simp only[jY,aj,if_true] at ho;obtain ⟨b,cs,T,aA,-,hb,hr,hnD⟩:=ho;have hEn:∀ n,n≠1000000→E n=none:=fun n hn=>by
  have:=hO.bP n;simpa only[jY,aj,if_neg hn,c6] using this
 simp only[aI] at hv;obtain ⟨v,rest,cs',rfl,hp,hr',rfl⟩:=hv;obtain ⟨b',aX,off,l,hE',hoff,hpart,rfl,hl1,hl2,hl3⟩:=hr';rw[aA] at hE';simp only[v6,bM.aL.injEq] at hE';obtain ⟨rfl,rfl⟩:=hE';have hoff':off=0:=by
  have:(some 0:Option Nat)=some off:=by rw[←hoff];rw[rN];rfl
  injection this with this;exact this.symm
 subst hoff';have hp':v=.slice (some ⟨b,0,none⟩) xs.length (l.length-0):=by
  have:[Value.slice (some ⟨b,0+0*1,none⟩) xs.length (l.length-0)]=[v]:=hp;simpa using this.symm
 subst hp';obtain ⟨hcs,hrg⟩:=EC hr;have hbs:b<w.heap.size:=(zz2.1 hb).1;have hH:Holds (Value.int .i64) w b 0 xs.toArray:=fun j hj=>by
  simp only[List.size_toArray] at hj;constructor
  ·simp only[World.cell?,hb,Option.isSome_none,Z2,if_false,Z1];rw[←zx1,hcs];rw[zz3,zz5 (by simpa using hj)];simp[hj]
  ·simp[World.frozen?,hb]
 have hlen:(bV xs).length=xs.length:=by simp[bV]
 refine (Any.slices_Sort_int Cd b 0 (l.length-0) xs w hH hbs (by omega)).mono ?_;rintro e w' ⟨rfl,n,os,rfl⟩;have hb1:(putRow (Value.int .i64) (Sort.ahead w n) b 0 (bV xs).toArray).heap[b]?=some (.cells (putCells (Value.int .i64) 0 (bV xs).toArray cs) T (0,0)):=by
  simp[putRow,mapBlock,Sort.ahead,Array.getElem?_modify,hb,onCells]
 have hother:∀ k,k<w.heap.size→k≠b→(grow (putRow (Value.int .i64) (Sort.ahead w n) b 0 (bV xs).toArray) os).heap[k]?=w.heap[k]?:=fun k hk hkb=>by
  rw[heap_grow_old _ _ (by simpa[Sort.ahead] using hk)];simp[putRow,mapBlock,Sort.ahead,Array.getElem?_modify,Ne.symm hkb]
 have hb2:(grow (putRow (Value.int .i64) (Sort.ahead w n) b 0 (bV xs).toArray) os).heap[b]?=some (.cells (putCells (Value.int .i64) 0 (bV xs).toArray cs) T (0,0)):=by
  rw[heap_grow_old _ _ (by simpa[Sort.ahead] using hbs)];exact hb1
 have hsz:w.heap.size≤(grow (putRow (Value.int .i64) (Sort.ahead w n) b 0 (bV xs).toArray) os).heap.size:=by simp[Sort.ahead]
 have hshow:(grow (putRow (Value.int .i64) (Sort.ahead w n) b 0 (xs.mergeSort fun x y=>decide (x≤y)).toArray) os)=(grow (putRow (Value.int .i64) (Sort.ahead w n) b 0 (bV xs).toArray) os):=rfl;rw[hshow];have hw1:(grow (putRow (Value.int .i64) (Sort.ahead w n) b 0 (bV xs).toArray) os).os=w.os:=rfl;have hw2:(grow (putRow (Value.int .i64) (Sort.ahead w n) b 0 (bV xs).toArray) os).tape=w.tape:=rfl;have hw3:(grow (putRow (Value.int .i64) (Sort.ahead w n) b 0 (bV xs).toArray) os).output=w.output:=rfl;revert hother hb2 hsz hw1 hw2 hw3;generalize grow (putRow (Value.int .i64) (Sort.ahead w n) b 0 (bV xs).toArray) os=w2;intro hother hb2 hsz hw1 hw2 hw3;have hmem:∀ x∈bV xs++q,IntKind.i64.min≤x∧x≤IntKind.i64.max:=fun x hx=>hrg x (by
  rcases zy7.1 hx with h | h
  ·exact List.mem_append_left _ (by simpa[bV] using h)
  ·exact List.mem_append_right _ h)
 refine ⟨.tuple #[],D,E,.tuple [],jY 1000000 (bV xs++q),rfl,⟨rfl,rfl⟩,⟨[],rfl,rfl⟩,⟨fun m =>?_,hO.cQ⟩,⟨hw1,hw2,hw3,hsz,fun k hk =>?_⟩,fun _ _ h=>h,fun b0 o h=>Nat.lt_of_lt_of_le (hD b0 o h) hsz,fun _ _ h _ _=>h,fun m e h _=>⟨e,h,bM.le.refl e⟩,⟨fun b0 o u af hc =>?_,fun b0 es ck af hc =>?_⟩⟩
 ·by_cases hm:m=1000000
  ·subst hm;simp only[jY,aj,if_true];refine ⟨b,_,T,?_,.inr ⟨1000000,_,aA,rfl⟩,hb2,?_,hnD⟩
   ·rw[aA,rN,rN,Z7,Z7,hlen]
   ·show aN w2 D E _ _
    rw[Yy hlen hcs];exact rv hmem
  ·simp only[jY,aj,if_neg hm,c6];exact hEn m hm
 ·by_cases hk2:k<w.heap.size
  ·exact hother k hk2 fun e=>hk (.inr ⟨1000000,_,aA,by rw[e];rfl⟩)
  ·exact absurd (.inl (Nat.le_of_not_lt hk2)) hk
 ·have hne:b0≠b:=fun e=>hnD o (e▸af);simp only[World.cell?,hother b0 (hD b0 o af) hne] at hc ⊢;exact hc
 ·have hne:b0≠b:=fun e=>hnD 0 (e▸af);rw[hother b0 (hD b0 0 af) hne];exact hc
theorem GK(v:I)(hv0:v=.nils 1∨v=enc ([]:List Int)):a8 Tryz.prog 89 [v] (.tuple []):=by
 refine ⟨An,fun w D vs _ hD hv =>?_⟩;simp only[aI] at hv;obtain ⟨u,rest,cs',rfl,hp,hr',rfl⟩:=hv;have hu:∃ a cap,u=.slice a 0 cap:=by
  rcases hv0 with rfl | rfl
  ·have J:cs'=[.slice none 0 0]:=hr';have U:cs'=[u]:=hp;rw[J] at U;exact ⟨none,0,by simpa using U.symm⟩
  ·obtain ⟨a,cap,J,_⟩:=hr';have U:cs'=[u]:=hp;rw[J] at U;exact ⟨a,cap,by simpa using U.symm⟩
 obtain ⟨a,cap,rfl⟩:=hu;refine (Any.slices_Sort_int_none Cd a cap w).mono ?_;rintro e w' ⟨rfl,rfl⟩;exact ⟨.tuple #[],D,rfl,⟨[],rfl,rfl⟩,⟨rfl,rfl,rfl,Z4 _,fun _ _=>rfl⟩,hD,fun _ _ h _=>h⟩
end Go.Proofs.YthbdbocionnfgaaGreatDoor
