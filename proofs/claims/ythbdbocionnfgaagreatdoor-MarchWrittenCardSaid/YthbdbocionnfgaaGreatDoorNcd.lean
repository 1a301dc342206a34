/-
  A part of the proof that the law MarchWritten returns true for every input; three tables of Go's library start as the text lays them (the card ties them); conditions: none beyond the statement's own. (part 4 of 6)
-/
import Derived.ProofKit
import Derived.SizedLaws
import Derived.WalkKit
import Derived.Tactics
import Derived.Tactics2
import Derived.RecoverIn
import Derived.Test.YthbdbocionnfgaaGreatDoorRows
import Derived.Test.YthbdbocionnfgaaGreatDoorCards
import Derived.Test.YthbdbocionnfgaaGreatDoorTie
import Derived.LaidMore
import Derived.MakeChecks
import Derived.Lib.LaidTab
import Derived.Lib.LaidU8
import Derived.Test.YthbdbocionnfgaaGreatDoorNcc
set_option linter.unusedSimpArgs false
set_option linter.unusedVariables false
set_option maxHeartbeats 16000000
set_option maxRecDepth 100000
namespace Go.Abs
open Go Go.RowKit
open Enc (enc)
def kJ(w:World):aP:=fun b _=>b<w.heap.size
structure iX (P:Program) (t:TypeId) (α:Type) [Enc α]:Prop where
 cells:P.cellsOf t=Enc.sz α
 Yk:0<Enc.sz α
 nY:∀ {H:Type} {enc0:TypeId×Value→H} {w:World} {fuel:Nat} {cs:List Value} {x:DataW H×List MemPlace},DataW.trod enc0 P w 0 (fun _=>true) true fuel t cs=some x→∃ a:α,al w (kJ w) dh (enc a) cs
theorem X5{P:Program}{t:TypeId}(ht:P.underlying t=some (.int .i64))(hc:P.cellsOf t=1):iX P t Int :=
 ⟨hc,by decide,fun h=>by
  obtain ⟨n,rfl,_,hw⟩:=DataW.trod_int ht h;refine ⟨n,?_⟩;rw[eH,al];simp only[Lit.wf,t8,decide_eq_true_eq] at hw;exact ⟨rfl,hw.1,hw.2⟩⟩
theorem GO(a:Addr)(i j:Nat):(a.add i).add j=a.add (i+j):=by
 unfold Addr.add;by_cases hi:i=0 <;>by_cases hj:j=0 <;>simp[hi,hj,Nat.add_assoc]
theorem X6{P:Program}{t e:TypeId}{α:Type}[Enc α](ht:P.underlying t=some (.slice e))(he:iX P e α)(hc:P.cellsOf t=1):iX P t (List α) :=
 ⟨hc,by rw[kd];exact Nat.one_pos,fun {H enc0 w fuel cs x} h=>by
  rcases DataW.trod_slice ht h with ⟨rfl,_⟩ | ⟨a,len,cap,elems,rest,n,_,rfl,_,hb,ao,hm,hlen,hel,_⟩
  ·refine ⟨[],?_⟩;simp only[hl,zy6];rw[al];exact ⟨none,0,rfl,Z3 _,by decide,.inl rfl,by simp⟩
  ·have key:∀ k,k≤len→∃ (l:List α) (cs':List Value),l.length=k∧aM w (kJ w) dh (l.map enc) cs'∧cs'.length=k*Enc.sz α∧∀ j v,cs'[j]?=some v→w.cell? (a.add j)=some v:=by
    intro k
    induction k with
    |zero=>exact fun _=>⟨[],[],rfl,by simp[aM],by simp,by simp⟩
    |succ k ih =>
     intro hk;obtain ⟨l,cs',J,U,ah,au⟩:=ih (by omega);have h5:=hel k (by omega);have h6:k<elems.length:=by omega
     rw[zz4 h6] at h5;obtain ⟨ce,h7,h8⟩:=zx7.1 h5;obtain ⟨y,hy⟩:=he.nY h8;rw[he.cells] at h7;obtain ⟨_,h9,h10⟩:=World.cells?_some h7;refine ⟨l++[y],cs'++ce,by simp[J],?_,by rw[Z6,ah,h9,Nat.succ_mul],fun j v hj =>?_⟩
     ·rw[zz2];refine jY _ _ _ _ U ?_;simp only[Z4,zy6,aM];exact ⟨ce,[],by simp,hy,rfl⟩
     ·rcases Nat.lt_or_ge j cs'.length with hlt | hge
      ·rw[zz5 hlt] at hj;exact au j v hj
      ·rw[zx4 hge] at hj;have hlt:j-cs'.length<Enc.sz α:=by
        have:=(Z5.1 hj).1;omega
       have:=h10 (j-cs'.length) hlt;rw[GO,←ah,Nat.add_sub_cancel' hge] at this;rw[this];exact hj
   obtain ⟨l,cs',J,U,ah,au⟩:=key len (Z3 _);refine ⟨l,?_⟩;simp only[hl,al,Z9];refine ⟨some a,cap,by rw[J],by omega,hm,?_,GX l⟩;by_cases hz:len=0
   ·left;have:l=[]:=List.length_eq_zero_iff.1 (by omega);rw[this];rfl
   right
   have hpos:0<cs'.length:=by rw[ah];exact Nat.mul_pos (Nat.pos_of_ne_zero hz) he.Yk
   have aY:=au 0 cs'[0] (zz4 hpos);have hsp:a.spot=none:=by
    simp only[Addr.add,if_true] at aY;unfold World.cell? at aY;split at aY
    ·split at aY
     ·cases aY
     ·rename_i ab;cases bK:a.spot <;>simp_all
    ·cases aY
   have ha:∀ j,a.add j=⟨a.block,a.off+j,none⟩:=fun j=>by
    unfold Addr.add;split
    ·rename_i hj;subst hj;cases a;simp_all
    ·rfl
   refine ⟨a.block,a.off,cs',by cases a;simp_all,fun j v hj =>?_,U⟩;have h5:=au j v hj;rw[ha] at h5;refine ⟨h5,?_⟩
   show (⟨a.block,a.off+j,none⟩:Addr).block<_
   exact World.block_lt_of_cell? w _ h5⟩
end Go.Abs
namespace Go.Abs
open Go Go.RowKit Go.ChangeShapes
open Enc (enc)
def qB(P:Program)(t:TypeId)(l:List (TypeId×Nat)):Bool:=match P.underlying t with
 |some (.struct fs)=>fs.toList.map (fun f=>(f.type,f.offset))==l
 |_=>false
def BQ(P:Program)(t:TypeId)(n:Nat)(e:TypeId):Bool:=match P.underlying t with
 |some (.array n' e')=>n'==n&&e'==e
 |_=>false
theorem Wh{P:Program}{t:TypeId}{n:Nat}{e:TypeId}(h:BQ P t n e=true):P.underlying t=some (.array n e):=by
 unfold BQ at h;split at h
 ·rename_i n' e' ht;simp only[t8,beq_iff_eq] at h;rw[ht,h.1,h.2]
 ·cases h
theorem Wl{P:Program}{t:TypeId}{l:List (TypeId×Nat)}(h:qB P t l=true):∃ fs,P.underlying t=some (.struct fs)∧fs.toList.map (fun f=>(f.type,f.offset))=l:=by
 unfold qB at h;split at h
 ·rename_i fs ht;exact ⟨fs,ht,by simpa using h⟩
 ·cases h
theorem Fa{H:Type}{enc0:TypeId×Value→H}{P:Program}{w:World}{fuel:Nat}{t:TypeId}{l:List (TypeId×Nat)}{cs:List Value}{x:DataW H×List MemPlace}(ht:qB P t l=true)(h:DataW.trod enc0 P w 0 (fun _=>true) true fuel t cs=some x) :
  cs.length=P.cellsOf t∧∃ m:Nat,∀ (i:Nat) (u:TypeId) (o:Nat),l[i]?=some (u,o)→∃ y,DataW.trod enc0 P w 0 (fun _=>true) true m u ((cs.drop o).take (P.cellsOf u))=some y:=by
 obtain ⟨fs,J,U⟩:=Wl ht;obtain ⟨xs,m,_,_,ah,au,h5⟩:=DataW.trod_struct J h;refine ⟨ah,m,fun i u o hi =>?_⟩;rw[←U] at hi;simp only[zz9,t7,Prod.mk.injEq] at hi;obtain ⟨f,hf,rfl,rfl⟩:=hi;have hf':fs[i]?=some f:=by simpa using hf
 have h6:=h5 i f hf';have hlt:i<fs.size:=(zz1.1 hf').1;rw[zz4 (by omega)] at h6;exact ⟨_,h6⟩
section
variable {P:Program} {t:TypeId} {α β γ:Type} [Enc α] [Enc β] [Enc γ] {H:Type} {enc0:TypeId×Value→H} {w:World} {fuel:Nat} {cs:List Value} {x:DataW H×List MemPlace}
theorem X8{u0 u1 u2:TypeId}(ht:qB P t [(u0,0),(u1,Enc.sz α),(u2,Enc.sz α+Enc.sz β)]=true)(aY:iX P u0 α)(J:iX P u1 β)(U:iX P u2 γ)(hc:P.cellsOf t=Enc.sz α+Enc.sz β+Enc.sz γ)(h:DataW.trod enc0 P w 0 (fun _=>true) true fuel t cs=some x) :
  ∃ (a:α) (b:β) (c:γ),al w (kJ w) dh (.agg [enc a,enc b,enc c]) cs:=by
 obtain ⟨ao,m,hf⟩:=Fa ht h;obtain ⟨y0,k0⟩:=hf 0 u0 0 rfl;obtain ⟨y1,k1⟩:=hf 1 u1 (Enc.sz α) rfl;obtain ⟨y2,k2⟩:=hf 2 u2 (Enc.sz α+Enc.sz β) rfl;obtain ⟨a,ha⟩:=aY.nY k0;obtain ⟨b,hb⟩:=J.nY k1;obtain ⟨c,hcc⟩:=U.nY k2;rw[aY.cells,List.drop_zero] at ha;rw[J.cells] at hb;rw[U.cells,List.take_of_length_le (by rw[List.length_drop];omega)] at hcc;refine ⟨a,b,c,?_⟩;simp only[al,aM];refine ⟨_,_,(List.take_append_drop (Enc.sz α) cs).symm,ha,(cs.drop (Enc.sz α)).take (Enc.sz β),(cs.drop (Enc.sz α)).drop (Enc.sz β),(List.take_append_drop _ _).symm,hb,(cs.drop (Enc.sz α)).drop (Enc.sz β),[],by simp,?_,rfl⟩;rw[List.drop_drop];exact hcc
theorem X3{e8:Nat}{v:Value}{d:DataW H}{p:List MemPlace}(ho:iX P t α)(hA:Enc.gN α=true)(hst:(match P.underlying t with | some (.struct _) | some (.array _ _)=>true | _=>false)=true)(hv:Value.okWide P w .any e8 t v)
  (h:DataW.Trod enc0 P w 0 (fun _=>true) true t v d p):∃ (a:α) (cs:List Value),bB (enc a) v cs∧al w (kJ w) dh (enc a) cs:=by
 obtain ⟨fuel,h⟩:=h;have hagg:∃ cs,v=.agg cs:=by
  unfold Value.okWide at hv;split at hst
  ·rename_i fs ht;rw[ht] at hv;obtain ⟨cs,J,_⟩:=hv;exact ⟨cs,J⟩
  ·rename_i n e ht;rw[ht] at hv;obtain ⟨cs,J,_⟩:=hv;exact ⟨cs,J⟩
  ·cases hst
 obtain ⟨cs,rfl⟩:=hagg;have e:(Value.agg cs).cells.toList=cs.toList:=rfl;rw[e] at h;obtain ⟨a,ha⟩:=ho.nY h;exact ⟨a,cs.toList,by simp[bB,Enc.agg,hA],ha⟩
theorem CQ{e8:Nat}{v:Value}{d:DataW H}{p:List MemPlace}(ho:iX P t α)(hA:Enc.gN α=false)(hst:(match P.underlying t with | some (.slice _) | some (.int _) | some .bool=>true | _=>false)=true)(hv:Value.okWide P w .any e8 t v)
  (h:DataW.Trod enc0 P w 0 (fun _=>true) true t v d p):∃ (a:α) (cs:List Value),bB (enc a) v cs∧al w (kJ w) dh (enc a) cs:=by
 obtain ⟨fuel,h⟩:=h;have hone:v.cells.toList=[v]:=by
  unfold Value.okWide at hv;split at hst
  ·rename_i e ht;rw[ht] at hv;simp only[Cell.okWide,ht] at hv;cases v <;>simp_all[Cell.ok,Value.cells]
  ·rename_i e ht;rw[ht] at hv;simp only[Cell.okWide,ht] at hv;cases v <;>simp_all[Cell.ok,Value.cells]
  ·rename_i ht;rw[ht] at hv;simp only[Cell.okWide,ht] at hv;cases v <;>simp_all[Cell.ok,Value.cells]
  ·cases hst
 rw[hone] at h;obtain ⟨a,ha⟩:=ho.nY h;exact ⟨a,[v],by simp[bB,Enc.agg,hA],ha⟩
end
theorem Yo{H:Type}{enc0:TypeId×Value→H}{P:Program}{f:Func}{s:ChangeSpec}{apart kg handsOn again:Bool}{W W':World}{args:Array Value}{v:Value}{ds gs:List (DataW H)}{before pa pv:List MemPlace}
  (hW:DataW.Whole enc0 P f.params.toList s.vars apart W args.toList ds gs before)
  (hres:∀ (b:Nat) (sp:Nat→Bool) (af:Bool),DataW.TrodAll enc0 P W' b sp af f.resultTypes.toList (v.resultList f.resultTypes.size) (s.fn H (ds++gs)).results [])
  (hargs:∀ sp:Nat→Bool,(∀ p∈before,sp p.block=true)→DataW.TrodAll enc0 P W' 0 sp true f.params.toList args.toList (s.fn H (ds++gs)).args pa)
  (hvars:∀ sp:Nat→Bool,(∀ p∈before,sp p.block=true)→DataW.TrodVars enc0 P W' sp s.vars (s.fn H (ds++gs)).vars pv)
  (hps:before=pa++pv) (hb:Below W.heap.size W W')
  (hok:∀ (j:Nat) (t:TypeId) (r:Value),f.resultTypes[j]?=some t→(v.resultList f.resultTypes.size)[j]?=some r→Value.okWide P W' .any 0 t r) :
  s.post enc0 P f apart kg handsOn again W args v W':=by
 have hlt:∀ p∈before,p.block<W.heap.size:=fun p hp=>by simpa using hW.lt p hp
 have hold:∀ p∈before,(fun b=>decide (b<W.heap.size)) p.block=true:=fun p hp=>by simpa using hlt p hp
 refine ⟨ds,gs,before,[],pa,pv,hW,hres _ _ _,hargs _ hold,hvars _ hold,World.keptBut_mono (fun p hp=>⟨hp,?_⟩) (hb.frame (· ∈ before)),fun _ =>?_⟩
 ·rw[hps,zy7] at hp;exact Or.inr hp
 ·obtain ⟨_,_,_,_,_,hz,hn⟩:=hW;refine ⟨hok,_,_,([]++pa)++pv,⟨[]++pa,pv,trodAll_append (hargs _ (fun _ _=>rfl)) (hres _ _ _),hvars _ (fun _ _=>rfl),rfl,?_,?_⟩,?_⟩
  ·intro b off hp;have hp':MemPlace.cell b off∈before:=by rw[hps];simpa using hp
   rw[hb.frozen (p:=⟨b,off,none⟩) (hlt _ hp')];exact hz b off hp'
  ·intro ha;have:=hn ha;rw[hps] at this;simpa using this
  ·intro p hp _;rw[hps];simpa using hp
theorem Wz{P:Program}{f:FuncId}{fn:Func}{s:ChangeSpec}{H:Type}{enc0:TypeId×Value→H}{W:World}{ds gs:List (DataW H)}{before:List MemPlace}{xs:List I}{tb:TypeId}{v0 v1 v2:Value}{t0 t1 t2:TypeId}{d0 d1 d2:DataW H}{fB p1 p2:List MemPlace}{again handsOn kg:Bool}
  (ao:laidOutB P=true) (hpar:fn.params.toList=[t0,t1,t2]) (hds:ds=[d0,d1,d2]) (hgs:gs=[]) (hbef:before=fB++p1++p2)
  (hvars:s.vars=[]) (hfn:s.fn H [d0,d1,d2] = { results:=[.lit (.bool true)],args:=[d0,d1,d2] }) (hres:fn.resultTypes = #[tb]) (htb:P.underlying tb=some .bool)
  (hW:DataW.Whole enc0 P fn.params.toList s.vars false W #[v0,v1,v2].toList ds gs before)
  (aY:DataW.Trod enc0 P W 0 (fun _=>true) true t0 v0 d0 fB) (J:DataW.Trod enc0 P W 0 (fun _=>true) true t1 v1 d1 p1) (U:DataW.Trod enc0 P W 0 (fun _=>true) true t2 v2 d2 p2)
  (hr:∀ t∈[t0,t1,t2],P.readableRec t=true∧t<P.types.size)
  (hctr:bd P f xs (enc true)) (hlaid:gP P W (fun _=>False)) (hv:aI W (kJ W) dh xs [v0,v1,v2]) :
  Calls P f #[v0,v1,v2] W fun e W'=>∃ v,e=.returned v∧s.post enc0 P fn false kg handsOn again W #[v0,v1,v2] v W':=by
 subst hds hgs;refine (hctr.2 W (kJ W) [v0,v1,v2] hlaid (fun _ _ h=>h) hv).mono fun e W' ⟨v,D',he,hrv,hb,_,_⟩=>⟨v,he,?_⟩
 have hvb:v=.bool true:=ky hrv;subst hvb;have hlt:∀ x∈before,x.block<W.heap.size:=fun x hx=>by simpa using hW.lt x hx
 rw[hbef] at hlt;refine Yo (pa:=fB++(p1++p2)) (pv:=[]) hW (fun _ _ _ =>?_) (fun sp hsp =>?_) (fun _ _ =>?_) (by rw[hbef];simp) hb ?_
 ·simp only[zx0,hfn,hres];exact trodAll_mk1 (shut_bool htb true)
 ·simp only[zx0,hfn,hpar];rw[hbef] at hsp;have aU:∀ {t:TypeId} {v:Value} {d:DataW H} {p:List MemPlace},t∈[t0,t1,t2]→DataW.Trod enc0 P W 0 (fun _=>true) true t v d p→(∀ x∈p,x∈fB++p1++p2)→DataW.Trod enc0 P W' 0 sp true t v d p:=fun ht h hp =>
   WideElems.Trod_stays ao (hr _ ht).1 (hr _ ht).2 h (fun x hx=>hb.same (hlt x (hp x hx))) (fun x hx=>hsp x (hp x hx))
  exact trodAll_mk3 (aU (by simp) aY fun x hx=>by simp[hx]) (aU (by simp) J fun x hx=>by simp[hx]) (aU (by simp) U fun x hx=>by simp[hx])
 ·simp only[zx0,hfn,hvars];rfl
 ·intro j t r hj hv';rw[hres] at hj hv'
  match j,hj,hv' with
  |0,hj,hv' =>
   simp[Value.resultList] at hj hv';subst hj;subst hv';simp[Value.okWide,htb,Cell.okWide,Cell.ok]
def yd(P:Program)(u:TypeId)(n:Nat)(S:I→Prop):Prop:=P.cellsOf u=n ∧
 ∀ {H:Type} {enc0:TypeId×Value→H} {w:World} {fuel:Nat} {cs:List Value} {x:DataW H×List MemPlace},DataW.trod enc0 P w 0 (fun _=>true) true fuel u cs=some x→∃ v,S v∧al w (kJ w) dh v cs
theorem iX.aW{P:Program}{u:TypeId}{α:Type}[Enc α](h:iX P u α):yd P u (Enc.sz α) fun v=>∃ a:α,v=enc a :=
 ⟨h.cells,fun hx=>by obtain ⟨a,ha⟩:=h.nY hx;exact ⟨enc a,⟨a,rfl⟩,ha⟩⟩
def qU(P:Program):Nat→List (TypeId×Nat)→List (Nat×(I→Prop))→Prop
 |_,[],[]=>True
 |o,(u,off)::l,(n,S)::Ss=>off=o∧yd P u n S∧qU P (o+n) l Ss
 |_,_,_=>False
def oK:List (Nat×(I→Prop))→List I→Prop
 | [],[]=>True
 |(_,S)::Ss,v::vs=>S v∧oK Ss vs
 |_,_=>False
theorem sd{n:Nat}{S:I→Prop}{Ss:List (Nat×(I→Prop))} : ∀ {vs:List I},oK ((n,S)::Ss) vs→∃ v vs',vs=v::vs'∧S v∧oK Ss vs'
 | [],h=>h.elim
 |v::vs,h=>⟨v,vs,rfl,h.1,h.2⟩
theorem GV:∀ {vs:List I},oK [] vs→vs=[]
 | [],_=>rfl
 |_::_,h=>h.elim
def rJ:List (Nat×(I→Prop))→Nat
 | []=>0
 |(n,_)::Ss=>n+rJ Ss
theorem AT{P:Program}{H:Type}{enc0:TypeId×Value→H}{w:World}{m:Nat}{cs:List Value} : ∀ (l:List (TypeId×Nat)) (Ss:List (Nat×(I→Prop))) (o:Nat),qU P o l Ss→cs.length=o+rJ Ss →
  (∀ (i:Nat) (u:TypeId) (off:Nat),l[i]?=some (u,off)→∃ y,DataW.trod enc0 P w 0 (fun _=>true) true m u ((cs.drop off).take (P.cellsOf u))=some y)→∃ vs,oK Ss vs∧aM w (kJ w) dh vs (cs.drop o)
 | [],[],o,_,ao,_=>⟨[],trivial,by simp only[aM];exact List.drop_eq_nil_of_le (by simp only[rJ] at ao;omega)⟩
 |(u,off)::l,(n,S)::Ss,o,h,ao,hf=>by
  obtain ⟨rfl,U,ah⟩:=h;obtain ⟨y,hy⟩:=hf 0 u off rfl;obtain ⟨v,hv1,hv2⟩:=U.2 hy;obtain ⟨vs,k1,k2⟩:=AT l Ss (off+n) ah (by simp only[rJ] at ao;omega) fun i u' o' hi=>hf (i+1) u' o' hi;refine ⟨v::vs,⟨hv1,k1⟩,?_⟩;simp only[aM];rw[U.1] at hv2;exact ⟨_,(cs.drop off).drop n,(List.take_append_drop n _).symm,hv2,by rw[List.drop_drop];exact k2⟩
 | [],_::_,_,h,_,_=>h.elim
 |_::_,[],_,h,_,_=>by simp[qU] at h
theorem X7{P:Program}{t:TypeId}{H:Type}{enc0:TypeId×Value→H}{w:World}{fuel:Nat}{cs:List Value}{x:DataW H×List MemPlace}(l:List (TypeId×Nat))(Ss:List (Nat×(I→Prop)))(ht:qB P t l=true)(hok:qU P 0 l Ss)(hc:P.cellsOf t=rJ Ss)(h:DataW.trod enc0 P w 0 (fun _=>true) true fuel t cs=some x) :
  ∃ vs,oK Ss vs∧al w (kJ w) dh (.agg vs) cs:=by
 obtain ⟨ao,m,hf⟩:=Fa ht h;obtain ⟨vs,k1,k2⟩:=AT l Ss 0 hok (by rw[ao,hc];omega) hf;exact ⟨vs,k1,by simpa only[al,List.drop_zero] using k2⟩
end Go.Abs
namespace Go.Proofs.YthbdbocionnfgaaGreatDoor
open Go Go.Abs
open Go.Abs.Enc (enc)
structure bg where
 kind:Int
 aK:Int
 other:Int
 no:Int
 deriving DecidableEq,Inhabited
instance:Enc bg where
 enc g:=.agg [.int .i64 g.kind,.int .i64 g.aK,.int .i64 g.other,.int .i64 g.no]
 sz:=4
 aX:=.eJ [.one,.one,.one,.one]
 gN:=true
 done g:=by simp only[I.done,I.h2,Bool.and_self]
 size g:=by simp only[I.size,I.sizes]
 iQ g:=by simp only[I.aX,I.cV]
 agg _:=rfl
structure c8 where
 kind:Int
 cQ:Int
 to:Int
 aK:Int
 no:Int
 deriving DecidableEq,Inhabited
instance:Enc c8 where
 enc g:=.agg [.int .i64 g.kind,.int .i64 g.cQ,.int .i64 g.to,.int .i64 g.aK,.int .i64 g.no]
 sz:=5
 aX:=.eJ [.one,.one,.one,.one,.one]
 gN:=true
 done g:=by simp only[I.done,I.h2,Bool.and_self]
 size g:=by simp only[I.size,I.sizes]
 iQ g:=by simp only[I.aX,I.cV]
 agg _:=rfl
structure dc where
 no:Int
 to:Int
 aK:Int
 dw:Bool
 deriving DecidableEq,Inhabited
instance:Enc dc where
 enc g:=.agg [.int .i64 g.no,.int .i64 g.to,.int .i64 g.aK,.bool g.dw]
 sz:=4
 aX:=.eJ [.one,.one,.one,.one]
 gN:=true
 done g:=by simp only[I.done,I.h2,Bool.and_self]
 size g:=by simp only[I.size,I.sizes]
 iQ g:=by simp only[I.aX,I.cV]
 agg _:=rfl
theorem jy{fs:List I}{f off:Nat}{v:I}(J:f<fs.length)(h:I.sizes (fs.take f)=off):dD fs f off v=some v:=by simp[dD,h,J]
theorem Fp :
  (∀ g:bg,(enc g).dR=some [.int .i64 g.kind,.int .i64 g.aK,.int .i64 g.other,.int .i64 g.no])∧(∀ g:c8,(enc g).dR=some [.int .i64 g.kind,.int .i64 g.cQ,.int .i64 g.to,.int .i64 g.aK,.int .i64 g.no]) ∧
  (∀ g:dc,(enc g).dR=some [.int .i64 g.no,.int .i64 g.to,.int .i64 g.aK,.bool g.dw]) ∧
  (∀ (a b c d:I) v,(a.size=1∧b.size=1∧c.size=1)→dD [a,b,c,d] 0 0 v=some v) ∧
  (∀ (g:bg),bY (some 4) (enc g)=true)∧(∀ (g:c8),bY (some 5) (enc g)=true)∧(∀ (g:dc),bY (some 4) (enc g)=true) ∧
  (∀ (fs:List I) x,(x::fs)[0]?=some x)∧(∀ (fs:List I) x n,(x::fs)[n+1]?=fs[n]?)∧(∀ (fs:List I) x,(x::fs)[1]?=fs[0]?)∧(∀ (fs:List I) x,(x::fs)[2]?=fs[1]?)∧(∀ (fs:List I) x,(x::fs)[3]?=fs[2]?)∧(∀ (fs:List I) x,(x::fs)[4]?=fs[3]?) :=
 ⟨fun _=>rfl,fun _=>rfl,fun _=>rfl,fun a b c d v h=>jy (by simp) (by simp[I.sizes]),fun _=>by rw[fh];rfl,fun _=>by rw[fh];rfl,fun _=>by rw[fh];rfl,fun _ _=>rfl,fun _ _ _=>rfl,fun _ _=>rfl,fun _ _=>rfl,fun _ _=>rfl,fun _ _=>rfl⟩
theorem CE:(∀ (a b c d:Int) v,dD [.int .i64 a,.int .i64 b,.int .i64 c,.int .i64 d] 0 0 v=some v)∧(∀ (a b c d:Int) v,dD [.int .i64 a,.int .i64 b,.int .i64 c,.int .i64 d] 1 1 v=some v)∧(∀ (a b c d:Int) v,dD [.int .i64 a,.int .i64 b,.int .i64 c,.int .i64 d] 2 2 v=some v)∧(∀ (a b c d:Int) v,dD [.int .i64 a,.int .i64 b,.int .i64 c,.int .i64 d] 3 3 v=some v) ∧
  (∀ (a b c d e:Int) v,dD [.int .i64 a,.int .i64 b,.int .i64 c,.int .i64 d,.int .i64 e] 0 0 v=some v)∧(∀ (a b c d e:Int) v,dD [.int .i64 a,.int .i64 b,.int .i64 c,.int .i64 d,.int .i64 e] 1 1 v=some v)∧(∀ (a b c d e:Int) v,dD [.int .i64 a,.int .i64 b,.int .i64 c,.int .i64 d,.int .i64 e] 2 2 v=some v)∧(∀ (a b c d e:Int) v,dD [.int .i64 a,.int .i64 b,.int .i64 c,.int .i64 d,.int .i64 e] 3 3 v=some v)∧(∀ (a b c d e:Int) v,dD [.int .i64 a,.int .i64 b,.int .i64 c,.int .i64 d,.int .i64 e] 4 4 v=some v) ∧
  (∀ (a b c:Int) (d:Bool) v,dD [.int .i64 a,.int .i64 b,.int .i64 c,.bool d] 0 0 v=some v)∧(∀ (a b c:Int) (d:Bool) v,dD [.int .i64 a,.int .i64 b,.int .i64 c,.bool d] 1 1 v=some v)∧(∀ (a b c:Int) (d:Bool) v,dD [.int .i64 a,.int .i64 b,.int .i64 c,.bool d] 2 2 v=some v)∧(∀ (a b c:Int) (d:Bool) v,dD [.int .i64 a,.int .i64 b,.int .i64 c,.bool d] 3 3 v=some v) :=
 ⟨fun _ _ _ _ _=>rfl,fun _ _ _ _ _=>rfl,fun _ _ _ _ _=>rfl,fun _ _ _ _ _=>rfl,fun _ _ _ _ _ _=>rfl,fun _ _ _ _ _ _=>rfl,fun _ _ _ _ _ _=>rfl,fun _ _ _ _ _ _=>rfl,fun _ _ _ _ _ _=>rfl,fun _ _ _ _ _=>rfl,fun _ _ _ _ _=>rfl,fun _ _ _ _ _=>rfl,fun _ _ _ _ _=>rfl⟩
theorem aC:(type_of% @Fp)∧(type_of% @CE)∧(∀ {α:Type} [Enc α] (aN:Bool) (A:ai) (x:α),bh aN A (enc x)=some (enc x))∧(∀ {α:Type} [Enc α] (x:α),(enc x).bR=true)∧(type_of% @mQ)∧(type_of% @Co)∧(type_of% @Aq)∧(type_of% @kB)∧(type_of% @bF) :=
 ⟨Fp,CE,@lJ,@eh,mQ,Co,Aq,kB,bF⟩
def c4(lo hi n:Int):Bool:=decide (lo≤n)&&decide (n≤hi)
theorem oH(n lo hi:Int):bd Tryz.prog 105 [enc n,enc lo,enc hi] (enc (c4 lo hi n)):=by
 refine bd.b6 Tryz.func105 HZ I6 Ke (u8 rfl) (fun hwf W0 bG E1 =>?_);simp only[yG,Da,bH,Z1,Nat.reduceAdd];have R:=y6 @kB @bF
 repeat' ((first |(with_reducible refine .guard (fun hb =>?_) (fun hb =>?_) <;>try simp only[hb])|refine ae.aF (by decide +kernel) rfl fun K hK =>?_|(refine .ay [0,1,2,6] hK ?_;clear hK K)|(with_reducible refine .done (hK _ ?_);clear hK K)|refine ae.of rfl ?_|(with_reducible refine aB.aE (fun h =>?_) (fun h =>?_) <;>try simp only[h])) <;>try simp only[aG,R,simprocAttr])
 all_goals clear R
 all_goals (simp at *;simp_all[c4])
 all_goals omega
theorem mw(n:Int):bd Tryz.prog 61 [enc n] (enc (c4 0 5 n)):=by
 refine bd.b6 Tryz.func61 IA JE KW (u8 rfl) (fun hwf W0 bG E1 =>?_);simp only[zj,DU,bH];have R:=y6 @kB @bF
 repeat' ((first |refine ae.aF (by decide +kernel) rfl fun K hK =>?_|refine .flat _ (oH n 0 5) rfl ?_|(refine .ay [0,2] hK ?_;clear hK K)|(with_reducible refine .done (hK _ ?_);clear hK K)|refine ae.of rfl ?_|(with_reducible refine aB.aE (fun h =>?_) (fun h =>?_) <;>try simp only[h])) <;>try simp only[aG,R,simprocAttr])
 all_goals clear R
theorem pV(n:Int):bd Tryz.prog 71 [enc n] (enc (c4 1 9999 n)):=by
 refine bd.b6 Tryz.func71 II JM K4 (u8 rfl) (fun hwf W0 bG E1 =>?_);simp only[zr,D6,bH];have R:=y6 @kB @bF
 repeat' ((first |refine ae.aF (by decide +kernel) rfl fun K hK =>?_|refine .flat _ (oH n 1 9999) rfl ?_|(refine .ay [0,2] hK ?_;clear hK K)|(with_reducible refine .done (hK _ ?_);clear hK K)|refine ae.of rfl ?_|(with_reducible refine aB.aE (fun h =>?_) (fun h =>?_) <;>try simp only[h])) <;>try simp only[aG,R,simprocAttr])
 all_goals clear R
theorem x8(n:Int):bd Tryz.prog 90 [enc n] (enc (c4 1 200 n)):=by
 refine bd.b6 Tryz.func90 IX JY Lh (u8 rfl) (fun hwf W0 bG E1 =>?_);simp only[zG,Ej,bH];have R:=y6 @kB @bF
 repeat' ((first |refine ae.aF (by decide +kernel) rfl fun K hK =>?_|refine .flat _ (oH n 1 200) rfl ?_|(refine .ay [0,2] hK ?_;clear hK K)|(with_reducible refine .done (hK _ ?_);clear hK K)|refine ae.of rfl ?_|(with_reducible refine aB.aE (fun h =>?_) (fun h =>?_) <;>try simp only[h])) <;>try simp only[aG,R,simprocAttr])
 all_goals clear R
theorem r3(n lo hi:Int):bd Tryz.prog 68 [enc n,enc lo,enc hi] (enc (c4 lo hi n)):=by
 refine bd.b6 Tryz.func68 IG JK K2 (u8 rfl) (fun hwf W0 bG E1 =>?_);simp only[zp,D0,bH,Z1,Nat.reduceAdd];have R:=y6 @kB @bF
 repeat' ((first |(with_reducible refine .guard (fun hb =>?_) (fun hb =>?_) <;>try simp only[hb])|refine ae.aF (by decide +kernel) rfl fun K hK =>?_|(refine .ay [0,1,2,6] hK ?_;clear hK K)|(with_reducible refine .done (hK _ ?_);clear hK K)|refine ae.of rfl ?_|(with_reducible refine aB.aE (fun h =>?_) (fun h =>?_) <;>try simp only[h])) <;>try simp only[aG,R,simprocAttr])
 all_goals clear R
 all_goals (simp at *;simp_all[c4])
 all_goals omega
theorem uo(n:Int):bd Tryz.prog 64 [enc n] (enc (c4 0 5 n)):=by
 refine bd.b6 Tryz.func64 IC JG KY (u8 rfl) (fun hwf W0 bG E1 =>?_);simp only[zl,DW,bH];have R:=y6 @kB @bF
 repeat' ((first |refine ae.aF (by decide +kernel) rfl fun K hK =>?_|refine .flat _ (r3 n 0 5) rfl ?_|(refine .ay [0,2] hK ?_;clear hK K)|(with_reducible refine .done (hK _ ?_);clear hK K)|refine ae.of rfl ?_|(with_reducible refine aB.aE (fun h =>?_) (fun h =>?_) <;>try simp only[h])) <;>try simp only[aG,R,simprocAttr])
 all_goals clear R
theorem x3(n:Int):bd Tryz.prog 67 [enc n] (enc (c4 1 9999 n)):=by
 refine bd.b6 Tryz.func67 IF JJ K1 (u8 rfl) (fun hwf W0 bG E1 =>?_);simp only[zo,DZ,bH];have R:=y6 @kB @bF
 repeat' ((first |refine ae.aF (by decide +kernel) rfl fun K hK =>?_|refine .flat _ (r3 n 1 9999) rfl ?_|(refine .ay [0,2] hK ?_;clear hK K)|(with_reducible refine .done (hK _ ?_);clear hK K)|refine ae.of rfl ?_|(with_reducible refine aB.aE (fun h =>?_) (fun h =>?_) <;>try simp only[h])) <;>try simp only[aG,R,simprocAttr])
 all_goals clear R
def gA(x:bg):Bool :=
 if x.kind=1∨x.kind=2 then c4 1 9999 x.aK&&(x.other==0&&x.no==0)
 else if 3≤x.kind∧x.kind≤8 then c4 1 9999 x.aK&&(c4 0 5 x.other&&c4 1 200 x.no)
 else false
theorem Gh(x:bg):bd Tryz.prog 66 [enc x] (enc (gA x)):=by
 refine bd.b6 Tryz.func66 IE JI K0 (u8 rfl) (fun hwf W0 bG E1 =>?_);simp only[zn,DY,bH];have R:=aC
 repeat' ((first |(with_reducible refine .guard (fun hb =>?_) (fun hb =>?_) <;>try simp only[hb])|refine ae.aF (by decide +kernel) rfl fun K hK =>?_|refine .flat _ (pV x.aK) rfl ?_|refine .flat _ (mw x.other) rfl ?_|refine .flat _ (x8 x.no) rfl ?_|(refine .ay [0,1,2,4,5,21] hK ?_;clear hK K)|(with_reducible refine .done (hK _ ?_);clear hK K)|refine ae.of rfl ?_|(with_reducible refine aB.aE (fun h =>?_) (fun h =>?_) <;>try simp only[h])) <;>try simp only[aG,R,simprocAttr])
 all_goals clear R
 all_goals (simp_all[gA])
 all_goals (intros;exfalso;omega)
theorem F1(x:bg):bd Tryz.prog 22 [enc x] (enc (if gA x then (0:Int) else 1)):=by
 refine bd.b6 Tryz.func22 Ij Jp KH (u8 rfl) (fun hwf W0 bG E1 =>?_);simp only[yZ,DG,bH];have R:=aC
 repeat' ((first |(with_reducible refine .guard (fun hb =>?_) (fun hb =>?_) <;>try simp only[hb])|refine ae.aF (by decide +kernel) rfl fun K hK =>?_|refine .flat _ (x3 x.aK) rfl ?_|refine .flat _ (uo x.other) rfl ?_|refine .flat _ (r3 x.no 1 200) rfl ?_|(refine .ay [0,1,2,4,5,20,21,40] hK ?_;clear hK K)|(with_reducible refine .done (hK _ ?_);clear hK K)|refine ae.of rfl ?_|(with_reducible refine aB.aE (fun h =>?_) (fun h =>?_) <;>try simp only[h])) <;>try simp only[aG,R,simprocAttr])
 all_goals clear R
 all_goals (simp_all[gA])
 all_goals (intros;exfalso;omega)
def tq(r:c8):Bool:=c4 1 4 r.kind&&(c4 0 5 r.cQ&&(c4 0 5 r.to&&((r.cQ != r.to)&&(c4 1 9999 r.aK&&c4 1 200 r.no))))
theorem Gi(r:c8):bd Tryz.prog 70 [enc r] (enc (tq r)):=by
 refine bd.b6 Tryz.func70 IH JL K3 (u8 rfl) (fun hwf W0 bG E1 =>?_);simp only[zq,D5,bH];have R:=aC
 repeat' ((first |(with_reducible refine .guard (fun hb =>?_) (fun hb =>?_) <;>try simp only[hb])|refine ae.aF (by decide +kernel) rfl fun K hK =>?_|refine .flat _ (oH r.kind 1 4) rfl ?_|refine .flat _ (mw r.cQ) rfl ?_|refine .flat _ (mw r.to) rfl ?_|refine .flat _ (pV r.aK) rfl ?_|refine .flat _ (x8 r.no) rfl ?_|(refine .ay [0,1,2] hK ?_;clear hK K)|(with_reducible refine .done (hK _ ?_);clear hK K)|refine ae.of rfl ?_|(with_reducible refine aB.aE (fun h =>?_) (fun h =>?_) <;>try simp only[h])) <;>try simp only[aG,R,simprocAttr])
 all_goals clear R
 all_goals (simp_all[tq])
theorem gx{i n:Nat}(h:i<n):decide ((i:Int)<(n:Int))=true:=by simp;omega
theorem gL{i n:Nat}(h:¬ i<n):decide ((i:Int)<(n:Int))=false:=by simp;omega
theorem gq{i:Nat}(h:i<9223372036854775807):IntKind.i64.wrap ((i:Int)+1)=((i+1:Nat):Int):=by rw[hZ _ (by omega) (by omega)];rfl
theorem GC(x y:bg):x=y↔x.kind=y.kind∧x.aK=y.aK∧x.other=y.other∧x.no=y.no:=by cases x;cases y;simp
theorem GG(x y:c8):x=y↔x.kind=y.kind∧x.cQ=y.cQ∧x.to=y.to∧x.aK=y.aK∧x.no=y.no:=by cases x;cases y;simp
theorem GI(x y:dc):x=y↔x.no=y.no∧x.to=y.to∧x.aK=y.aK∧x.dw=y.dw:=by cases x;cases y;simp
theorem Ms(x y:bg):b5 (.aU [.i .i64,.i .i64,.i .i64,.i .i64]) (enc x) (enc y)=some (decide (x=y)):=by
 show b5 (.aU [.i .i64,.i .i64,.i .i64,.i .i64]) (.agg [.int .i64 x.kind,.int .i64 x.aK,.int .i64 x.other,.int .i64 x.no]) (.agg [.int .i64 y.kind,.int .i64 y.aK,.int .i64 y.other,.int .i64 y.no])=_
 simp[b5,hE,iZ,GC];rfl
theorem AH(x y:c8):b5 (.aU [.i .i64,.i .i64,.i .i64,.i .i64,.i .i64]) (enc x) (enc y)=some (decide (x=y)):=by
 show b5 (.aU [.i .i64,.i .i64,.i .i64,.i .i64,.i .i64]) (.agg [.int .i64 x.kind,.int .i64 x.cQ,.int .i64 x.to,.int .i64 x.aK,.int .i64 x.no]) (.agg [.int .i64 y.kind,.int .i64 y.cQ,.int .i64 y.to,.int .i64 y.aK,.int .i64 y.no])=_
 simp[b5,hE,iZ,GG];rfl
theorem Mt(x y:dc):b5 (.aU [.i .i64,.i .i64,.i .i64,.b]) (enc x) (enc y)=some (decide (x=y)):=by
 show b5 (.aU [.i .i64,.i .i64,.i .i64,.b]) (.agg [.int .i64 x.no,.int .i64 x.to,.int .i64 x.aK,.bool x.dw]) (.agg [.int .i64 y.no,.int .i64 y.to,.int .i64 y.aK,.bool y.dw])=_
 simp[b5,hE,iZ,GI];rfl
theorem W6(x y:Int):(x != y) = !decide (x=y):=by by_cases h:x=y <;>simp[h]
theorem F6(a b:List Int):bd Tryz.prog 41 [enc a,enc b] (enc (decide (a=b))):=by
 refine bd.b6 Tryz.func41 It Jy KQ (u8 rfl) (fun hwf W0 bG E1 =>?_);simp only[zd,DO,bH,Z1];have hlen:a.length≤maxLen:=((nt a).1 hwf.1).1;simp only[maxLen] at hlen;clear hwf;by_cases ao:a.length=b.length
 case neg =>
  have hn:((a.length:Int) != (b.length:Int))=true:=by simp;omega
  have R:=y6 @hn aC
  repeat' ((first |refine ae.aF (by decide +kernel) rfl fun K hK =>?_|(refine .ay [0,1,4,5,10,12,13,14,24] hK ?_;clear hK K)|(with_reducible refine .done (hK _ ?_);clear hK K)|refine ae.of rfl ?_|(with_reducible refine aB.aE (fun h =>?_) (fun h =>?_) <;>try simp only[h])) <;>try simp only[aG,R,simprocAttr])
  all_goals clear R
  have:¬ a=b:=fun e=>ao (by rw[e]);simp[this]
 have hn:((a.length:Int) != (b.length:Int))=false:=by simp;omega
 have R:=y6 @hn aC
 repeat' ((first |refine ae.aF (by decide +kernel) rfl fun K hK =>?_|(refine .ay [0,1,4,5,10,12,13,14,24] hK ?_;clear hK K)|(with_reducible refine .done (hK _ ?_);clear hK K)|refine ae.of rfl ?_|(with_reducible refine aB.aE (fun h =>?_) (fun h =>?_) <;>try simp only[h])) <;>try simp only[aG,R,simprocAttr])
 all_goals clear R
 refine ae.loop (fun i:Nat=>av [(0,enc a),(1,enc b),(12,.int .i64 a.length),(13,.int .i64 i)] []) (fun i=>i≤a.length∧∀ k,k<i→a[k]?=b[k]?) (fun i=>a.length-i) 0 ⟨zy9 _,fun k h=>by omega⟩ ?_ (fun i hi =>?_)
 ·refine bx.df ?_ ?_ ?_ ?_ <;>simp[cw,cY,cH,cJ,cq,I.only,cA]
 obtain ⟨hi1,hi2⟩:=hi;by_cases hlt:i<a.length
 ·have hc:=gx hlt;have he:=fun A=>fb (A:=A) 1 hlt rfl;have hlt2:i<b.length:=by omega
  have he2:=fun A=>fb (A:=A) 1 hlt2 rfl;have hw:=gq (i:=i) (by omega);have hq:=W6 a[i] b[i];rcases hp:decide (a[i]=b[i])
  ·rw[hp] at hq;have R:=y6 @hc (y6 @he (y6 @he2 (y6 @hq aC)))
   repeat' ((first |refine ae.aF (by decide +kernel) rfl fun K hK =>?_|(refine .ay [0,1,4,5,10,12,13,14,24] hK ?_;clear hK K)|(with_reducible refine .done (hK _ ?_);clear hK K)|refine ae.of rfl ?_|(with_reducible refine aB.aE (fun h =>?_) (fun h =>?_) <;>try simp only[h])) <;>try simp only[aG,R,simprocAttr])
   all_goals clear R
   have:¬ a=b:=fun e=>by subst e;simp at hp
   simp[this]
  ·rw[hp] at hq;have R:=y6 @hc (y6 @he (y6 @he2 (y6 @hq (y6 @hw aC))))
   repeat' ((first |refine ae.aF (by decide +kernel) rfl fun K hK =>?_|(refine .ay [0,1,4,5,10,12,13,14,24] hK ?_;clear hK K)|(with_reducible refine .done (hK _ ?_);clear hK K)|refine ae.of rfl ?_|(with_reducible refine aB.aE (fun h =>?_) (fun h =>?_) <;>try simp only[h])) <;>try simp only[aG,R,simprocAttr])
   all_goals clear R
   refine ⟨i+1,⟨by omega,fun k hk =>?_⟩,by omega,?_⟩
   ·by_cases e:k=i
    ·subst e;have:a[k]=b[k]:=by simpa using hp
     simp[hlt,hlt2,this]
    ·exact hi2 k (by omega)
   ·refine bx.df ?_ ?_ ?_ ?_ <;>simp[cw,cY,cH,cJ,cq,I.only,cA]
 ·have hc:=gL hlt;have R:=y6 @hc aC
  repeat' ((first |refine ae.aF (by decide +kernel) rfl fun K hK =>?_|(refine .ay [0,1,4,5,10,12,13,14,24] hK ?_;clear hK K)|(with_reducible refine .done (hK _ ?_);clear hK K)|refine ae.of rfl ?_|(with_reducible refine aB.aE (fun h =>?_) (fun h =>?_) <;>try simp only[h])) <;>try simp only[aG,R,simprocAttr])
  all_goals clear R
  have:a=b:=List.ext_getElem? fun k=>by
   by_cases hk:k<i
   ·exact hi2 k hk
   ·rw[zx9 (by omega),zx9 (by omega)]
  simp[this]
theorem F8(a b:List bg):bd Tryz.prog 52 [enc a,enc b] (enc (decide (a=b))):=by
 refine bd.b6 Tryz.func52 Iv JA KS (u8 rfl) (fun hwf W0 bG E1 =>?_);simp only[zf,DQ,bH,Z1];have hlen:a.length≤maxLen:=((nt a).1 hwf.1).1;simp only[maxLen] at hlen;clear hwf;by_cases ao:a.length=b.length
 case neg =>
  have hn:((a.length:Int) != (b.length:Int))=true:=by simp;omega
  have R:=y6 @hn aC
  repeat' ((first |refine ae.aF (by decide +kernel) rfl fun K hK =>?_|(refine .ay [0,1,4,5,10,12,13,14,24] hK ?_;clear hK K)|(with_reducible refine .done (hK _ ?_);clear hK K)|refine ae.of rfl ?_|(with_reducible refine aB.aE (fun h =>?_) (fun h =>?_) <;>try simp only[h])) <;>try simp only[aG,R,simprocAttr])
  all_goals clear R
  have:¬ a=b:=fun e=>ao (by rw[e]);simp[this]
 have hn:((a.length:Int) != (b.length:Int))=false:=by simp;omega
 have R:=y6 @hn aC
 repeat' ((first |refine ae.aF (by decide +kernel) rfl fun K hK =>?_|(refine .ay [0,1,4,5,10,12,13,14,24] hK ?_;clear hK K)|(with_reducible refine .done (hK _ ?_);clear hK K)|refine ae.of rfl ?_|(with_reducible refine aB.aE (fun h =>?_) (fun h =>?_) <;>try simp only[h])) <;>try simp only[aG,R,simprocAttr])
 all_goals clear R
 refine ae.loop (fun i:Nat=>av [(0,enc a),(1,enc b),(12,.int .i64 a.length),(13,.int .i64 i)] []) (fun i=>i≤a.length∧∀ k,k<i→a[k]?=b[k]?) (fun i=>a.length-i) 0 ⟨zy9 _,fun k h=>by omega⟩ ?_ (fun i hi =>?_)
 ·refine bx.df ?_ ?_ ?_ ?_ <;>simp[cw,cY,cH,cJ,cq,I.only,cA]
 obtain ⟨hi1,hi2⟩:=hi;by_cases hlt:i<a.length
 ·have hc:=gx hlt;have he:=fun A=>fb (A:=A) 4 hlt rfl;have hlt2:i<b.length:=by omega
  have he2:=fun A=>fb (A:=A) 4 hlt2 rfl;have hw:=gq (i:=i) (by omega);have hq:=Ms a[i] b[i];rcases hp:decide (a[i]=b[i])
  ·rw[hp] at hq;have R:=y6 @hc (y6 @he (y6 @he2 (y6 @hq aC)))
   repeat' ((first |refine ae.aF (by decide +kernel) rfl fun K hK =>?_|(refine .ay [0,1,4,5,10,12,13,14,24] hK ?_;clear hK K)|(with_reducible refine .done (hK _ ?_);clear hK K)|refine ae.of rfl ?_|(with_reducible refine aB.aE (fun h =>?_) (fun h =>?_) <;>try simp only[h])) <;>try simp only[aG,R,simprocAttr])
   all_goals clear R
   have:¬ a=b:=fun e=>by subst e;simp at hp
   simp[this]
  ·rw[hp] at hq;have R:=y6 @hc (y6 @he (y6 @he2 (y6 @hq (y6 @hw aC))))
   repeat' ((first |refine ae.aF (by decide +kernel) rfl fun K hK =>?_|(refine .ay [0,1,4,5,10,12,13,14,24] hK ?_;clear hK K)|(with_reducible refine .done (hK _ ?_);clear hK K)|refine ae.of rfl ?_|(with_reducible refine aB.aE (fun h =>?_) (fun h =>?_) <;>try simp only[h])) <;>try simp only[aG,R,simprocAttr])
   all_goals clear R
   refine ⟨i+1,⟨by omega,fun k hk =>?_⟩,by omega,?_⟩
   ·by_cases e:k=i
    ·subst e;have:a[k]=b[k]:=by simpa using hp
     simp[hlt,hlt2,this]
    ·exact hi2 k (by omega)
   ·refine bx.df ?_ ?_ ?_ ?_ <;>simp[cw,cY,cH,cJ,cq,I.only,cA]
 ·have hc:=gL hlt;have R:=y6 @hc aC
  repeat' ((first |refine ae.aF (by decide +kernel) rfl fun K hK =>?_|(refine .ay [0,1,4,5,10,12,13,14,24] hK ?_;clear hK K)|(with_reducible refine .done (hK _ ?_);clear hK K)|refine ae.of rfl ?_|(with_reducible refine aB.aE (fun h =>?_) (fun h =>?_) <;>try simp only[h])) <;>try simp only[aG,R,simprocAttr])
  all_goals clear R
  have:a=b:=List.ext_getElem? fun k=>by
   by_cases hk:k<i
   ·exact hi2 k hk
   ·rw[zx9 (by omega),zx9 (by omega)]
  simp[this]
theorem um(a b:List c8):bd Tryz.prog 17 [enc a,enc b] (enc (decide (a=b))):=by
 refine bd.b6 Tryz.func17 Ig Jm KE (u8 rfl) (fun hwf W0 bG E1 =>?_);simp only[yW,DC,bH,Z1];have hlen:a.length≤maxLen:=((nt a).1 hwf.1).1;simp only[maxLen] at hlen;clear hwf;by_cases ao:a.length=b.length
 case neg =>
  have hn:((a.length:Int) != (b.length:Int))=true:=by simp;omega
  have R:=y6 @hn aC
  repeat' ((first |refine ae.aF (by decide +kernel) rfl fun K hK =>?_|(refine .ay [0,1,4,5,10,12,13,14,24] hK ?_;clear hK K)|(with_reducible refine .done (hK _ ?_);clear hK K)|refine ae.of rfl ?_|(with_reducible refine aB.aE (fun h =>?_) (fun h =>?_) <;>try simp only[h])) <;>try simp only[aG,R,simprocAttr])
  all_goals clear R
  have:¬ a=b:=fun e=>ao (by rw[e]);simp[this]
 have hn:((a.length:Int) != (b.length:Int))=false:=by simp;omega
 have R:=y6 @hn aC
 repeat' ((first |refine ae.aF (by decide +kernel) rfl fun K hK =>?_|(refine .ay [0,1,4,5,10,12,13,14,24] hK ?_;clear hK K)|(with_reducible refine .done (hK _ ?_);clear hK K)|refine ae.of rfl ?_|(with_reducible refine aB.aE (fun h =>?_) (fun h =>?_) <;>try simp only[h])) <;>try simp only[aG,R,simprocAttr])
 all_goals clear R
 refine ae.loop (fun i:Nat=>av [(0,enc a),(1,enc b),(12,.int .i64 a.length),(13,.int .i64 i)] []) (fun i=>i≤a.length∧∀ k,k<i→a[k]?=b[k]?) (fun i=>a.length-i) 0 ⟨zy9 _,fun k h=>by omega⟩ ?_ (fun i hi =>?_)
 ·refine bx.df ?_ ?_ ?_ ?_ <;>simp[cw,cY,cH,cJ,cq,I.only,cA]
 obtain ⟨hi1,hi2⟩:=hi;by_cases hlt:i<a.length
 ·have hc:=gx hlt;have he:=fun A=>fb (A:=A) 5 hlt rfl;have hlt2:i<b.length:=by omega
  have he2:=fun A=>fb (A:=A) 5 hlt2 rfl;have hw:=gq (i:=i) (by omega);have hq:=AH a[i] b[i];rcases hp:decide (a[i]=b[i])
  ·rw[hp] at hq;have R:=y6 @hc (y6 @he (y6 @he2 (y6 @hq aC)))
   repeat' ((first |refine ae.aF (by decide +kernel) rfl fun K hK =>?_|(refine .ay [0,1,4,5,10,12,13,14,24] hK ?_;clear hK K)|(with_reducible refine .done (hK _ ?_);clear hK K)|refine ae.of rfl ?_|(with_reducible refine aB.aE (fun h =>?_) (fun h =>?_) <;>try simp only[h])) <;>try simp only[aG,R,simprocAttr])
   all_goals clear R
   have:¬ a=b:=fun e=>by subst e;simp at hp
   simp[this]
  ·rw[hp] at hq;have R:=y6 @hc (y6 @he (y6 @he2 (y6 @hq (y6 @hw aC))))
   repeat' ((first |refine ae.aF (by decide +kernel) rfl fun K hK =>?_|(refine .ay [0,1,4,5,10,12,13,14,24] hK ?_;clear hK K)|(with_reducible refine .done (hK _ ?_);clear hK K)|refine ae.of rfl ?_|(with_reducible refine aB.aE (fun h =>?_) (fun h =>?_) <;>try simp only[h])) <;>try simp only[aG,R,simprocAttr])
   all_goals clear R
   refine ⟨i+1,⟨by omega,fun k hk =>?_⟩,by omega,?_⟩
   ·by_cases e:k=i
    ·subst e;have:a[k]=b[k]:=by simpa using hp
     simp[hlt,hlt2,this]
    ·exact hi2 k (by omega)
   ·refine bx.df ?_ ?_ ?_ ?_ <;>simp[cw,cY,cH,cJ,cq,I.only,cA]
 ·have hc:=gL hlt;have R:=y6 @hc aC
  repeat' ((first |refine ae.aF (by decide +kernel) rfl fun K hK =>?_|(refine .ay [0,1,4,5,10,12,13,14,24] hK ?_;clear hK K)|(with_reducible refine .done (hK _ ?_);clear hK K)|refine ae.of rfl ?_|(with_reducible refine aB.aE (fun h =>?_) (fun h =>?_) <;>try simp only[h])) <;>try simp only[aG,R,simprocAttr])
  all_goals clear R
  have:a=b:=List.ext_getElem? fun k=>by
   by_cases hk:k<i
   ·exact hi2 k hk
   ·rw[zx9 (by omega),zx9 (by omega)]
  simp[this]
structure bu where
 ar:Int
 j:List bg
 cE:Int
 deriving DecidableEq,Inhabited
instance:Enc bu where
 enc g:=.agg [.int .i64 g.ar,enc g.j,.int .i64 g.cE]
 sz:=3
 aX:=.eJ [.one,.one,.one]
 gN:=true
 done g:=by simp only[I.done,I.h2,Enc.done,Bool.and_self]
 size g:=by simp only[I.size,I.sizes,kU,kd]
 iQ g:=by simp only[I.aX,I.cV,eI,mG]
 agg _:=rfl
theorem dI:(∀ g:bu,(enc g).dR=some [.int .i64 g.ar,enc g.j,.int .i64 g.cE])∧(∀ (a c:Int) (b:List bg) v,dD [.int .i64 a,enc b,.int .i64 c] 0 0 v=some v)∧(∀ (a c:Int) (b:List bg) v,dD [.int .i64 a,enc b,.int .i64 c] 1 1 v=some v)∧(∀ (a c:Int) (b:List bg) v,dD [.int .i64 a,enc b,.int .i64 c] 2 2 v=some v) ∧
  (∀ (g:bu),bY (some 3) (enc g)=true)∧(∀ (g:List bg),bY none (enc g)=true) :=
 ⟨fun _=>rfl,fun _ _ _ _=>jy (by simp) rfl,fun _ _ _ _=>jy (by simp) rfl,fun _ _ _ _=>jy (by simp) (by simp[I.sizes,I.size,kU,kd]),fun _=>by rw[fh];rfl,fun _=>by simp[kS,kR]⟩
theorem GF(x y:bu):x=y↔x.ar=y.ar∧x.j=y.j∧x.cE=y.cE:=by cases x;cases y;simp
theorem FZ(a b:bu):bd Tryz.prog 16 [enc a,enc b] (enc (decide (a=b))):=by
 refine bd.b6 Tryz.func16 If Jl KD (u8 rfl) (fun hwf W0 bG E1 =>?_);simp only[yV,DB,bH,Z1];have R:=y6 @dI aC
 repeat' ((first |(with_reducible refine .guard (fun hb =>?_) (fun hb =>?_) <;>try simp only[hb])|refine ae.aF (by decide +kernel) rfl fun K hK =>?_|refine .flat _ (F8 a.j b.j) rfl ?_|(refine .ay [0,1,2,3,4] hK ?_;clear hK K)|(with_reducible refine .done (hK _ ?_);clear hK K)|refine ae.of rfl ?_|(with_reducible refine aB.aE (fun h =>?_) (fun h =>?_) <;>try simp only[h])) <;>try simp only[aG,R,simprocAttr])
 all_goals clear R
 all_goals (simp_all[GF])
theorem HM(ar:Int):(dT [.int .i64 0,.nils 4,.int .i64 0] [(0,.int .i64 ar)]).map I.agg=some (I.agg [.int .i64 ar,.nils 4,.int .i64 0]):=by
 simp[dT,I.bR,I.size]
theorem p7:(dT [.int .i64 0,.nils 4,.int .i64 0] []).map I.agg=some (I.agg [.int .i64 0,.nils 4,.int .i64 0]):=by
 simp[dT]
theorem rF(A:ai)(n:Nat)(b:I)(x y u v:Int)(rest:List aH):db A (some 3) n [] b (.agg [.int .i64 x,.nils 4,.int .i64 y]) rest (some (.agg [.int .i64 u,.nils 4,.int .i64 v]))=az rest (A.aS n (.box (.agg [.int .i64 x,.nils 4,.int .i64 y]))):=dE rfl rfl rfl
def qR(ar:Int):bu×Int:=if c4 0 5 ar then (⟨ar,[],0⟩,0) else (⟨0,[],0⟩,90)
theorem xY(ar:Int):bd Tryz.prog 19 [enc ar] (.tuple [enc (qR ar).1,enc (qR ar).2]):=by
 refine bd.b6 Tryz.func19 Ii Jo KG (u8 rfl) (fun hwf W0 bG E1 =>?_);simp only[yY,DF,bH];have R:=y6 @dI (y6 @HM (y6 @p7 (y6 @rF aC)))
 repeat' ((first |refine ae.aF (by decide +kernel) rfl fun K hK =>?_|refine .flat _ (mw ar) rfl ?_|(refine .ay [0,2,3,6] hK ?_;clear hK K)|(with_reducible refine .done (hK _ ?_);clear hK K)|refine ae.of rfl ?_|(with_reducible refine aB.aE (fun h =>?_) (fun h =>?_) <;>try simp only[h])) <;>try simp only[aG,R,simprocAttr])
 all_goals clear R
 all_goals (simp_all[qR];try rfl)
end Go.Proofs.YthbdbocionnfgaaGreatDoor
namespace Go.Abs
open Go Go.RowKit
open Enc (enc)
def wc:Option Nat→Code
 |none=>.ret
 |some id=>.exit id
def AP:Option Nat→Exit
 |none=>.ret
 |some id=>.exit id
def pS(o:Obj)(A:ai)(os:List (Nat×aq)):Prop:=∀ n x,aj (ep o os) n=some x→A.o n=some x∧x.only (aw (ep o os))=true∧x.ej=true
def EL(o:Obj)(In:List (Nat×aq)→Prop)(Ix:Option Nat→List (Nat×aq)→Prop):Exit→ai→Prop
 | .normal,A=>∃ os,pS o A os∧In os
 | .ret,A=>∃ os,pS o A os∧Ix none os
 | .exit id,A=>∃ os,pS o A os∧Ix (some id) os
 |_,_=>False
def GJ(P:Program)(nn:Nat)(x y:bq)(ps:List Nat)(tsR:List (Nat×I))(N:Nat)(item:Nat→List I)(bf:Nat→List (Nat×aq)→Prop)(Ix:Option Nat→List (Nat×aq)→Prop):Prop :=
 ∀ k osb,k<N→bf k osb→∀ (w:World) (D:aP) (E:aZ) (l:Nat) (o1 o2:Obj),
  ae ⟨P,w,D,nn,cI E,E,dy,some l,none⟩ x (eA (fun B=>B.o 1999999=some (.dK o1)∧ae ⟨P,w,D,nn,cI E,E,dy,some l,none⟩ y (EL o2 (bf (k+1)) Ix) (B.aS 1999999 (.dK o2))) (fun _ _=>False)) (av (tC ps (item k) tsR) (ep o1 osb))
section
variable {c:cT} {Q:Exit→ai→Prop}
theorem We{o:Obj}{A:ai}{os:List (Nat×aq)}(h:pS o A os)(o':Obj):∀ n x,aj (ep o' os) n=some x→(A.aS 1999999 (.dK o')).o n=some x∧x.only (aw (ep o' os))=true∧x.ej=true:=fun n x hx=>by
 have e:aw (ep o' os)=aw (ep o os):=by funext m;rw[kX,kX]
 rw[e];by_cases hn:n=1999999
 ·subst hn;rw[pk,if_pos rfl,v6] at hx;subst hx;exact ⟨by simp[ai.aS],rfl,rfl⟩
 ·rw[pk,if_neg hn] at hx;obtain ⟨J,U⟩:=h n x (by rw[pk,if_neg hn];exact hx);exact ⟨by simp only[ai.aS,if_neg hn];exact J,U⟩
theorem ae.mf{f:aO}{ps:List Nat}{x y:bq}{ts tsR:List (Nat×I)}{os0 osb0:List (Nat×aq)}{ρ:List (Nat×Nat)}{g:FuncId}{caps:List I}{N:Nat}{item:Nat→List I}
  (bf:Nat→List (Nat×aq)→Prop) (Ix:Option Nat→List (Nat×aq)→Prop) (hr0:c.lj=none∧c.e8=none) (hn6:c.n≤1000000)
  (hf:ak (av ts os0) f=.func g caps) (hcl:I.ca caps=true) (hcb:e9 c.P g=true) (hit:yc c.P g caps N item) (hlen:∀ k,(item k).length=ps.length)
  (hfree:aj os0 999999=none) (h19:aw osb0 1999999=false) (hρ:bI ρ 1999999=999999)
  (hgv:∀ o,gl ρ (ep o osb0) ((999999,.dK o)::os0)) (hts:nl ρ (aw osb0) ts tsR)
  (hI:∀ k os,bf k os→eY osb0 os) (hIx:∀ e os,Ix e os→eY osb0 os) (aY:bf 0 osb0)
  (hround:GJ c.P c.n x y ps tsR N item bf Ix)
  (hdone:∀ os,bf N os→Q .normal (av ts (dF ρ os++os0))) (hexit:∀ e os,Ix e os→Q (AP e) (av ts (dF ρ os++os0))) :
  ae c (.mf f ps x y) Q (av ts os0):=by
 obtain ⟨hr,hbase⟩:=hr0;intro code hc a w ab;cases code <;>simp only[eB] at hc <;>try (first | (cases hc;done) | ((repeat' split at hc) <;>cases hc;done))
 rename_i cf cps cx cy;split at hc
 case h_2=>cases hc
 rename_i f' x' y' hcf hcx hcy;split at hc
 case isFalse=>cases hc
 rename_i hpn;simp only[v6,bq.mf.injEq] at hc;obtain ⟨rfl,rfl,rfl,rfl⟩:=hc;obtain ⟨D,E,ab⟩:=ab;have hF:c.bE=Fence.wide:=by unfold cT.bE;rw[hr]
 have hE0:c.dh 999999=none:=ab.kg (.inr (by decide));have hval:∃ vs:List Value,a.eval cf=.func (.func g) #[] vs.toArray∧aI w D E caps vs:=by
  have hv:=bV ab hcf;rw[hf] at hv;obtain ⟨cs,q1,q2⟩:=hv;simp only[al] at q2;obtain ⟨vs,q3,q4⟩:=q2;exact ⟨vs,by rw[←mI (Ab hcb)];simpa[bB,I.isAgg,q3] using q1.symm,q4⟩
 obtain ⟨vs,hval,hvs⟩:=hval;rw[hF];refine wpIn_rangeFunc fun fn hfn =>?_;obtain ⟨rec,hrec⟩:∃ rec:LoopState→Option Code→Loop,rec=fun aU pe => { state:=aU,pending:=pe,fn,tmps:=a.tmps,params:=cps,assign:=cx,body:=cy,defers:=w.heap.size } :=⟨_,rfl⟩
 obtain ⟨E1,hs1,hE1,hup⟩:=ab.enter hbase hfree hE0 (o:=.loop (rec .ready none)) rfl;obtain ⟨W1,hW1⟩:∃ W1,(w.alloc (.deferred (some []))).alloc (.loop (rec .ready none))=W1:=⟨_,rfl⟩
 rw[hW1] at hs1 hup;obtain ⟨l,ao⟩:∃ l,l=w.heap.size+1:=⟨_,rfl⟩
 rw[←ao] at hE1;obtain ⟨yv,hyv⟩:∃ yv:Value,yv=.func (.yield l) #[] #[]:=⟨_,rfl⟩
 obtain ⟨a1,ha1⟩:∃ a1:Act,a1 = { a with defers := { target:=.collected w.heap.size,args := #[] } :: a.defers } :=⟨_,rfl⟩
 rw[←ha1] at hs1;refine ⟨l,[{ target:=.collected w.heap.size,args := #[] }],W1,{ target:=.fn (.func g) vs.toArray,args := #[yv] },W1,g,#[yv]++vs.toArray,W1,?_,?_,?_,?_,fun _=>by decide,?_⟩
 ·rw[←hW1,hrec,ao];exact run_enterLoop_outer _ _ _ _ _
 ·simp only[resolve,hval,hyv];simp[go_sem]
 ·intro f' _;trivial
 ·simp only[invoke,nh hcb]
 ·-- the iterator's own bargain
  have hG0:=hI 0 osb0 aY;obtain ⟨I',hI'⟩:∃ I':Nat→List (Nat×aq)→Prop,I'=fun k os=>∃ osb,os=ep (.loop (rec .ready none)) osb∧bf k osb:=⟨_,rfl⟩
  obtain ⟨Ix',hIx'⟩:∃ Ix':List (Nat×aq)→Prop,Ix'=fun os=>∃ e osb,os=ep (.loop (rec .done (some (wc e)))) osb∧Ix e osb:=⟨_,rfl⟩
  obtain ⟨os1,hos1⟩:∃ os1,os1=ep (.loop (rec .ready none)) osb0:=⟨_,rfl⟩
  obtain ⟨Y,hY⟩:∃ Y:Value→List I→List (Nat×aq)→cG→Prop,Y=fun v args os post=>v=yv∧∃ k,args=item k∧k<N∧I' k os∧∀ r os2,(r=.bool true∧I' (k+1) os2)∨(r=.bool false∧Ix' os2)→post r os2:=⟨_,rfl⟩
  have iC:∀ k os',I' k os'→eY os1 os':=fun k os' h=>by
   rw[hI'] at h;obtain ⟨osb,rfl,h⟩:=h;rw[hos1];exact (hI k osb h).ep _ _
  have goodx:∀ os',Ix' os'→eY os1 os':=fun os' h=>by
   rw[hIx'] at h;obtain ⟨e,osb,rfl,h⟩:=h;rw[hos1];exact (hIx e osb h).ep _ _
  have hctr:=hit Y yv I' Ix' os1 (by rw[hyv];rfl) (fun k os' post hk J U=>by rw[hY];exact ⟨rfl,k,rfl,hk,J,U⟩) iC goodx (by rw[hI'];exact ⟨osb0,hos1,aY⟩);have hgv1:gl ρ os1 ((999999,.dK (.loop (rec .ready none)))::os0):=by rw[hos1];exact hgv _
  obtain ⟨A0,hA0⟩:∃ A0:ai,A0=av ts ((999999,.dK (.loop (rec .ready none)))::os0):=⟨_,rfl⟩
  have hand:nv (Calls c.P g) (fun w D E=>∀ n,oJ ⟨c.P,w,D,n,cI E,E,Y,none,none⟩) (.raw yv::caps) os1 (fun r os'=>r=.tuple []∧(I' N os'∨Ix' os')):=fun w D E vs hy hlive hheld hv=>by
   refine (hctr.2 w D E vs hy hlive hheld hv).mono fun e w' ⟨v,he,D',E',r,os',q⟩=>⟨v,D',E',r,os',he,q⟩
  have hshare:=hs1.ou;obtain ⟨Dh,hDh⟩:∃ Dh,Dh=oo (av ts ((999999,.dK (.loop (rec .ready none)))::os0)) D E1:=⟨_,rfl⟩
  rw[←hDh] at hshare;have hsh:=hshare.1;obtain ⟨Eh,hEh⟩:∃ Eh,Eh=aA ρ os1 E1:=⟨_,rfl⟩
  have isrec:aw os1 1999999=true:=by rw[hos1,kX];simp
  have hEl:Eh 1999999=some (.op l):=by rw[hEh];simp only[aA,isrec,if_true,hρ];exact hE1
  have EhIn:∀ n e,Eh n=some e→aw os1 n=true:=fun n e h=>by
   rw[hEh] at h;simp only[aA] at h;split at h
   ·assumption
   ·cases h
  have hyok:∀ n,oJ ⟨c.P,W1,Dh,n,cI Eh,Eh,Y,none,none⟩:=by
   refine fun n=>⟨by rw[hEh];exact hs1.pf,?_⟩
   intro v' args os' post' hYv w2 D2 E2 vs2 hsince hlive hheld hrvs;rw[hY] at hYv;obtain ⟨rfl,k,rfl,hkN,hIk,hpost⟩:=hYv;have hIk0:=hIk;rw[hI'] at hIk;obtain ⟨osb,rfl,hIk⟩:=hIk;have gk:=iC k _ hIk0;have gkb:=hI k osb hIk;have in2:∀ m,aw os1 m=true→E2 m≠none:=fun m hm=>by
    rw[←gk.same m] at hm;cases hx:aj (ep (.loop (rec .ready none)) osb) m with
    |none=>simp[aw,hx] at hm
    |some x=>have:=hheld.bO m;rw[hx] at this;exact tl this
   have same2:∀ m e,Eh m=some e→e.ej=true→E2 m=some e:=fun m e he hfx=>by
    rcases hsince.dV m e he with h | ⟨e',h,hle⟩
    ·exact absurd h (in2 m (EhIn m e he))
    ·rw[hle.eq hfx] at h;exact h
   have hEl2:E2 1999999=some (.op l):=same2 _ _ hEl rfl;have hob:=hheld.bO 1999999;rw[pk,if_pos rfl] at hob;obtain ⟨b,j1,_,j3,_,_⟩:=hob;rw[hEl2] at j1;cases j1;have hsz:vs2.toArray.size=cps.size:=by have:=rB hrvs;rw[hlen] at this;simpa using this
   have hyr:=run_yield (P:=c.P) (args:=vs2.toArray) j3 (by rw[hrec];exact hsz);rw[hrec] at hyr;refine ⟨l,hyv,fn,_,cx,cy,hyr,roundIn_of_wpIn trivial ?_⟩;clear hyr
   -- the round's own frame
   obtain ⟨cr,hcr⟩:∃ cr:cT,cr=⟨c.P,w2,D2,c.n,cI E2,E2,dy,some l,none⟩:=⟨_,rfl⟩
   have hFr:cr.bE=Fence.wide.inRound l:=by rw[hcr];rfl
   have hlat:dY W1 Dh Eh w2 D2 E2:=by
    refine ⟨hsince.cR,hsince.fx.cell,fun m b aX he=>same2 m _ he rfl,fun m aJ l he =>?_,fun m b he=>same2 m _ he rfl,fun m b he=>same2 m _ he rfl,hsince.fx.jf⟩;rcases hsince.dV m _ he with h | ⟨e',h,hle⟩
    ·exact absurd h (in2 m (EhIn m _ he))
    ·rcases hle with rfl | ⟨_,_,blk',l',e,rfl,k1,k2⟩
     ·exact ⟨aJ,l,h,Z3 _,fun _=>rfl⟩
     ·cases e;exact ⟨blk',l',h,k1,k2⟩
   have hslots:nl ρ (aw os1) ts tsR:=by
    have:∀ tsR:List (Nat×I),nl ρ (aw osb0) ts tsR→nl ρ (aw os1) ts tsR:=by
     intro tsR
     induction tsR with
     |nil=>exact fun h=>h
     |cons q r ih =>
      intro h;obtain ⟨J,U,ah⟩:=h;exact ⟨J,iK (fun n hn=>by rw[hos1,kX,hn];simp) _ U,ih ah⟩
    exact this tsR hts
   have hsr:aV cr (av tsR (ep (.loop (rec .ready none)) osb)) { tmps:=a.tmps,defers:=[] } w2 D2 E2:=by
    rw[hcr];refine ⟨ab.sz,⟨[],rfl,.nil,fun _ h=>by simp at h⟩,fun t =>?_,eZ.refl _ _,fun _ _ h _=>h,hlive,fun m=>(hheld.bO m).h4 fun e b he hb=>.inr ⟨m,e,he,hb⟩,hheld.cN,fun _ e h=>.inr ⟨e,h,.refl e⟩,fun m hm =>?_,fun _ _ h=>h,⟨hsince.qH,fun _ _ _ _ h=>h.elim⟩,.refl _ _⟩
    ·rcases E8 hslots t with h | ⟨J,U⟩
     ·simp only[av];rw[h];simp[a8]
     ·have ah:=hsh.dU t;rw[ha1] at ah;simp only[av] at ah ⊢;rw[J] at ah;have au:=(a8.bm (w:=W1) (D:=Dh) (p:=aw os1) (ρ:=bI ρ) (E:=Eh) (E':=E1) (fun n hn=>by rw[hEh];simp only[aA,hn,if_true]) U).1 ah;exact a8.later hlat au
    ·have hmi:aw os1 m=true:=by
      rw[←gk.same m];have:=hheld.bO m;cases hx:aj (ep (.loop (rec .ready none)) osb) m with
      |none=>rw[hx] at this;exact absurd this hm
      |some x=>simp[aw,hx]
     have:=gk.lP m hmi;exact ⟨zw3 hn6 this,this⟩
   have hsp:=aV.C8 cps.toList vs2 (item k) tsR _ hsr (fun p hp=>by rw[hcr];have:=zy1.1 hpn p hp;simpa using this) hrvs (by have:=hsz;simpa using this.symm);have htm:(cps.zip vs2.toArray).foldl (fun t (q:Tmp×Value)=>t.setIfInBounds q.1 q.2) a.tmps=(cps.toList.zip vs2).foldl (fun t q=>t.setIfInBounds q.1 q.2) a.tmps:=by
    rw[←Array.foldl_toList];simp
   have hx:=hround k osb hkN hIk w2 D2 E2 l (.loop (rec .ready none)) (.loop { rec .ready none with state:=.busy });rw[←hcr] at hx;have hx1:=hx cx (by rw[hcr];exact hcx) _ w2 ⟨D2,E2,hsp⟩;rw[hFr] at hx1;simp only[←htm] at hx1;rw[hcr] at hx1;refine wpIn_mono hx1 ?_;rintro e ax wx ⟨B,hq,hsx⟩;rw[←hcr] at hq hsx;cases e <;>simp only[eA] at hq <;>try exact hq.elim
   simp only[Exit.then];obtain ⟨hB1,hB2⟩:=hq;obtain ⟨Dx,Ex,hsx⟩:=hsx;have hElx:Ex 1999999=some (.op l):=by
    have ho:=hsx.bO 1999999;rw[hB1] at ho;rcases hsx.vI (n:=1999999) (by rw[hcr];exact hEl2) rfl with h | h
    ·exact absurd h (tl ho)
    ·exact h
   have hLx:wx.heap[l]?=some (.loop (rec .ready none)):=by
    have ho:=hsx.bO 1999999;rw[hB1] at ho;obtain ⟨b,k1,_,k3,_⟩:=ho;rw[hElx] at k1;cases k1;exact k3
   refine ⟨_,run_beginRound hLx (by rw[hrec]),?_⟩;have hsb:=hsx.xE (o':=.loop { rec .ready none with state:=.busy }) hB1 hElx rfl;have hy1:=hB2 cy (by rw[hcr];exact hcy) _ _ ⟨Dx,Ex,hsb⟩;rw[hFr] at hy1;rw[hcr] at hy1;refine wpIn_mono hy1 ?_;rintro e a3 w3 ⟨A3,hq3,D3,E3,hs3⟩;rw[←hcr] at hs3
   -- the end of the round
   have bh:∀ (os:List (Nat×aq)) (jump:Option Code),pS (.loop { rec .ready none with state:=.busy }) A3 os→(post' (.bool jump.isNone) (ep (.loop (rec (if jump.isNone then .ready else .done) jump)) os)) →
     ∃ v w',(Instr.endRound l jump).run c.P w3=.ok v w'∧(fun e w'=>∃ v D' E' r os',e=Ending.returned v∧post' r os'∧a8 w' D' E' r v∧jI (fun b=>w2.heap.size≤b∨cI E2 b) w' D' E' (aj os') ∧
      eZ (fun b=>w2.heap.size≤b∨cI E2 b) w2 w'∧(∀ b o,D2 b o→D' b o)∧(∀ b o,D' b o→b<w'.heap.size)∧(∀ b o,D' b o→b<w2.heap.size→¬ cI E2 b→D2 b o) ∧
      (∀ n e,E2 n=some e→aw os' n=true→∃ e',E' n=some e'∧e.le e')∧gQ w2 D2 w') (.returned v) w':=fun os jump hbk hp=>by
    have hA3:A3.o 1999999=some (.dK (.loop { rec .ready none with state:=.busy })):=(hbk 1999999 _ (by rw[pk,if_pos rfl])).1;have hEl3:E3 1999999=some (.op l):=by
     have ho:=hs3.bO 1999999;rw[hA3] at ho;rcases hs3.vI (n:=1999999) (by rw[hcr];exact hEl2) rfl with h | h
     ·exact absurd h (tl ho)
     ·exact h
    have hL3:w3.heap[l]?=some (.loop { rec .ready none with state:=.busy }):=by
     have ho:=hs3.bO 1999999;rw[hA3] at ho;obtain ⟨b,k1,_,k3,_⟩:=ho;rw[hEl3] at k1;cases k1;exact k3
    have hend:=run_endRound (P:=c.P) jump hL3;have erec:({ rec .ready none with state:=if jump.isNone then LoopState.ready else .done,pending:=jump } : Loop)=rec (if jump.isNone then .ready else .done) jump:=by rw[hrec]
    have hend':(Instr.endRound l jump).run c.P w3=.ok (.bool jump.isNone) (w3.putObj l (.loop (rec (if jump.isNone then .ready else .done) jump))):=by
     rw[hend];rw[hrec]
    have hs4:=hs3.xE (o':=.loop (rec (if jump.isNone then .ready else .done) jump)) hA3 hEl3 rfl;rw[hcr] at hs4;obtain ⟨D',E',_,_,_,q1,q2,q3,q4,q5,q6⟩:=hs4.wj (We hbk _);exact ⟨_,_,hend',_,D',E',.bool jump.isNone,_,rfl,hp,⟨[.bool jump.isNone],by simp[bB,I.isAgg],by simp[al]⟩,q1,q2,q3,q4,q5,q6⟩
   cases e with
   |normal =>
    obtain ⟨os,hbk,hin⟩:=hq3;exact bh os none hbk (hpost _ _ (.inl ⟨rfl,by rw[hI'];exact ⟨os,rfl,hin⟩⟩))
   |ret =>
    obtain ⟨os,hbk,hin⟩:=hq3;exact bh os (some .ret) hbk (hpost _ _ (.inr ⟨rfl,by rw[hIx'];exact ⟨none,os,rfl,hin⟩⟩))
   |exit id =>
    obtain ⟨os,hbk,hin⟩:=hq3;exact bh os (some (.exit id)) hbk (hpost _ _ (.inr ⟨rfl,by rw[hIx'];exact ⟨some id,os,rfl,hin⟩⟩))
   |goto t=>exact hq3.elim
   |panic ch=>exact hq3.elim
   |outgrown=>exact hq3.elim
  -- the call
  have hargs:fA (a8 W1 D E1) (.raw yv::caps) (yv::vs):=by
   exact .cons ⟨[yv],by simp[bB,I.isAgg],by rw[hyv];exact ⟨rfl,rfl⟩⟩ (rA (hup caps vs hvs))
  have hus:=hand.use (ρ:=ρ) hs1 false (fun h=>h.mono) ⟨(fun h=>by cases h),fun _=>by rw[←hDh,←hEh];exact hyok⟩ hgv1 (sk _ (by simp[I.ca,I.bw,hcl]))
   (fun r os' hp=>by
    have gg:eY os1 os':=by
     rcases hp.2 with h | h
     ·exact iC _ _ h
     ·exact goodx _ h
    refine ⟨fun m x hx=>⟨(gg.ok m x hx).1,(gg.ok m x hx).2,fun h=>by cases h⟩,fun m m' J U=>hgv1.inj m m' (by rw[←gg.same];exact J) (by rw[←gg.same];exact U),fun m hm=>by rw[gg.same];exact hm,fun m J U=>(by rw[gg.same,U] at J;cases J),(by rw[hp.1];simp[I.only,I.ct]),fun h=>by cases h⟩) hargs
  have ecl : #[yv]++vs.toArray=(yv::vs).toArray:=by simp
  rw[ecl];refine CallsIn.mono (callsIn_wide.2 hus) ?_;rintro e w3 ⟨v,r,os',D2,E2,rfl,hp,hs2,_,hE2⟩;have key:∀ (o3:Obj) (osb:List (Nat×aq)),os'=ep o3 osb→o9 o3=true→E2 999999=some (.op l)∧w3.heap[l]?=some o3∧∀ o4,o9 o4=true→bX c (av ts (dF ρ osb++os0)) a1 (w3.putObj l o4):=fun o3 osb he ah=>by
   subst he;have hn2:E2 999999=some (.op l):=by
    obtain ⟨e',J,U⟩:=hE2 1999999 (.op l) (by rw[←hEh];exact hEl) (by rw[kX];simp);rw[hρ] at J;rw[J,U.eq rfl]
   have eos:dF ρ (ep o3 osb)=(999999,.dK o3)::dF ρ osb:=by simp only[ep,dF,Z4,hρ,aq.bm]
   rw[eos] at hs2;have ha:(av ts ((999999,aq.dK o3)::dF ρ osb++(999999,.dK (.loop (rec .ready none)))::os0)).o 999999=some (.dK o3):=by simp[av,aj]
   have hgb:∀ m,aw osb m=true→bI ρ m≠999999:=fun m hm e=>by
    have h5:aw (ep o3 osb) m=true:=by rw[kX,hm];simp
    have g5:eY os1 (ep o3 osb):=by
     rcases hp.2 with h | h
     ·exact iC _ _ h
     ·exact goodx _ h
    have h6:=hgv1.inj m 1999999 (by rw[←g5.same];exact h5) isrec (by rw[hρ];exact e);subst h6;have h7:eY osb0 osb:=by
     rcases hp.2 with h | h
     ·rw[hI'] at h;obtain ⟨osb',h8,h9⟩:=h;simp only[ep,zw2] at h8;rw[h8.2];exact hI _ _ h9
     ·rw[hIx'] at h;obtain ⟨e,osb',h8,h9⟩:=h;simp only[ep,zw2] at h8;rw[h8.2];exact hIx _ _ h9
    rw[h7.same,h19] at hm;cases hm
   refine ⟨hn2,?_,fun o4 au =>?_⟩
   ·have ho:=hs2.bO 999999;rw[ha] at ho;obtain ⟨b,k1,_,k3,_⟩:=ho;rw[hn2] at k1;cases k1;exact k3
   ·have h5:=(hs2.xE (o':=o4) ha hn2 au).Mn hn2;have hst:(⟨((av ts ((999999,aq.dK o3)::dF ρ osb++(999999,.dK (.loop (rec .ready none)))::os0)).aS 999999 (.dK o4)).t,fun m=>if m=999999 then none else
      ((av ts ((999999,aq.dK o3)::dF ρ osb++(999999,.dK (.loop (rec .ready none)))::os0)).aS 999999 (.dK o4)).o m⟩:ai)=av ts (dF ρ osb++os0):=by
     simp only[av,ai.aS]
     congr 1
     funext m
     by_cases hm:m=999999
     ·subst hm;simp only[if_true,qL];cases hq:pre ρ osb 999999 with
      |none=>exact hfree.symm
      |some k=>exact absurd (lf hq).2 (hgb k (lf hq).1)
     ·simp only[if_neg hm,Z7,aj,qL]
    rw[hst] at h5;exact ⟨D2,_,h5⟩
  rcases hp.2 with h | h
  ·rw[hI'] at h;obtain ⟨osb,he,hin⟩:=h;obtain ⟨k1,k2,k3⟩:=key _ osb he rfl;refine ⟨none,_,(by have:=run_endLoop (P:=c.P) k2 (by rw[hrec];simp);rw[hrec] at this;exact this),_,hdone osb hin,?_⟩;have:=k3 (.loop { rec .ready none with state:=.exhausted }) rfl;rw[ha1] at this;rw[hrec] at this;exact this
  ·rw[hIx'] at h;obtain ⟨e,osb,he,hin⟩:=h;obtain ⟨k1,k2,k3⟩:=key _ osb he rfl;refine ⟨some (wc e),_,(by have:=run_endLoop (P:=c.P) k2 (by rw[hrec];simp);rw[hrec] at this;exact this),?_⟩;have:=k3 (.loop { rec .done (some (wc e)) with state:=.exhausted }) rfl;rw[ha1] at this;rw[hrec] at this;have hq:s8 c Q (AP e) { a with defers := { target:=.collected w.heap.size,args := #[] } :: a.defers } _:=⟨_,hexit e osb hin,this⟩
   cases e with
   |none=>exact wpIn_ret hq
   |some id=>exact wpIn_exit hq
end
mutual
theorem kr{ρ:Nat→Nat}(h:∀ n,ρ n=n):∀ x:I,x.bm ρ=x
 | .agg fs | .tuple fs=>by simp only[I.bm];rw[ma h fs]
 | .slice _ es=>by simp only[I.bm];rw[ma h es]
 | .ref x=>by simp only[I.bm];rw[kr h x]
 | .func _ caps=>by simp only[I.bm];rw[ma h caps]
 | .iface _ v=>by simp only[I.bm];rw[kr h v]
 | .ptr _ _ | .own _ _ | .view _ _ _ _ _ | .mref _ | .dq _=>by simp only[I.bm,h]
 | .dm ks vs=>by simp only[I.bm];rw[ma h ks,ma h vs]
 | .bool _ | .int _ _ | .bP _ | .nilp | .dC | .ea | .any | .raw _ | .nils _ | .c0 _ | .undef | .dv=>by simp only[I.bm]
theorem ma{ρ:Nat→Nat}(h:∀ n,ρ n=n):∀ xs:List I,I.dX ρ xs=xs
 | []=>rfl
 |x::xs=>by simp only[I.dX];rw[kr h x,ma h xs]
end
theorem aq.kr{ρ:Nat→Nat}(h:∀ n,ρ n=n):∀ x:aq,x.bm ρ=x
 | .box x=>by simp only[aq.bm,Abs.kr h]
 | .bU _ _ es=>by simp only[aq.bm,ma h]
 | .dK _=>rfl
 | .dL _ _=>rfl
 | .bt _ _=>by simp only[aq.bm,ma h]
 | .it _ _ _ _=>by simp only[aq.bm,ma h]
theorem l9(os:List (Nat×aq)):dF [] os=os:=by
 simp only[dF];have:(fun q:Nat×aq=>(bI [] q.1,q.2.bm (bI [])))=id:=by
  funext q
  rw[aq.kr (ρ:=bI []) (fun n=>rfl)];rfl
 rw[this,List.map_id]
theorem fH(a b:List (Nat×aq))(n:Nat):aj (a++b) n=match aj a n with
  |some x=>some x
  |none=>aj b n:=by
 induction a with
 |nil=>rfl
 |cons q a ih =>
  obtain ⟨k,v⟩:=q;simp only[Z7,aj];split
  ·rfl
  ·exact ih
theorem eY.none{os os':List (Nat×aq)}(h:eY os os'){n:Nat}(hn:n<1000000):aj os' n=none:=by
 cases hx:aj os' n with
 |none=>rfl
 |some x =>
  have J:aw os' n=true:=by simp[aw,hx]
  rw[h.same] at J;exact absurd (h.lP n J) (by omega)
theorem bx.slots{ts ts':List (Nat×I)}{os os':List (Nat×aq)}(J:cw ts ts')(U:∀ n,aj os n=aj os' n):bx (av ts os) (av ts' os'):=by
 have e:av ts os=av ts os':=by
  simp only[av];congr 1;funext n;exact U n
 rw[e];rintro c a w ⟨D,E,ab⟩;refine ⟨D,E,ab.sz,ab.eD,fun t =>?_,ab.dQ,ab.cZ,ab.aQ,ab.bO,ab.cN,ab.dV,ab.eP,ab.cR,ab.eX,ab.fx⟩;rcases tZ J t with h | h
 ·simp only[av];rw[h];simp[a8]
 ·have:=ab.dU t;simp only[av] at *;rw[h];exact this
theorem sn{os osk os2 ow:List (Nat×aq)}{ts:List (Nat×I)}(J:eY os osk)(U:eY os os2)(how:∀ m,aw ow m=true→m<1000000):av ts (dF [] os2++(ow++osk))=av ts (ow++os2):=by
 simp only[av,l9]
 congr 1
 funext n
 simp only[fH];cases hw:aj ow n with
 |none =>
  simp only;cases ah:aj os2 n with
  |some x=>rfl
  |none =>
   simp only;cases au:aj osk n with
   |none=>rfl
   |some x =>
    have h5:aw osk n=true:=by simp[aw,au]
    rw[J.same,←U.same] at h5;simp[aw,ah] at h5
 |some x =>
  simp only;rw[U.none (how n (by simp[aw,hw]))]
theorem gl.iC{os osk ow:List (Nat×aq)}(J:eY os osk)(how:∀ m,aw ow m=true→m<1000000):gl [] osk (ow++osk):=by
 refine ⟨fun m x hx =>?_,fun m m' _ _ h=>h⟩;have hm:aw osk m=true:=by simp[aw,hx]
 have hg:=J.lP m (by rw[←J.same];exact hm);obtain ⟨k1,k2⟩:=J.ok m x hx;refine ⟨?_,k1,k2⟩;rw[aq.kr (ρ:=bI []) (fun n=>rfl)];simp only[bI,fH];cases hw:aj ow m with
 |none=>exact hx
 |some y=>have:=how m (by simp[aw,hw]);omega
theorem gG.iC{os osk os2 os0:List (Nat×aq)}{r:I}(J:eY os osk)(U:eY os os2)(hr:r.bw=true):gG false [] osk os0 r os2:=by
 refine ⟨fun m x hx=>⟨(U.ok m x hx).1,(U.ok m x hx).2,fun h=>by cases h⟩,fun m m' _ _ h=>h,fun m hm=>by rw[U.same,←J.same];exact hm,fun m ah au =>?_,kl _ r hr,fun h=>by cases h⟩;rw[U.same,←J.same,au] at ah;cases ah
theorem aR.rS{P:Program}{Y:Value→List I→List (Nat×aq)→cG→Prop}{K:ai→Prop}{v:Value}{vs:List I}{dst:Option Nat}{rest:List aH}{ts:List (Nat×I)}{os osk ow:List (Nat×aq)}{In Ix:List (Nat×aq)→Prop}
  (hY:Y v vs osk (fun r os2=>(r=.bool true∧In os2)∨(r=.bool false∧Ix os2))) (hk:eY os osk) (hi:∀ os',In os'→eY os os') (hx:∀ os',Ix os'→eY os os') (hcl:I.ca vs=true) (how:∀ m,aw ow m=true→m<1000000)
  (J:∀ os2,In os2→aR P Y false K (az rest ((av ts (ow++os2)).aT dst (.bool true)))) (U:∀ os2,Ix os2→aR P Y false K (az rest ((av ts (ow++os2)).aT dst (.bool false)))) :
  aR P Y false K (.kN v vs dst rest (av ts (ow++osk))):=by
 refine .uf osk vs _ rfl hY (gl.iC hk how) (sk vs hcl) ?_ ?_
 ·rintro r os' (⟨rfl,h⟩ | ⟨rfl,h⟩)
  ·exact gG.iC hk (hi _ h) rfl
  ·exact gG.iC hk (hx _ h) rfl
 ·rintro r os' (⟨rfl,h⟩ | ⟨rfl,h⟩)
  ·rw[sn hk (hi _ h) how];exact J os' h
  ·rw[sn hk (hx _ h) how];exact U os' h
theorem sx(A:ai)(d:Option Nat)(args:List I)(rest:List aH)(v:Value):p9 A d args rest (.raw v)=.kN v args d rest A:=rfl
end Go.Abs
namespace Go.Proofs.YthbdbocionnfgaaGreatDoor
open Go Go.Abs
open Go.Abs.Enc (enc)
structure aD where
 ar:Int
 here:List Int
 all:List dc
 aQ:List Nat
 bj:List bg
 deriving Inhabited
structure mz where
 cQ:Int
 no:Int
 deriving DecidableEq
instance:Enc mz where
 enc g:=.agg [.int .i64 g.cQ,.int .i64 g.no]
 sz:=2
 aX:=.eJ [.one,.one]
 gN:=true
 done g:=by simp only[I.done,I.h2,Bool.and_self]
 size g:=by simp only[I.size,I.sizes]
 iQ g:=by simp only[I.aX,I.cV]
 agg _:=rfl
theorem vm(x y:mz):b5 (.aU [.i .i64,.i .i64]) (enc x) (enc y)=some (decide (x=y)):=by
 show b5 (.aU [.i .i64,.i .i64]) (.agg [.int .i64 x.cQ,.int .i64 x.no]) (.agg [.int .i64 y.cQ,.int .i64 y.no])=_
 have:x=y↔x.cQ=y.cQ∧x.no=y.no:=by cases x;cases y;simp
 simp[b5,hE,iZ,this];rfl
theorem eS(a b:Int):b5 (.i .i64) (enc a) (enc b)=some (decide (a=b)):=by
 show b5 (.i .i64) (.int .i64 a) (.int .i64 b)=_
 simp[b5];rfl
def eQ(x:bg):mz:=⟨x.other,x.no⟩
def aD.b9(s:aD)(i:Nat):dc:=s.all.getD i default
def aD.bp(s:aD):List dc:=s.aQ.map s.b9
def aD.bz(s:aD):List Int:=s.aQ.map fun i:Nat=>((i:Int)+1)
def aD.eV(s:aD)(b:Int):Bool:=s.bp.any fun r=>decide (r.aK=b)
def aD.dp(s:aD):List mz:=s.bj.map eQ
def aD.unknown(s:aD)(x:bg):Bool:=(x.other != s.ar) && !decide (eQ x∈s.dp)
def aD.at(s:aD)(no:Int):Option Nat:=s.aQ.find? fun i=>decide (no=(i:Int)+1)
def aD.on(s:aD)(x:bg):Option Nat:=match s.at x.no with
 |some i=>if (s.b9 i).to=x.other∧(s.b9 i).aK=x.aK then some i else none
 |none=>none
def bD(B i:Nat):Nat:=B+5+i
def fS(B d k i:Nat):Nat:=if i=k then d else B+5+i
def nq(B:Nat)(ar dG:Int):I:=.agg [.int .i64 ar,.mref (B+1),.mref (B+2),.int .i64 dG,.mref (B+3),.mref (B+4)]
def o7(l:List Int):aq:=.bt (l.map enc) (List.replicate l.length (.bool true))
def dW(ν:Nat→Nat)(l:List Nat):List I:=l.map fun i=>.ptr (ν i) []
def oj(ν:Nat→Nat)(s:aD):aq:=.bt (s.bz.map enc) (dW ν s.aQ)
def qE(s:aD):aq:=.bt (s.dp.map enc) (s.bj.map enc)
def gO:List I:=[.int .i64 1,.int .i64 2,.int .i64 3,.int .i64 4,.int .i64 5,.int .i64 6,.int .i64 7,.int .i64 8]
def oO(B:Nat):aq:=.bt gO [.func 1000125 [.ptr B []],.func 1000126 [.ptr B []],.func 1000127 [.ptr B []],.func 1000128 [.ptr B []],.func 1000129 [.ptr B []],.func 1000130 [.ptr B []],.func 1000131 [.ptr B []],.func 1000132 [.ptr B []]]
def jq(ν:Nat→Nat):Nat→List dc→List (Nat×aq)
 |_,[]=>[]
 |i,r::l=>(ν i,.box (enc r))::jq ν (i+1) l
def ee(B:Nat)(ν:Nat→Nat)(s:aD):List (Nat×aq) :=
 (B,.box (nq B s.ar s.all.length))::(B+1,o7 s.here)::(B+2,oj ν s)::(B+3,qE s)::(B+4,oO B)::jq ν 0 s.all
structure gu (B:Nat) (ν:Nat→Nat) (k:Nat):Prop where
 out:∀ i,i<k→ν i<B∨B+5≤ν i
 inj:∀ i j,i<k→j<k→ν i=ν j→i=j
theorem gu.bD(B k:Nat):gu B (bD B) k:=⟨fun i _=>.inr (by simp[Go.Proofs.YthbdbocionnfgaaGreatDoor.bD]),fun i j _ _ h=>by simp[Go.Proofs.YthbdbocionnfgaaGreatDoor.bD] at h;exact h⟩
theorem gu.fS{B d k m:Nat}(h:d<B)(hm:m≤k+1):gu B (fS B d k) m :=
 ⟨fun i _=>by simp only[Go.Proofs.YthbdbocionnfgaaGreatDoor.fS];split <;>omega,fun i j hi hj h=>by simp only[Go.Proofs.YthbdbocionnfgaaGreatDoor.fS] at h;(repeat' split at h) <;>omega⟩
theorem lX{B d k i:Nat}(h:i<k):fS B d k i=bD B i:=by simp only[fS,bD];rw[if_neg (by omega)]
theorem yB{ν:Nat→Nat} : ∀ (l:List dc) (i k:Nat) (h:k<l.length),(∀ a b,a<i+l.length→b<i+l.length→ν a=ν b→a=b)→aj (jq ν i l) (ν (i+k))=some (.box (enc l[k]))
 | [],_,_,h,_=>by simp at h
 |r::l,i,0,_,_=>by simp[jq,aj]
 |r::l,i,k+1,h,hj=>by
  simp only[zx5] at h hj;simp only[jq,aj];rw[if_neg (fun e=>by have:=hj _ _ (by omega) (by omega) e;omega)];have:=yB l (i+1) k (by omega) (fun a b ha hb=>hj a b (by omega) (by omega));rw[show i+1+k=i+(k+1) by omega] at this;simpa using this
theorem yD{ν:Nat→Nat}{n:Nat} : ∀ (l:List dc) (i:Nat),(∀ k,k<l.length→n≠ν (i+k))→aj (jq ν i l) n=none
 | [],_,_=>rfl
 |r::l,i,h=>by
  simp only[zx5] at h;simp only[jq,aj];rw[if_neg (by have:=h 0 (by omega);simpa using this)];exact yD l (i+1) fun k hk=>by have:=h (k+1) (by omega);rw[show i+1+k=i+(k+1) by omega];exact this
theorem yC{ν ν':Nat→Nat} : ∀ (l:List dc) (i:Nat),(∀ k,k<i+l.length→ν k=ν' k)→jq ν i l=jq ν' i l
 | [],_,_=>rfl
 |r::l,i,h=>by
  simp only[zx5] at h;simp only[jq,h i (by omega),yC l (i+1) fun k hk=>h k (by omega)]
theorem Zv{B:Nat}{ν ν':Nat→Nat}{s:aD}(ao:∀ i∈s.aQ,i<s.all.length)(h:∀ k,k<s.all.length→ν k=ν' k):ee B ν s=ee B ν' s:=by
 have J:dW ν s.aQ=dW ν' s.aQ:=List.map_congr_left fun i hi=>by rw[h i (ao i hi)]
 simp only[ee,oj,J,yC s.all 0 (by simpa using h)]
section
variable {B:Nat} {ν:Nat→Nat} {s:aD}
theorem xM(B:Nat)(ν:Nat→Nat)(k n:Nat):n=B∨n=B+1∨n=B+2∨n=B+3∨n=B+4∨((n<B∨B+5≤n)∧(∃ i,i<k∧n=ν i))∨((n<B∨B+5≤n)∧∀ i,i<k→n≠ν i):=by
 by_cases J:n=B
 ·exact .inl J
 by_cases U:n=B+1
 ·exact .inr (.inl U)
 by_cases ah:n=B+2
 ·exact .inr (.inr (.inl ah))
 by_cases au:n=B+3
 ·exact .inr (.inr (.inr (.inl au)))
 by_cases h5:n=B+4
 ·exact .inr (.inr (.inr (.inr (.inl h5))))
 have h6:n<B∨B+5≤n:=by omega
 by_cases h7:∃ i,i<k∧n=ν i
 ·exact .inr (.inr (.inr (.inr (.inr (.inl ⟨h6,h7⟩)))))
 ·exact .inr (.inr (.inr (.inr (.inr (.inr ⟨h6,fun i hi e=>h7 ⟨i,hi,e⟩⟩)))))
theorem fw:aj (ee B ν s) B=some (.box (nq B s.ar s.all.length)):=by simp[ee,aj]
theorem fU:aj (ee B ν s) (B+1)=some (o7 s.here):=by simp[ee,aj]
theorem gf:aj (ee B ν s) (B+2)=some (oj ν s):=by simp[ee,aj]
theorem gh:aj (ee B ν s) (B+3)=some (qE s):=by simp[ee,aj]
theorem oB:aj (ee B ν s) (B+4)=some (oO B):=by simp[ee,aj]
theorem jj(hg:gu B ν s.all.length){i:Nat}(hi:i<s.all.length):aj (ee B ν s) (ν i)=some (.box (enc s.all[i])):=by
 have J:=hg.out i hi;simp only[ee,aj];rw[if_neg (by omega),if_neg (by omega),if_neg (by omega),if_neg (by omega),if_neg (by omega)];have:=yB (ν:=ν) s.all 0 i hi (by simpa using hg.inj)
 rwa [Z1] at this
theorem eG{n:Nat}(J:n<B∨B+5≤n)(h:∀ i,i<s.all.length→n≠ν i):aj (ee B ν s) n=none:=by
 simp only[ee,aj];rw[if_neg (by omega),if_neg (by omega),if_neg (by omega),if_neg (by omega),if_neg (by omega)];exact yD s.all 0 (by simpa using h)
theorem dP(hg:gu B ν s.all.length){n:Nat} : aw (ee B ν s) n=true↔(B≤n∧n≤B+4)∨∃ i,i<s.all.length∧n=ν i:=by
 rcases xM B ν s.all.length n with h | h | h | h | h | ⟨h,i,hi,e⟩ | ⟨h,hn⟩
 ·subst h;simp only[aw,fw];simp
 ·subst h;simp only[aw,fU];simp
 ·subst h;simp only[aw,gf];simp
 ·subst h;simp only[aw,gh];simp
 ·subst h;simp only[aw,oB];simp
 ·subst e;simp only[aw,jj hg hi];simp only[Option.isSome_some,true_iff];exact .inr ⟨i,hi,rfl⟩
 ·simp only[aw,eG h hn];simp only[Option.isSome_none,Z2,false_iff];rintro (U | ⟨i,hi,e⟩)
  ·omega
  ·exact hn i hi e
theorem X0(p:Nat→Bool)(h:p B=true):aq.only p (oO B)=true:=by
 simp[oO,gO,aq.only,I.only,I.ct,h]
theorem CL(p:Nat→Bool):∀ l:List Nat,(∀ i∈l,p (ν i)=true)→I.ct p (dW ν l)=true
 | [],_=>rfl
 |i::l,h=>by
  have ih:=CL p l fun j hj=>h j (by simp[hj]);simp only[dW] at ih;simp only[dW,Z4,I.ct,I.only,ih,h i (by simp),Bool.and_self]
theorem CN(p:Nat→Bool):∀ n:Nat,I.ct p (List.replicate n (.bool true))=true
 |0=>rfl
 |n+1=>by simp[List.replicate_succ,I.ct,I.only,CN p n]
theorem ly(hg:gu B ν s.all.length)(ao:∀ i∈s.aQ,i<s.all.length){n:Nat}{x:aq}(h:aj (ee B ν s) n=some x):x.only (aw (ee B ν s))=true∧x.ej=true:=by
 have hin:∀ n,(B≤n∧n≤B+4)→aw (ee B ν s) n=true:=fun n hn=>(dP hg).2 (.inl hn);rcases xM B ν s.all.length n with U | U | U | U | U | ⟨U,i,hi,e⟩ | ⟨U,hn⟩
 ·subst U;rw[fw] at h;cases h;simp[aq.only,I.only,I.ct,aq.ej,nq,hin]
 ·subst U;rw[fU] at h;cases h;simp only[o7,aq.only,fu,CN,Bool.and_self,aq.ej,true_and]
 ·subst U;rw[gf] at h;cases h;refine ⟨?_,rfl⟩;simp only[oj,aq.only,fu,Bool.true_and];exact CL _ _ fun i hi=>(dP hg).2 (.inr ⟨i,ao i hi,rfl⟩)
 ·subst U;rw[gh] at h;cases h;simp only[qE,aq.only,fu,Bool.and_self,aq.ej,true_and]
 ·subst U;rw[oB] at h;cases h;exact ⟨X0 _ (hin _ (by omega)),rfl⟩
 ·subst e;rw[jj hg hi] at h;cases h;exact ⟨cA _ _,rfl⟩
 ·rw[eG U hn] at h;cases h
theorem Zw(hg:gu 1000000 ν s.all.length)(h:∀ i,i<s.all.length→1000000≤ν i):∀ m,aw (ee 1000000 ν s) m=true→1000000≤m:=fun m hm=>by
 rcases (dP hg).1 hm with U | ⟨i,hi,rfl⟩
 ·omega
 ·exact h i hi
end
def jC(s:aD):I:=.dm (s.bz.map enc) (s.aQ.map fun i=>.ref (enc (s.b9 i)))
def jO(l:List Int):I:=.dm (l.map enc) (List.replicate l.length (.bool true))
def kh(s:aD):I:=.dm (s.dp.map enc) (s.bj.map enc)
def sw:I:=.dm gO (List.replicate 8 .any)
def fT(s:aD):I:=.agg [.int .i64 s.ar,jO s.here,jC s,.int .i64 s.all.length,kh s,sw]
theorem qd:∀ n:Nat,I.ca (List.replicate n (.bool true))=true
 |0=>rfl
 |n+1=>by simp[List.replicate_succ,I.ca,I.bw,qd n]
theorem u7{α:Type}[Enc α](f:Nat→α):∀ l:List Nat,I.ca (l.map fun i=>.ref (enc (f i)))=true
 | []=>rfl
 |i::l=>by simp[I.ca,I.bw,kQ,u7 f l]
theorem As(s:aD):(fT s).bw=true:=by
 simp[fT,jO,jC,kh,sw,gO,I.bw,I.ca,iA,qd,u7,List.replicate]
theorem vB{A:ai}{m:Nat}{x:I}(h:x.bw=true):cW A (m+1) x=some x:=by simp[cW,h]
theorem wq{A:ai}{m:Nat} : ∀ {l:List I},I.ca l=true→fR (cW A (m+1)) l=some l
 | [],_=>rfl
 |x::l,h=>by
  simp only[I.ca,t8] at h;simp only[fR,vB h.1,wq h.2]
theorem sF{A:ai}{m n:Nat}{ks vs vs':List I}(ho:A.o n=some (.bt ks vs))(hk:I.ca ks=true)(hv:fR (cW A m) vs=some vs'):cW A (m+1) (.mref n)=some (.dm ks vs'):=by
 simp only[cW,I.bw,Z2,if_false,ho,hk,if_true,hv,Z8]
theorem Cl{A:ai}{m:Nat}{ν:Nat→Nat}{f:Nat→dc} : ∀ {l:List Nat},(∀ i∈l,A.o (ν i)=some (.box (enc (f i))))→fR (cW A (m+2)) (dW ν l)=some (l.map fun i=>.ref (enc (f i)))
 | [],_=>rfl
 |i::l,h=>by
  have ih:=Cl (m:=m) (l:=l) fun j hj=>h j (by simp[hj]);simp only[dW] at ih;have J:cW A (m+2) (.ptr (ν i) [])=some (.ref (enc (f i))):=by
   have hcl:(I.ptr (ν i) []).bw=false:=by simp[I.bw]
   rw[cW];simp only[hcl,Z2,if_false,cK,h i (by simp),I.at,vB (kQ (f i)),Z8]
  simp only[dW,Z4,fR,J,ih]
structure ya (A:ai) (B:Nat) (ν:Nat→Nat) (s:aD):Prop where
 aY:A.o B=some (.box (nq B s.ar s.all.length))
 J:A.o (B+1)=some (o7 s.here)
 U:A.o (B+2)=some (oj ν s)
 ah:A.o (B+3)=some (qE s)
 au:A.o (B+4)=some (oO B)
 aN:∀ i,i<s.all.length→A.o (ν i)=some (.box (enc (s.b9 i)))
 cB:∀ i∈s.aQ,i<s.all.length
theorem gU{A:ai}{B:Nat}{ν:Nat→Nat}{s:aD}(h:ya A B ν s)(m:Nat):cW A (m+5) (nq B s.ar s.all.length)=some (fT s):=by
 have i0:∀ (k:IntKind) (v:Int),cW A (m+4) (.int k v)=some (.int k v):=fun _ _=>vB (m:=m+3) rfl;have i1:cW A (m+4) (.mref (B+1))=some (jO s.here):=sF h.J (iA _) (wq (m:=m+2) (qd _));have i2:cW A (m+4) (.mref (B+2))=some (jC s):=sF h.U (iA _) (Cl (m:=m+1) fun i hi=>h.aN i (h.cB i hi));have i3:cW A (m+4) (.mref (B+3))=some (kh s):=sF h.ah (iA _) (wq (m:=m+2) (iA _));have i4:cW A (m+4) (.mref (B+4))=some sw:=sF h.au (by simp[gO,I.ca,I.bw]) (by
  have hf:∀ k:Nat,1000000≤k→cW A (m+3) (.func k [.ptr B []])=some .any:=fun k hk=>by
   rw[cW];have hcl:(I.func k [.ptr B []]).bw=false:=by simp[I.bw,I.ca]
   simp only[hcl,Z2,if_false,if_neg (show ¬ k<1000000 by omega)]
  simp only[fR,hf 1000125 (by decide),hf 1000126 (by decide),hf 1000127 (by decide),hf 1000128 (by decide),hf 1000129 (by decide),hf 1000130 (by decide),hf 1000131 (by decide),hf 1000132 (by decide)];rfl)
 rw[nq,cW];simp only[I.bw,I.ca,Bool.and_false,Bool.false_and,Z2,if_false,fR,i0,i1,i2,i3,i4,Z8];rfl
def dH(s:aD):I:=.ref (fT s)
theorem oy(s:aD):(dH s).bw=true:=by simp only[dH,I.bw,As]
theorem AQ:(∀ A s,jc A 0 0 (dH s)=some (.ref (.int .i64 s.ar)))∧(∀ A s,jc A 1 1 (dH s)=some (.ref (jO s.here)))∧(∀ A s,jc A 2 2 (dH s)=some (.ref (jC s)))∧(∀ A s,jc A 3 3 (dH s)=some (.ref (.int .i64 s.all.length))) ∧
  (∀ A s,jc A 4 4 (dH s)=some (.ref (kh s))):=by
 refine ⟨fun A s =>?_,fun A s =>?_,fun A s =>?_,fun A s =>?_,fun A s =>?_⟩ <;>simp[dH,fT,jc,I.dR,qh,oY,dD,I.sizes,I.size,jO,jC,kh,sw]
theorem Wf(l:List Int):(jO l).bw=true:=by simp only[jO,I.bw,iA,qd,Bool.and_self]
theorem Y2(s:aD):(jC s).bw=true:=by simp only[jC,I.bw,iA,u7,Bool.and_self]
theorem Wu(s:aD):(kh s).bw=true:=by simp only[kh,I.bw,iA,Bool.and_self]
theorem eF:(type_of% @AQ)∧(∀ s,(dH s).bw=true)∧(∀ aN A s,bh aN A (dH s)=some (dH s))∧(∀ s,(dH s).bR=true)∧(∀ s,bY none (dH s)=true)∧(∀ s,lW (dH s)=some (dH s))∧(∀ p s,(dH s).only p=true) ∧
  (∀ l,(jO l).bR=true)∧(∀ l,bY none (jO l)=true)∧(∀ l,(jC l).bR=true)∧(∀ l,bY none (jC l)=true)∧(∀ l,(kh l).bR=true)∧(∀ l,bY none (kh l)=true)∧(∀ l,(jO l).bw=true)∧(∀ l,(jC l).bw=true)∧(∀ l,(kh l).bw=true) ∧
  (∀ A l,fZ A (jO l)=some (l.map enc,List.replicate l.length (.bool true)))∧(∀ A s,fZ A (jC s)=some (s.bz.map enc,s.aQ.map fun i=>.ref (enc (s.b9 i))))∧(∀ A s,fZ A (kh s)=some (s.dp.map enc,s.bj.map enc)) ∧
  (∀ x,bY none (.ref x)=true)∧(∀ x,lW (.ref x)=some (.ref x)) :=
 ⟨AQ,oy,fun aN A s=>by
  have h:=oy s;simp only[dH,I.bw] at h;simp only[dH,bh,h,if_true],fun _=>rfl,fun _=>rfl,fun _=>rfl,fun p s=>kl p _ (oy s),fun _=>rfl,fun _=>rfl,fun _=>rfl,fun _=>rfl,fun _=>rfl,fun _=>rfl,Wf,Y2,Wu,
  fun _ _=>rfl,fun _ _=>rfl,fun _ _=>rfl,fun _=>rfl,fun _=>rfl⟩
theorem CB{A:ai}{d:Option Nat}{n:Nat}{rest:List aH}{ks vs:List I}{cur:Option Nat} : py A d n rest (some (.it ks vs [] cur))=az rest (A.aT d (.tuple [.bool false])):=by
 simp only[py,if_true]
theorem aR.ib{P:Program}{Y:Value→List I→List (Nat×aq)→cG→Prop}{K:ai→Prop}{A:ai}{d:Option Nat}{n:Nat}{rest:List aH}{ks vs:List I}{left:List Nat}{cur:Option Nat}(ao:left≠[])
  (h:∀ i,i∈left→∃ kk x,ks[i]?=some kk∧vs[i]?=some x∧aR P Y false K (az rest ((A.aS n (.it ks vs (left.filter (· != i)) (some i))).aT d (.tuple [.bool true,kk,x])))) :
  aR P Y false K (py A d n rest (some (.it ks vs left cur))):=by
 simp only[py,if_neg ao];refine .any rfl fun i hi =>?_;obtain ⟨kk,x,J,U,ah⟩:=h i hi;simp only[J,U];exact ah
theorem B8{n i:Nat}{ay left:List Nat}(hC:(ay++left).Perm (List.range n))(hi:i∈left):(left.filter (· != i)).length<left.length∧((ay++[i])++left.filter (· != i)).Perm (List.range n):=by
 refine ⟨?_,?_⟩
 ·rcases Nat.lt_or_ge (left.filter (· != i)).length left.length with h | h
  ·exact h
  ·have:=List.filter_eq_self.1 (List.Sublist.eq_of_length_le List.filter_sublist h) i hi;simp at this
 have hnd:left.Nodup:=(List.nodup_append.1 (hC.nodup_iff.2 List.nodup_range)).2.1;have J:left.Perm (i::left.filter (· != i)):=by
  have U:(left.filter (· == i)).length=1:=by
   have:=List.nodup_iff_count.1 hnd i;have ah:=List.count_pos_iff.2 hi;have au:left.count i=(left.filter (· == i)).length:=by rw[List.count,List.countP_eq_length_filter]
   omega
  have h5:left.filter (· == i)=[i]:=by
   obtain ⟨a,ha⟩:=List.length_eq_one_iff.1 U;have:a∈left.filter (· == i):=by rw[ha];simp
   have:=(zx2.1 this).2;simp at this;rw[ha,this]
  have h6:=(List.filter_append_perm (· == i) left).symm;rw[h5] at h6;exact h6
 refine List.Perm.trans ?_ hC;rw[zz0];exact (J.symm).append_left ay
def yg(s:aD)(b:Int)(t:List Nat×List Nat×Option Nat):ai :=
 av [(0,dH s),(1,.int .i64 b),(11,.dq 11)] [(11,.it (s.bz.map enc) (s.aQ.map fun i=>.ref (enc (s.b9 i))) t.2.1 t.2.2)]
theorem pW(s:aD)(b:Int):bd Tryz.prog 72 [dH s,enc b] (enc (s.eV b)):=by
 refine bd.b6 Tryz.func72 IJ JN K5 (u8 rfl) (fun hwf W0 bG E1 =>?_);simp only[zt,D7,bH,Z1];clear hwf;refine .gC (by decide +kernel) fun K hK =>?_;simp only[Bh,bF,simprocAttr];refine .done (hK _ ?_);clear hK K;refine ae.seq (ae.seq ?_);refine .kq (by decide +kernel) fun K hK =>?_;simp only[Bi,bF,simprocAttr]
 try simp only[eF,jC,bA,mQ,bF,simprocAttr]
 refine .done (hK _ ?_);clear hK K;try simp only[eA]
 have hlen:s.bz.length=s.aQ.length:=by simp[aD.bz]
 refine ae.block (ae.loop (yg s b) (fun t=>(t.1++t.2.1).Perm (List.range s.aQ.length)∧∀ i∈t.1,(s.b9 (s.aQ.getD i 0)).aK≠b) (fun t=>t.2.1.length) ([],List.range s.aQ.length,none) ⟨by simp,by simp⟩ ?_ ?_)
 ·refine bx.slots ?_ (fun n =>?_)
  ·simp[cw,cq]
  ·simp only[dx,qK,Z9,hlen]
 rintro ⟨ay,left,cur⟩ ⟨hC,hA⟩;simp only at hC hA;simp only[yg];by_cases ao:left=[]
 ·subst ao;have hno:s.eV b=false:=by
   simp only[aD.eV,aD.bp,List.any_map,List.any_eq_false,Function.comp,decide_eq_true_eq];intro i hi e;obtain ⟨k,hk,rfl⟩:=List.mem_iff_getElem.1 hi;have hm:k∈ay:=(show ay.Perm _ by simpa using hC).mem_iff.2 (zw0.2 hk);have:=hA k hm;simp only[Z0,zz4 hk,Option.getD_some] at this;exact this e
  refine .gC (by decide +kernel) fun K hK =>?_;simp only[vQ,bF,simprocAttr]
  try simp only[mQ,CB,bF,simprocAttr]
  refine .done (hK _ ?_);clear hK K;refine ae.seq ?_;refine ae.jQ ?_;simp only[aB,bF,simprocAttr];refine ⟨fun h =>?_,fun h =>?_⟩
  case refine_1=>cases h
  refine ae.exit ?_;try simp only[eA,jK,simprocAttr]
  rw[hno];have R:=aC
  repeat' ((first |refine ae.aF (by decide +kernel) rfl fun K hK =>?_|(refine .ay [0,1,4,6,11,13,21] hK ?_;clear hK K)|(with_reducible refine .done (hK _ ?_);clear hK K)|refine ae.of rfl ?_|(with_reducible refine aB.aE (fun h =>?_) (fun h =>?_) <;>try simp only[h])) <;>try simp only[aG,R,simprocAttr])
  all_goals clear R
 ·refine .gC (by decide +kernel) fun K hK =>?_;simp only[vQ,bF,simprocAttr]
  try simp only[mQ,bF,simprocAttr]
  refine aR.ib ao fun i hi =>?_;have hib:i<s.aQ.length:=zw0.1 (hC.mem_iff.1 (by simp[hi]));obtain ⟨hm,hC2⟩:=B8 hC hi;have hk1:(s.bz.map (enc (α:=Int)))[i]?=some (enc (((s.aQ[i]:Nat):Int)+1)):=by simp[aD.bz,hib]
  have hk2:(s.aQ.map fun i=>I.ref (enc (s.b9 i)))[i]?=some (.ref (enc (s.b9 s.aQ[i]))):=by simp[hib]
  refine ⟨_,_,hk1,hk2,?_⟩;have hent:mH (s.bz.map enc) (s.aQ.map fun i=>I.ref (enc (s.b9 i))) (some i)=some (.tuple [enc (((s.aQ[i]:Nat):Int)+1),.ref (enc (s.b9 s.aQ[i]))]):=by
   simp only[mH,hk1,hk2]
  have hx:s.aQ.getD i 0=s.aQ[i]:=by simp[Z0,hib]
  try simp only[bF,simprocAttr]
  refine .done (hK _ ?_);clear hK K;refine ae.seq ?_;refine ae.jQ ?_;simp only[aB,bF,simprocAttr];refine ⟨fun h =>?_,fun h =>?_⟩
  case refine_2=>cases h
  refine ae.skip ?_;try simp only[eA,simprocAttr]
  refine ae.block ?_;rcases q:((s.b9 s.aQ[i]).aK==b)
  ·have R:=y6 @hent (y6 @q aC)
   repeat' ((first |refine ae.aF (by decide +kernel) rfl fun K hK =>?_|(refine .ay [0,1,4,6,11,13,21] hK ?_;clear hK K)|(with_reducible refine .done (hK _ ?_);clear hK K)|refine ae.of rfl ?_|(with_reducible refine aB.aE (fun h =>?_) (fun h =>?_) <;>try simp only[h])) <;>try simp only[aG,R,simprocAttr])
   all_goals clear R
   refine ⟨(ay++[i],left.filter (· != i),some i),⟨hC2,fun j hj =>?_⟩,hm,?_⟩
   ·rcases zy7.1 hj with hj | hj
    ·exact hA j hj
    ·rw[zy3.1 hj,hx];simpa using q
   ·simp only[];refine bx.slots ?_ (fun n =>?_)
    ·simp[cw,cq]
    ·simp only[dx,qK];(repeat' split) <;>simp_all
  ·have hyes:s.eV b=true:=by
    simp only[aD.eV,aD.bp,List.any_map,List.any_eq_true,Function.comp,decide_eq_true_eq];exact ⟨s.aQ[i],List.getElem_mem hib,by simpa using q⟩
   rw[hyes];have R:=y6 @hent (y6 @q aC)
   repeat' ((first |refine ae.aF (by decide +kernel) rfl fun K hK =>?_|(refine .ay [0,1,4,6,11,13,21] hK ?_;clear hK K)|(with_reducible refine .done (hK _ ?_);clear hK K)|refine ae.of rfl ?_|(with_reducible refine aB.aE (fun h =>?_) (fun h =>?_) <;>try simp only[h])) <;>try simp only[aG,R,simprocAttr])
   all_goals clear R
theorem WM(s:aD)(x:bg):∃ v:I,v.bR=true∧bY (some 4) v=true∧v.aX=.eJ [.one,.one,.one,.one]∧fp (.aU [.i .i64,.i .i64]) (.agg [.int .i64 0,.int .i64 0,.int .i64 0,.int .i64 0]) (.agg [.int .i64 x.other,.int .i64 x.no]) (s.dp.map enc) (s.bj.map enc)=some (v,decide (eQ x∈s.dp)):=by
 have h:=s9 vm (.agg [.int .i64 0,.int .i64 0,.int .i64 0,.int .i64 0]) (eQ x) s.dp (s.bj.map enc);have hm:=qi (k:=eQ x) (ks:=s.dp);have e:(enc (eQ x):I)=.agg [.int .i64 x.other,.int .i64 x.no]:=rfl;rw[e] at h;rw[h,←hm];cases hf:s.dp.findIdx? fun y=>decide (eQ x=y) with
 |none=>exact ⟨_,rfl,rfl,rfl,rfl⟩
 |some i =>
  have hi:=(List.findIdx?_eq_some_iff_getElem.1 hf).1;have hi2:i<s.bj.length:=by simpa[aD.dp] using hi
  refine ⟨enc s.bj[i],eh _,by rw[fh];rfl,eI _,?_⟩;simp[hi2]
theorem rZ(s:aD)(x:bg):bd Tryz.prog 152 [dH s,enc x] (enc (s.unknown x)):=by
 refine bd.b6 Tryz.func152 Ie Jk KC (u8 rfl) (fun hwf W0 bG E1 =>?_);simp only[yU,DA,bH,Z1];clear hwf;obtain ⟨v,hv1,hv2,hv3,hlk⟩:=WM s x;have hbld:(dT [.int .i64 0,.int .i64 0] [(0,.int .i64 x.other),(1,.int .i64 x.no)]).map I.agg=some (.agg [.int .i64 x.other,.int .i64 x.no]):=by simp[dT,I.bR,I.size]
 have hst:∀ A rest b,db A (some 4) 5 [] b v rest (some (.agg [.int .i64 0,.int .i64 0,.int .i64 0,.int .i64 0]))=az rest (A.aS 5 (.box v)):=fun A rest b=>dE hv1 hv2 hv3;simp only[aD.unknown];rcases q:(x.other != s.ar) <;>rcases q2:decide (eQ x∈s.dp)
 all_goals
  rw[q2] at hlk;have R:=y6 @q (y6 @hv1 (y6 @hv2 (y6 @hbld (y6 @hst (y6 @hlk (y6 @eF (y6 @bA aC)))))))
  repeat' ((first |(with_reducible refine .guard (fun hb =>?_) (fun hb =>?_) <;>try simp only[hb])|refine ae.aF (by decide +kernel) rfl fun K hK =>?_|(refine .ay [0,1,3,4,6] hK ?_;clear hK K)|(with_reducible refine .done (hK _ ?_);clear hK K)|refine ae.of rfl ?_|(with_reducible refine aB.aE (fun h =>?_) (fun h =>?_) <;>try simp only[h])) <;>try simp only[aG,R,simprocAttr])
  all_goals clear R
  rfl
theorem AM{α β:Type}(f:α→β):∀ (l:List α) (k:Nat),(l.map f).eraseIdx k=(l.eraseIdx k).map f
 | [],_=>rfl
 |_::_,0=>rfl
 |x::l,k+1=>by simp only[Z4,List.eraseIdx_cons_succ,AM f l k]
section
variable {α ι:Type} [Enc α] [DecidableEq α] [DecidableEq ι] {ty:cF}
omit [Enc α] [DecidableEq ι] in
theorem A7(f:ι→α)(g:ι→I)(z:I)(k:α):∀ l:List ι,(match (l.map f).findIdx? fun x=>decide (k=x) with
   |some i=>((l.map g)[i]?).map fun v=>(v,true)
   |none=>some (z,false))=(match l.find? fun i=>decide (k=f i) with
   |some i=>some (g i,true)
   |none=>some (z,false))
 | []=>rfl
 |x::l=>by
  have ih:=A7 f g z k l;simp only[Z4,List.findIdx?_cons,List.find?_cons];by_cases h:k=f x
  ·simp[h]
  ·simp only[h,decide_false,Z2,if_false];rw[←ih];cases (l.map f).findIdx? fun x=>decide (k=x) with
   |none=>rfl
   |some i=>simp
omit [DecidableEq ι] in
theorem Cb(aA:∀ x y:α,b5 ty (enc x) (enc y)=some (decide (x=y)))(f:ι→α)(g:ι→I)(z:I)(k:α)(l:List ι) :
  fp ty z (enc k) ((l.map f).map enc) (l.map g)=match l.find? fun i=>decide (k=f i) with
   |some i=>some (g i,true)
   |none=>some (z,false):=by
 exact (s9 aA z k _ _).trans (A7 f g z k l)
theorem Cp(aA:∀ x y:α,b5 ty (enc x) (enc y)=some (decide (x=y)))(f:ι→α)(g:ι→I)(hf:∀ a b,f a=f b→a=b){l:List ι}{i:ι}(hi:i∈l) :
  lV ty (enc (f i)) ((l.map f).map enc) (l.map g)=some (((l.erase i).map f).map enc,(l.erase i).map g):=by
 have hf2:∀ a,(f i=f a)=(i=a):=fun a=>propext ⟨hf i a,fun e=>by rw[e]⟩;have key:∀ l:List ι,i∈l→∃ k,(l.map f).findIdx? (fun x=>decide (f i=x))=some k∧l.eraseIdx k=l.erase i:=by
  intro l
  induction l with
  |nil=>intro h;cases h
  |cons x l ih =>
   intro h;simp only[Z4,List.findIdx?_cons,hf2];by_cases e:i=x
   ·subst e;exact ⟨0,by simp,by simp⟩
   ·obtain ⟨k,J,U⟩:=ih (by simpa[e] using h);refine ⟨k+1,?_,?_⟩
    ·simp only[e,decide_false,Z2,if_false,J,Z8]
    ·rw[List.eraseIdx_cons_succ,U,List.erase_cons_tail (by simpa using fun h=>e h.symm)]
 obtain ⟨k,J,U⟩:=key l hi;simp only[lV,aA,Option.isSome_some,if_true,sJ aA,J,Z8,Nat.add_zero];rw[←U];simp only[AM]
end
theorem EH(l:List Int):List.replicate l.length (I.bool true)=l.map fun _=>.bool true:=by
 induction l with
 |nil=>rfl
 |cons x l ih=>simp[List.replicate_succ,ih]
theorem Cq{l:List Int}{b:Int}(h:b∈l):lV (.i .i64) (.int .i64 b) (l.map enc) (List.replicate l.length (.bool true))=some ((l.erase b).map enc,List.replicate (l.erase b).length (.bool true)):=by
 have:=Cp eS (fun x:Int=>x) (fun _=>.bool true) (fun _ _ h=>h) h;simp only[List.map_id',eH] at this;rw[EH,EH];exact this
theorem jn{s:aD}{no:Int}{i:Nat}(h:s.at no=some i):i∈s.aQ∧no=(i:Int)+1 :=
 ⟨List.mem_of_find?_eq_some h,by simpa using List.find?_some h⟩
theorem wk{s:aD}(g:Nat→I)(no:Int):fp (.i .i64) .nilp (.int .i64 no) (s.bz.map enc) (s.aQ.map g)=match s.at no with
   |some i=>some (g i,true)
   |none=>some (.nilp,false):=by
 have h:=Cb eS (fun i:Nat=>(i:Int)+1) g .nilp no s.aQ;rw[eH] at h;refine h.trans ?_;unfold aD.at;generalize s.aQ.find? (fun i:Nat=>decide (no=(i:Int)+1))=q;cases q <;>rfl
theorem Cr{s:aD}(g:Nat→I){i:Nat}(h:i∈s.aQ):lV (.i .i64) (.int .i64 ((i:Int)+1)) (s.bz.map enc) (s.aQ.map g)=some (({ s with aQ:=s.aQ.erase i } : aD).bz.map enc,(s.aQ.erase i).map g) :=
 Cp eS (fun i:Nat=>(i:Int)+1) g (fun a b h=>by omega) h
theorem pA{s:aD}{x:bg}{i:Nat}(h:s.on x=some i):s.at x.no=some i∧(s.b9 i).to=x.other∧(s.b9 i).aK=x.aK:=by
 simp only[aD.on] at h;split at h
 ·rename_i j hj;split at h
  ·rename_i bK;cases h;exact ⟨hj,bK⟩
  ·cases h
 ·cases h
def ed(s:aD)(x:bg):Option aD :=
 if x.kind=1 then if x.aK∈s.here∨s.eV x.aK=true then none else some { s with here:=gI s.here x.aK }
 else if x.kind=2 then if x.aK∈s.here then some { s with here:=s.here.erase x.aK } else none
 else if x.kind=3 then if x.aK∈s.here∧x.other≠s.ar∧x.no=(s.all.length:Int)+1 then
  some { s with here:=s.here.erase x.aK,all:=s.all++[⟨x.no,x.other,x.aK,false⟩],aQ:=s.aQ++[s.all.length] } else none
 else if x.kind=4 then match s.on x with
  |some i=>if (s.b9 i).dw then none else some { s with all:=s.all.set i { s.b9 i with dw:=true } }
  |none=>none
 else if x.kind=5 then match s.on x with
  |some i=>some { s with aQ:=s.aQ.erase i }
  |none=>none
 else if x.kind=6 then match s.on x with
  |some i=>if (s.b9 i).dw then some { s with aQ:=s.aQ.erase i,here:=gI s.here x.aK } else none
  |none=>none
 else if x.kind=7 then if s.unknown x=true∧x.aK∉s.here∧s.eV x.aK=false then some { s with bj:=s.bj++[x],here:=gI s.here x.aK } else none
 else if x.kind=8 then if s.unknown x=true then some { s with bj:=s.bj++[x] } else none
 else none
def gp(s:aD)(x:bg):Option aD:=if gA x then ed s x else none
structure cC (s:aD):Prop where
 cB:∀ i∈s.aQ,i<s.all.length
 iJ:s.aQ.Nodup
 af:s.here.Nodup
theorem ny{l:List Int}{b:Int}(h:l.Nodup):(gI l b).Nodup:=by
 unfold gI;split
 ·exact h
 ·rename_i hb;exact List.nodup_append.2 ⟨h,by simp,fun a ha c hc e=>by rw[zy3.1 hc] at e;exact hb (e▸ha)⟩
theorem cC.next{s s':aD}{x:bg}(h:cC s)(hn:ed s x=some s'):cC s'∧s'.ar=s.ar∧s'.all.length≤s.all.length+1∧(x.kind≠3→s'.all.length=s.all.length):=by
 obtain ⟨J,U,ah⟩:=h;simp only[ed] at hn;split at hn
 ·split at hn <;>cases hn
  exact ⟨⟨J,U,ny ah⟩,rfl,by simp,fun _=>rfl⟩
 split at hn
 ·split at hn <;>cases hn
  exact ⟨⟨J,U,ah.erase _⟩,rfl,by simp,fun _=>rfl⟩
 split at hn
 ·rename_i hk;split at hn <;>cases hn
  refine ⟨⟨fun i hi =>?_,?_,ah.erase _⟩,rfl,by simp,fun h=>absurd hk h⟩
  ·simp only[zy7,zy3] at hi;simp only[Z6,zx1];rcases hi with hi | hi
   ·have:=J i hi;omega
   ·omega
  ·exact List.nodup_append.2 ⟨U,by simp,fun a ha c hc e=>by rw[zy3.1 hc] at e;have:=J a ha;omega⟩
 split at hn
 ·split at hn
  ·split at hn <;>cases hn
   exact ⟨⟨fun i hi=>by simpa using J i hi,U,ah⟩,rfl,by simp,fun _=>by simp⟩
  ·cases hn
 split at hn
 ·split at hn <;>cases hn
  exact ⟨⟨fun i hi=>J i (List.mem_of_mem_erase hi),U.erase _,ah⟩,rfl,by simp,fun _=>rfl⟩
 split at hn
 ·split at hn
  ·split at hn <;>cases hn
   exact ⟨⟨fun i hi=>J i (List.mem_of_mem_erase hi),U.erase _,ny ah⟩,rfl,by simp,fun _=>rfl⟩
  ·cases hn
 split at hn
 ·split at hn <;>cases hn
  exact ⟨⟨J,U,ny ah⟩,rfl,by simp,fun _=>rfl⟩
 split at hn
 ·split at hn <;>cases hn
  exact ⟨⟨J,U,ah⟩,rfl,by simp,fun _=>rfl⟩
 cases hn
theorem gX{ts:List (Nat×I)}{os:List (Nat×aq)}{B:Nat}{ν:Nat→Nat}{s:aD}(hg:gu B ν s.all.length)(ao:∀ i∈s.aQ,i<s.all.length)(h:∀ n,aw (ee B ν s) n=true→aj os n=aj (ee B ν s) n):ya (av ts os) B ν s:=by
 have go:∀ n x,aj (ee B ν s) n=some x→(av ts os).o n=some x:=fun n x hx=>(h n (by simp[aw,hx])).trans hx;refine ⟨go _ _ fw,go _ _ fU,go _ _ gf,go _ _ gh,go _ _ oB,fun i hi =>?_,ao⟩;rw[go _ _ (jj hg hi)];simp[aD.b9,Z0,hi]
def fy:List PanicEntry:=[{ v:=.iface 144 (.agg #[]),recovered:=false }]
theorem WW(w:World):Calls Tryz.prog 114 #[.bool false] w fun e w'=>e=.panicked fy∧w'=w:=by
 go_enter Tryz.func114,Tryz.ntmps114
 go_wp2
 exact ⟨rfl,rfl,rfl⟩
theorem FE:ff Tryz.prog 114 fy [enc false] [] (fun os'=>os'=[]) :=
 ff.Yj zN (fun w D vs hv=>by
  have hv':aI w D dh [.bool false] vs:=hv;simp only[aI] at hv';obtain ⟨v,rest,cs,rfl,J,U,rfl⟩:=hv';have:v=.bool false:=ky (jx J U);subst this;exact WW w) rfl
theorem kE:bd Tryz.prog 114 [enc true] (.tuple []):=by
 refine bd.b6 Tryz.func114 zN Jf Kn (u8 rfl) (fun hwf W0 bG E1 =>?_);simp only[yP,Dk,bH];have R:=y6 @kB @bF
 repeat' ((first |refine ae.aF (by decide +kernel) rfl fun K hK =>?_|(refine .ay [0,3] hK ?_;clear hK K)|(with_reducible refine .done (hK _ ?_);clear hK K)|refine ae.of rfl ?_|(with_reducible refine aB.aE (fun h =>?_) (fun h =>?_) <;>try simp only[h])) <;>try simp only[aG,R,simprocAttr])
 all_goals clear R
 all_goals rfl
theorem YH:r4 Tryz.prog 113:=⟨zM,fun b T w x hb=>by
 refine callsDIn_of_wpSIn Tryz.func113 rfl trivial fun c₀ cs hu =>?_;apply wpSIn_seq;apply wpSIn_region;simp[wpOpsSIn,go_sem,recoverD,hu,Tryz.ntmps113,Exit.thenS];apply wpSIn_seq;apply wpSIn_region;simp[wpOpsSIn,go_sem,Exit.thenS];refine wpSIn_cond (t:=false) (by simp[Act.eval,Array.replicate]) ?_;simp only[Z2,if_false];refine wpSIn_of_wpIn rfl (wpIn_skip ?_);cases c₀
 simp_all[bodyPostS,results,Tryz.results113]⟩
theorem YG:rV Tryz.prog 113 fy:=⟨zM,fun b T w x hb=>by
 have hc:w.cell? ⟨b,0,none⟩=some (.bool x):=by simp[World.cell?,hb]
 have hz:w.frozen? ⟨b,0,none⟩=false:=by simp[World.frozen?,hb]
 have hta:∀ W,(Instr.typeAssert (.iface 144 (.agg #[])) 20 144 true).run Tryz.prog W=.ok (.tuple #[.agg #[],.bool true]) W:=fun W=>by
  simp[Instr.typeAssert,run_underlying Tryz.underlying144]
 refine callsDIn_of_wpSIn Tryz.func113 rfl trivial fun c₀ cs hu =>?_;apply wpSIn_seq;apply wpSIn_region;simp[wpOpsSIn,go_sem,recoverD,hu,Tryz.ntmps113,Exit.thenS,fy];apply wpSIn_seq;apply wpSIn_region;simp[wpOpsSIn,go_sem,Exit.thenS];refine wpSIn_cond (t:=true) (by simp[Act.eval,Array.replicate]) ?_;simp only[if_true];apply wpSIn_seq;apply wpSIn_seq;apply wpSIn_region;simp[wpOpsSIn,go_sem,Exit.thenS,hta];apply wpSIn_seq;apply wpSIn_region;simp[wpOpsSIn,go_sem,Exit.thenS];refine wpSIn_cond (t:=false) (by simp[Act.eval,Array.replicate]) ?_;simp only[Z2,if_false];refine wpSIn_of_wpIn rfl (wpIn_skip ?_);simp only[Exit.thenS];have hb2:(w.alloc (.cells #[] 144)).heap[b]?=some (.cells #[.bool x] T (0,0)):=(RowKit.Below.heap_alloc _ _ _ (fG hb)).trans hb;have hc2:(w.alloc (.cells #[] 144)).cell? ⟨b,0,none⟩=some (.bool x):=by simp[World.cell?,hb2]
 have hz2:(w.alloc (.cells #[] 144)).frozen? ⟨b,0,none⟩=false:=by simp[World.frozen?,hb2]
 apply wpSIn_region;simp[wpOpsSIn,go_sem,hc2,hz2,bodyPostS,results,Tryz.results113];exact ⟨rfl,_,p6 _ _,rfl⟩⟩
abbrev aL(s:aD):List (Nat×aq):=ee 1000000 (bD 1000000) s
def mX(s:aD):cG:=fun r os'=>r=.tuple []∧os'=aL s
def jX(s:aD)(os':List (Nat×aq)):Prop:=os'=aL s
theorem dJ(k:Nat):gu 1000000 (bD 1000000) k:=gu.bD _ _
theorem dA{s:aD} : ∀ m,aw (aL s) m=true→1000000≤m:=Zw (dJ _) fun i _=>by simp[bD];omega
theorem iq{s:aD}(hk:cC s){n:Nat}{x:aq}(h:aj (aL s) n=some x):x.only (aw (aL s))=true∧x.ej=true:=ly (dJ _) hk.cB h
theorem mc{ts:List (Nat×I)}{os os':List (Nat×aq)}{post:cG}(ho:∀ n,aw os' n=true→aj os n=aj os' n)(hg:∀ n x,aj os' n=some x→x.only (aw os')=true∧x.ej=true)(hp:post (jW []) os'):iY [] post (av ts os) :=
 ⟨os',[],fun n x hx=>⟨by show aj os n=some x;rw[ho n (by simp[aw,hx])];exact hx,hg n x hx⟩,trivial,hp⟩
theorem me(rs post)(A:ai):og rs post .normal A=iY rs post A:=rfl
theorem ik{Q:Exit→ai→Prop}{ts:List (Nat×I)}{os0:List (Nat×aq)}(hq:Q (.panic fy) (av ts os0)):nx Tryz.prog Q 114 [.bool false] (av ts os0) :=
 .mk false [] [] [enc false] fy _ FE ⟨fun m x h=>by simp[aj] at h,fun m m' h=>by simp[aw,aj] at h⟩ ⟨.inl ⟨rfl,rfl,rfl⟩,trivial⟩
  (fun os' h=>by subst h;exact ⟨fun m x h=>by simp[aj] at h,fun m m' h=>by simp[aw,aj] at h,fun m h=>h,fun m h=>by simp[aw,aj] at h,rfl,fun h=>by cases h⟩) (fun os' h=>by subst h;exact hq)
theorem hh{s:aD}(hk:cC s){ts:List (Nat×I)}{z:aq} : wX fy (jX s) (.panic fy) (av ts ((3,z)::aL s)) :=
 ⟨rfl,mc (fun n hn=>by have:=dA n hn;simp only[aj];rw[if_neg (by omega)]) (fun _ _ h=>iq hk h) ⟨rfl,rfl⟩⟩
theorem bC:(∀ (a b:Int) v,dD [.int .i64 a,.mref 1000001,.mref 1000002,.int .i64 b,.mref 1000003,.mref 1000004] 0 0 v=some v)∧(∀ (a b:Int) v,dD [.int .i64 a,.mref 1000001,.mref 1000002,.int .i64 b,.mref 1000003,.mref 1000004] 1 1 v=some v)∧(∀ (a b:Int) v,dD [.int .i64 a,.mref 1000001,.mref 1000002,.int .i64 b,.mref 1000003,.mref 1000004] 2 2 v=some v)∧(∀ (a b:Int) v,dD [.int .i64 a,.mref 1000001,.mref 1000002,.int .i64 b,.mref 1000003,.mref 1000004] 3 3 v=some v)∧(∀ (a b:Int) v,dD [.int .i64 a,.mref 1000001,.mref 1000002,.int .i64 b,.mref 1000003,.mref 1000004] 4 4 v=some v)∧(∀ (a b:Int) v,dD [.int .i64 a,.mref 1000001,.mref 1000002,.int .i64 b,.mref 1000003,.mref 1000004] 5 5 v=some v)∧(∀ a b c d e:I,(I.agg [a,.mref 1000001,b,c,d,e]).bw=false) :=
 ⟨fun _ _ _=>rfl,fun _ _ _=>rfl,fun _ _ _=>rfl,fun _ _ _=>rfl,fun _ _ _=>rfl,fun _ _ _=>rfl,fun a b c d e=>by simp[I.bw,I.ca]⟩
theorem FH(s:aD)(hk:cC s)(x:bg)(hy:x.aK∉s.here∧s.eV x.aK=false):cS Tryz.prog 125 [.ptr 1000000 [],enc x] (aL s) (mX { s with here:=gI s.here x.aK }):=by
 refine cS.b6 Tryz.func125 zO Ad Kp (u8 rfl) (u8 rfl) dA (fun hwf W0 bG E1 =>?_);simp only[uM,Dm,bH,Z1];clear hwf;have n3:aj (aL s) 3=none:=eG (.inl (by omega)) fun i _=>by simp[bD];omega
 have aY:aj (aL s) 1000000=some (.box (.agg [.int .i64 s.ar,.mref 1000001,.mref 1000002,.int .i64 s.all.length,.mref 1000003,.mref 1000004])):=fw;have J:aj (aL s) 1000001=some (.bt (s.here.map enc) (List.replicate s.here.length (.bool true))):=fU;have U:aj (aL s) 1000002=some (.bt (s.bz.map enc) (dW (bD 1000000) s.aQ)):=gf;have ah:aj (aL s) 1000003=some (.bt (s.dp.map enc) (s.bj.map enc)):=gh;have hfin:∀ ts,cW (av ts ((3,.box (enc x))::aL s)) 9 (.agg [.int .i64 s.ar,.mref 1000001,.mref 1000002,.int .i64 s.all.length,.mref 1000003,.mref 1000004])=some (fT s):=fun ts =>
  gU (gX (dJ _) hk.cB fun n hn=>by have:=dA n hn;simp only[aj];rw[if_neg (by omega)]) 4
 have hlk:=gn eS x.aK s.here;rw[eH] at hlk;have q1:decide (x.aK∈s.here)=false:=decide_eq_false hy.1;have hF:=pW s x.aK;rw[hy.2] at hF;have hup:=wF eS x.aK s.here;rw[eH] at hup;have R:=y6 @n3 (y6 @aY (y6 @J (y6 @hfin (y6 @hlk (y6 @q1 (y6 @hup (y6 @bC (y6 @bA aC))))))))
 repeat' ((first |(with_reducible refine .guard (fun hb =>?_) (fun hb =>?_) <;>try simp only[hb])|refine ae.aF (by decide +kernel) rfl fun K hK =>?_|refine .flat _ (hF) rfl ?_|refine .flat _ (kE) rfl ?_|(refine .ay [0,1,3] hK ?_;clear hK K)|(with_reducible refine .done (hK _ ?_);clear hK K)|refine ae.of rfl ?_|(with_reducible refine aB.aE (fun h =>?_) (fun h =>?_) <;>try simp only[h])) <;>try simp only[aG,R,simprocAttr])
 all_goals clear R
 rw[me];refine mc (fun n hn =>?_) (fun _ _ h=>iq (s := { s with here:=gI s.here x.aK }) ⟨hk.cB,hk.iJ,ny hk.af⟩ h) ⟨rfl,rfl⟩;have:=dA n hn;simp only[aL,ee,aj];rw[if_neg (show ¬ n=3 by omega)]
 (repeat' split) <;>first | rfl | omega
theorem FI(s:aD)(hk:cC s)(x:bg)(hy:x.aK∈s.here∨s.eV x.aK=true):ff Tryz.prog 125 fy [.ptr 1000000 [],enc x] (aL s) (jX s):=by
 refine ff.mk Tryz.func125 zO Ad (u8 rfl) (u8 rfl) dA (fun hwf W0 bG E1 =>?_);simp only[uM,bH,Z1];clear hwf;have n3:aj (aL s) 3=none:=eG (.inl (by omega)) fun i _=>by simp[bD];omega
 have aY:aj (aL s) 1000000=some (.box (.agg [.int .i64 s.ar,.mref 1000001,.mref 1000002,.int .i64 s.all.length,.mref 1000003,.mref 1000004])):=fw;have J:aj (aL s) 1000001=some (.bt (s.here.map enc) (List.replicate s.here.length (.bool true))):=fU;have U:aj (aL s) 1000002=some (.bt (s.bz.map enc) (dW (bD 1000000) s.aQ)):=gf;have ah:aj (aL s) 1000003=some (.bt (s.dp.map enc) (s.bj.map enc)):=gh;have hfin:∀ ts,cW (av ts ((3,.box (enc x))::aL s)) 9 (.agg [.int .i64 s.ar,.mref 1000001,.mref 1000002,.int .i64 s.all.length,.mref 1000003,.mref 1000004])=some (fT s):=fun ts =>
  gU (gX (dJ _) hk.cB fun n hn=>by have:=dA n hn;simp only[aj];rw[if_neg (by omega)]) 4
 have hlk:=gn eS x.aK s.here;rw[eH] at hlk;have hF:=pW s x.aK;rcases q1:decide (x.aK∈s.here)
 ·have q2:s.eV x.aK=true:=hy.resolve_left (by simpa using q1);rw[q2] at hF;have R:=y6 @n3 (y6 @aY (y6 @J (y6 @hfin (y6 @hlk (y6 @q1 (y6 @bC (y6 @bA aC)))))))
  repeat' ((first |(with_reducible refine .guard (fun hb =>?_) (fun hb =>?_) <;>try simp only[hb])|(refine ae.jA (gs:=qn) 15 [] [] [0,1,2,3,4,5,6,7,8,9,10,11,12,13,14] (by decide +kernel) rfl (cU.of (by simp[fi])) fun K hK =>?_;simp only[eU,qn,gy,Z7,zy5,List.take_zero,zz6,zz7,R,simprocAttr])|refine ae.aF (by decide +kernel) rfl fun K hK =>?_|refine .flat _ (hF) rfl ?_|(refine .ay [0,1,3] hK ?_;clear hK K)|(with_reducible refine .done (hK _ ?_);clear hK K)|refine ae.of rfl ?_|(with_reducible refine aB.aE (fun h =>?_) (fun h =>?_) <;>try simp only[h])) <;>try simp only[aG,R,simprocAttr])
  all_goals clear R
  exact .call (ik (hh hk))
 ·have R:=y6 @n3 (y6 @aY (y6 @J (y6 @hfin (y6 @hlk (y6 @q1 (y6 @bC (y6 @bA aC)))))))
  repeat' ((first |(with_reducible refine .guard (fun hb =>?_) (fun hb =>?_) <;>try simp only[hb])|(refine ae.jA (gs:=qn) 15 [] [] [0,1,2,3,4,5,6,7,8,9,10,11,12,13,14] (by decide +kernel) rfl (cU.of (by simp[fi])) fun K hK =>?_;simp only[eU,qn,gy,Z7,zy5,List.take_zero,zz6,zz7,R,simprocAttr])|refine ae.aF (by decide +kernel) rfl fun K hK =>?_|refine .flat _ (hF) rfl ?_|(refine .ay [0,1,3] hK ?_;clear hK K)|(with_reducible refine .done (hK _ ?_);clear hK K)|refine ae.of rfl ?_|(with_reducible refine aB.aE (fun h =>?_) (fun h =>?_) <;>try simp only[h])) <;>try simp only[aG,R,simprocAttr])
  all_goals clear R
  exact .call (ik (hh hk))
theorem FJ(s:aD)(hk:cC s)(x:bg)(hy:x.aK∈s.here):cS Tryz.prog 126 [.ptr 1000000 [],enc x] (aL s) (mX { s with here:=s.here.erase x.aK }):=by
 refine cS.b6 Tryz.func126 zP Ae Kq (u8 rfl) (u8 rfl) dA (fun hwf W0 bG E1 =>?_);simp only[uN,Dn,bH,Z1];clear hwf;have n3:aj (aL s) 3=none:=eG (.inl (by omega)) fun i _=>by simp[bD];omega
 have aY:aj (aL s) 1000000=some (.box (.agg [.int .i64 s.ar,.mref 1000001,.mref 1000002,.int .i64 s.all.length,.mref 1000003,.mref 1000004])):=fw;have J:aj (aL s) 1000001=some (.bt (s.here.map enc) (List.replicate s.here.length (.bool true))):=fU;have U:aj (aL s) 1000002=some (.bt (s.bz.map enc) (dW (bD 1000000) s.aQ)):=gf;have ah:aj (aL s) 1000003=some (.bt (s.dp.map enc) (s.bj.map enc)):=gh;have hfin:∀ ts,cW (av ts ((3,.box (enc x))::aL s)) 9 (.agg [.int .i64 s.ar,.mref 1000001,.mref 1000002,.int .i64 s.all.length,.mref 1000003,.mref 1000004])=some (fT s):=fun ts =>
  gU (gX (dJ _) hk.cB fun n hn=>by have:=dA n hn;simp only[aj];rw[if_neg (by omega)]) 4
 have hlk:=gn eS x.aK s.here;rw[eH] at hlk;have q1:decide (x.aK∈s.here)=true:=decide_eq_true hy;have hdl:=Cq hy;have R:=y6 @n3 (y6 @aY (y6 @J (y6 @hfin (y6 @hlk (y6 @q1 (y6 @hdl (y6 @bC (y6 @bA aC))))))))
 repeat' ((first |refine ae.aF (by decide +kernel) rfl fun K hK =>?_|refine .flat _ (kE) rfl ?_|(refine .ay [0,1,3] hK ?_;clear hK K)|(with_reducible refine .done (hK _ ?_);clear hK K)|refine ae.of rfl ?_|(with_reducible refine aB.aE (fun h =>?_) (fun h =>?_) <;>try simp only[h])) <;>try simp only[aG,R,simprocAttr])
 all_goals clear R
 rw[me];refine mc (fun n hn =>?_) (fun _ _ h=>iq (s := { s with here:=s.here.erase x.aK }) ⟨hk.cB,hk.iJ,hk.af.erase _⟩ h) ⟨rfl,rfl⟩;have:=dA n hn;simp only[aL,ee,aj];rw[if_neg (show ¬ n=3 by omega)]
 (repeat' split) <;>first | rfl | omega
theorem FK(s:aD)(hk:cC s)(x:bg)(hy:x.aK∉s.here):ff Tryz.prog 126 fy [.ptr 1000000 [],enc x] (aL s) (jX s):=by
 refine ff.mk Tryz.func126 zP Ae (u8 rfl) (u8 rfl) dA (fun hwf W0 bG E1 =>?_);simp only[uN,bH,Z1];clear hwf;have n3:aj (aL s) 3=none:=eG (.inl (by omega)) fun i _=>by simp[bD];omega
 have aY:aj (aL s) 1000000=some (.box (.agg [.int .i64 s.ar,.mref 1000001,.mref 1000002,.int .i64 s.all.length,.mref 1000003,.mref 1000004])):=fw;have J:aj (aL s) 1000001=some (.bt (s.here.map enc) (List.replicate s.here.length (.bool true))):=fU;have U:aj (aL s) 1000002=some (.bt (s.bz.map enc) (dW (bD 1000000) s.aQ)):=gf;have ah:aj (aL s) 1000003=some (.bt (s.dp.map enc) (s.bj.map enc)):=gh;have hfin:∀ ts,cW (av ts ((3,.box (enc x))::aL s)) 9 (.agg [.int .i64 s.ar,.mref 1000001,.mref 1000002,.int .i64 s.all.length,.mref 1000003,.mref 1000004])=some (fT s):=fun ts =>
  gU (gX (dJ _) hk.cB fun n hn=>by have:=dA n hn;simp only[aj];rw[if_neg (by omega)]) 4
 have hlk:=gn eS x.aK s.here;rw[eH] at hlk;have q1:decide (x.aK∈s.here)=false:=decide_eq_false hy;have R:=y6 @n3 (y6 @aY (y6 @J (y6 @hfin (y6 @hlk (y6 @q1 (y6 @bC (y6 @bA aC)))))))
 repeat' ((first |(refine ae.jA (gs:=vL) 7 [] [] [0,1,2,3,4,5,6] (by decide +kernel) rfl (cU.of (by simp[fi])) fun K hK =>?_;simp only[eU,vL,gy,Z7,zy5,List.take_zero,zz6,zz7,R,simprocAttr])|refine ae.aF (by decide +kernel) rfl fun K hK =>?_|(refine .ay [0,1,3] hK ?_;clear hK K)|(with_reducible refine .done (hK _ ?_);clear hK K)|refine ae.of rfl ?_|(with_reducible refine aB.aE (fun h =>?_) (fun h =>?_) <;>try simp only[h])) <;>try simp only[aG,R,simprocAttr])
 all_goals clear R
 exact .call (ik (hh hk))
def C0(s:aD)(i:Nat):cG:=fun r os'=>r=.ptr (bD 1000000 i) []∧os'=aL s
theorem jU:(∀ i,(3=bD 1000000 i)=False)∧(∀ i,(bD 1000000 i=3)=False):=⟨fun i=>by simp[bD];omega,fun i=>by simp[bD];omega⟩
theorem pT(s:aD)(hk:cC s)(x:bg)(i:Nat)(hy:s.on x=some i):cS Tryz.prog 151 [.ptr 1000000 [],enc x] (aL s) (C0 s i):=by
 refine cS.b6 Tryz.func151 zW Al KB (u8 rfl) (u8 rfl) dA (fun hwf W0 bG E1 =>?_);simp only[uU,Dz,bH,Z1];clear hwf;have n3:aj (aL s) 3=none:=eG (.inl (by omega)) fun i _=>by simp[bD];omega
 have aY:aj (aL s) 1000000=some (.box (.agg [.int .i64 s.ar,.mref 1000001,.mref 1000002,.int .i64 s.all.length,.mref 1000003,.mref 1000004])):=fw;have J:aj (aL s) 1000001=some (.bt (s.here.map enc) (List.replicate s.here.length (.bool true))):=fU;have U:aj (aL s) 1000002=some (.bt (s.bz.map enc) (dW (bD 1000000) s.aQ)):=gf;have ah:aj (aL s) 1000003=some (.bt (s.dp.map enc) (s.bj.map enc)):=gh;have hfin:∀ ts,cW (av ts ((3,.box (enc x))::aL s)) 9 (.agg [.int .i64 s.ar,.mref 1000001,.mref 1000002,.int .i64 s.all.length,.mref 1000003,.mref 1000004])=some (fT s):=fun ts =>
  gU (gX (dJ _) hk.cB fun n hn=>by have:=dA n hn;simp only[aj];rw[if_neg (by omega)]) 4
 have hlk:=gn eS x.aK s.here;rw[eH] at hlk;obtain ⟨ha,hb1,hb2⟩:=pA hy;have hil:=(jn ha).1;have hlt:=hk.cB i hil;have hlr:=wk (s:=s) (fun i=>.ptr (bD 1000000 i) []) x.no;have hpt:(s.aQ.map fun i=>I.ptr (bD 1000000 i) [])=dW (bD 1000000) s.aQ:=rfl;rw[hpt] at hlr;rw[ha] at hlr;simp only at hlr;have hb:aj (aL s) (bD 1000000 i)=some (.box (enc (s.b9 i))):=by
  have:=jj (dJ s.all.length) (B:=1000000) hlt;rw[this];simp[aD.b9,Z0,hlt]
 have q1:((s.b9 i).to==x.other)=true:=by simpa using hb1
 have q2:((s.b9 i).aK==x.aK)=true:=by simpa using hb2
 have R:=y6 @n3 (y6 @aY (y6 @U (y6 @hb (y6 @hlr (y6 @q1 (y6 @q2 (y6 @jU (y6 @bC (y6 @bA aC)))))))))
 repeat' ((first |(with_reducible refine .guard (fun hb =>?_) (fun hb =>?_) <;>try simp only[hb])|refine ae.aF (by decide +kernel) rfl fun K hK =>?_|refine .flat _ (kE) rfl ?_|(refine .ay [0,1,3,4,5,6] hK ?_;clear hK K)|(with_reducible refine .done (hK _ ?_);clear hK K)|refine ae.of rfl ?_|(with_reducible refine aB.aE (fun h =>?_) (fun h =>?_) <;>try simp only[h])) <;>try simp only[aG,R,simprocAttr])
 all_goals clear R
 refine ⟨aL s,[.ptr (bD 1000000 i) []],fun n y hy=>⟨?_,iq hk hy⟩,⟨⟨_,rfl,.inl ⟨rfl,rfl,?_⟩⟩,trivial⟩,rfl,rfl⟩
 ·have:=dA (s:=s) n (by simp[aw,hy])
  show aj ((3,_)::aL s) n=_
  simp only[aj];rw[if_neg (by omega)];exact hy
 ·exact (dP (dJ _)).2 (.inr ⟨i,hlt,rfl⟩)
theorem FY(s:aD)(hk:cC s)(x:bg)(hy:s.on x=none):ff Tryz.prog 151 fy [.ptr 1000000 [],enc x] (aL s) (jX s):=by
 refine ff.mk Tryz.func151 zW Al (u8 rfl) (u8 rfl) dA (fun hwf W0 bG E1 =>?_);simp only[uU,bH,Z1];clear hwf;have n3:aj (aL s) 3=none:=eG (.inl (by omega)) fun i _=>by simp[bD];omega
 have aY:aj (aL s) 1000000=some (.box (.agg [.int .i64 s.ar,.mref 1000001,.mref 1000002,.int .i64 s.all.length,.mref 1000003,.mref 1000004])):=fw;have J:aj (aL s) 1000001=some (.bt (s.here.map enc) (List.replicate s.here.length (.bool true))):=fU;have U:aj (aL s) 1000002=some (.bt (s.bz.map enc) (dW (bD 1000000) s.aQ)):=gf;have ah:aj (aL s) 1000003=some (.bt (s.dp.map enc) (s.bj.map enc)):=gh;have hfin:∀ ts,cW (av ts ((3,.box (enc x))::aL s)) 9 (.agg [.int .i64 s.ar,.mref 1000001,.mref 1000002,.int .i64 s.all.length,.mref 1000003,.mref 1000004])=some (fT s):=fun ts =>
  gU (gX (dJ _) hk.cB fun n hn=>by have:=dA n hn;simp only[aj];rw[if_neg (by omega)]) 4
 have hlk:=gn eS x.aK s.here;rw[eH] at hlk;have hlr:=wk (s:=s) (fun i=>.ptr (bD 1000000 i) []) x.no;have hpt:(s.aQ.map fun i=>I.ptr (bD 1000000 i) [])=dW (bD 1000000) s.aQ:=rfl;rw[hpt] at hlr;cases ha:s.at x.no with
 |none =>
  rw[ha] at hlr;simp only at hlr;have R:=y6 @n3 (y6 @aY (y6 @U (y6 @hlr (y6 @jU (y6 @bC (y6 @bA aC))))))
  repeat' ((first |(with_reducible refine .guard (fun hb =>?_) (fun hb =>?_) <;>try simp only[hb])|(refine ae.jA (gs:=nM) 19 [] [] [0,1,2,3,4,5,6,7,8,9,10,11,12,13,14,15,16,17,18] (by decide +kernel) rfl (cU.of (by simp[fi])) fun K hK =>?_;simp only[eU,nM,gy,Z7,zy5,List.take_zero,zz6,zz7,R,simprocAttr])|refine ae.aF (by decide +kernel) rfl fun K hK =>?_|(refine .ay [0,1,3,4,5,6] hK ?_;clear hK K)|(with_reducible refine .done (hK _ ?_);clear hK K)|refine ae.of rfl ?_|(with_reducible refine aB.aE (fun h =>?_) (fun h =>?_) <;>try simp only[h])) <;>try simp only[aG,R,simprocAttr])
  all_goals clear R
  exact .call (ik (hh hk))
 |some i =>
  have hil:=(jn ha).1;have hlt:=hk.cB i hil;rw[ha] at hlr;simp only at hlr;have hb:aj (aL s) (bD 1000000 i)=some (.box (enc (s.b9 i))):=by
   have:=jj (dJ s.all.length) (B:=1000000) hlt;rw[this];simp[aD.b9,Z0,hlt]
  rcases q1:((s.b9 i).to==x.other)
  ·have R:=y6 @n3 (y6 @aY (y6 @U (y6 @hb (y6 @hlr (y6 @q1 (y6 @jU (y6 @bC (y6 @bA aC))))))))
   repeat' ((first |(with_reducible refine .guard (fun hb =>?_) (fun hb =>?_) <;>try simp only[hb])|(refine ae.jA (gs:=nM) 19 [] [] [0,1,2,3,4,5,6,7,8,9,10,11,12,13,14,15,16,17,18] (by decide +kernel) rfl (cU.of (by simp[fi])) fun K hK =>?_;simp only[eU,nM,gy,Z7,zy5,List.take_zero,zz6,zz7,R,simprocAttr])|refine ae.aF (by decide +kernel) rfl fun K hK =>?_|(refine .ay [0,1,3,4,5,6] hK ?_;clear hK K)|(with_reducible refine .done (hK _ ?_);clear hK K)|refine ae.of rfl ?_|(with_reducible refine aB.aE (fun h =>?_) (fun h =>?_) <;>try simp only[h])) <;>try simp only[aG,R,simprocAttr])
   all_goals clear R
   exact .call (ik (hh hk))
  ·have q2:((s.b9 i).aK==x.aK)=false:=by
    simp only[aD.on,ha] at hy;split at hy
    ·cases hy
    ·rename_i h;simp only[beq_iff_eq] at q1;simp only[beq_eq_false_iff_ne,ne_eq];exact fun e=>h ⟨q1,e⟩
   have R:=y6 @n3 (y6 @aY (y6 @U (y6 @hb (y6 @hlr (y6 @q1 (y6 @q2 (y6 @jU (y6 @bC (y6 @bA aC)))))))))
   repeat' ((first |(with_reducible refine .guard (fun hb =>?_) (fun hb =>?_) <;>try simp only[hb])|(refine ae.jA (gs:=nM) 19 [] [] [0,1,2,3,4,5,6,7,8,9,10,11,12,13,14,15,16,17,18] (by decide +kernel) rfl (cU.of (by simp[fi])) fun K hK =>?_;simp only[eU,nM,gy,Z7,zy5,List.take_zero,zz6,zz7,R,simprocAttr])|refine ae.aF (by decide +kernel) rfl fun K hK =>?_|(refine .ay [0,1,3,4,5,6] hK ?_;clear hK K)|(with_reducible refine .done (hK _ ?_);clear hK K)|refine ae.of rfl ?_|(with_reducible refine aB.aE (fun h =>?_) (fun h =>?_) <;>try simp only[h])) <;>try simp only[aG,R,simprocAttr])
   all_goals clear R
   exact .call (ik (hh hk))
theorem yr{ts:List (Nat×I)}{s:aD}{z:aq} : av ts (aL s++((3,z)::aL s))=av ts ((3,z)::aL s):=by
 simp only[av,ai.mk.injEq,true_and]
 funext n
 rw[fH];cases h:aj (aL s) n with
 |none=>rfl
 |some y =>
  have:=dA (s:=s) n (by simp[aw,h]);simp only[aj];rw[if_neg (by omega),h]
theorem BL{s:aD}(hk:cC s){z:aq} : gl [] (aL s) ((3,z)::aL s):=by
 refine ⟨fun m y hy=>⟨?_,iq hk hy⟩,fun m m' _ _ h=>h⟩;have hm:=dA (s:=s) m (by simp[aw,hy]);rw[aq.kr (ρ:=bI []) (fun n=>rfl)]
 show aj ((3,z)::aL s) m=some y
 simp only[aj];rw[if_neg (by omega)];exact hy
theorem uI{s:aD}(hk:cC s){os0:List (Nat×aq)}{r:I}(hr:r.only (aw (aL s))=true):gG false [] (aL s) os0 r (aL s) :=
 ⟨fun _ _ hy=>⟨(iq hk hy).1,(iq hk hy).2,fun h=>by cases h⟩,fun m m' _ _ h=>h,fun m hm=>hm,(fun m a b=>by rw[a] at b;cases b),hr,(fun h=>by cases h)⟩
theorem sj{s:aD}{x:bg}{A:ai} : gR false A [] (aL s) [.ptr 1000000 [],enc x] [.ptr 1000000 [],enc x] :=
 ⟨.inl ⟨rfl,(dP (dJ _)).2 (.inl (by omega)),rfl⟩,.inl ⟨(kT _ _).symm,cA _ _,eh _⟩,trivial⟩
theorem aR.ry{K:ai→Prop}{s:aD}{x:bg}{i:Nat}{avs:List I}{a1 a2:Option (List I)}{dst:Option Nat}{rest:List aH}{ts:List (Nat×I)}{z:aq}(hk:cC s)(hil:i<s.all.length)(hc:cS Tryz.prog 151 [.ptr 1000000 [],enc x] (aL s) (C0 s i))(hav:avs=[.ptr 1000000 [],enc x])
  (h:aR Tryz.prog dy false K (az rest ((av ts ((3,z)::aL s)).aT dst (.ptr (bD 1000000 i) [])))):aR Tryz.prog dy false K (.call 151 avs a1 a2 dst rest (av ts ((3,z)::aL s))):=by
 subst hav;refine .bO false [] (aL s) [.ptr 1000000 [],enc x] _ rfl hc (BL hk) sj ?_ ?_
 ·rintro r os' ⟨rfl,rfl⟩;exact uI hk ((dP (dJ _)).2 (.inr ⟨i,hil,rfl⟩))
 ·rintro r os' ⟨rfl,rfl⟩;rw[l9,yr];exact h
theorem wY{Q:Exit→ai→Prop}{s:aD}(hk:cC s){x:bg}(hy:s.on x=none){ts:List (Nat×I)}{z:aq}(hq:Q (.panic fy) (av ts ((3,z)::aL s))):nx Tryz.prog Q 151 [.ptr 1000000 [],enc x] (av ts ((3,z)::aL s)) :=
 .mk false [] (aL s) [.ptr 1000000 [],enc x] fy _ (FY s hk x hy) (BL hk) sj (fun os' h=>by cases h;exact uI hk rfl) (fun os' h=>by cases h;rw[l9,yr];exact hq)
theorem FO(s:aD)(hk:cC s)(x:bg)(i:Nat)(hy:s.on x=some i):cS Tryz.prog 129 [.ptr 1000000 [],enc x] (aL s) (mX { s with aQ:=s.aQ.erase i }):=by
 refine cS.b6 Tryz.func129 zS Ah Kt (u8 rfl) (u8 rfl) dA (fun hwf W0 bG E1 =>?_);simp only[uQ,Dr,bH,Z1];clear hwf;have n3:aj (aL s) 3=none:=eG (.inl (by omega)) fun i _=>by simp[bD];omega
 have aY:aj (aL s) 1000000=some (.box (.agg [.int .i64 s.ar,.mref 1000001,.mref 1000002,.int .i64 s.all.length,.mref 1000003,.mref 1000004])):=fw;have J:aj (aL s) 1000001=some (.bt (s.here.map enc) (List.replicate s.here.length (.bool true))):=fU;have U:aj (aL s) 1000002=some (.bt (s.bz.map enc) (dW (bD 1000000) s.aQ)):=gf;have ah:aj (aL s) 1000003=some (.bt (s.dp.map enc) (s.bj.map enc)):=gh;have hfin:∀ ts,cW (av ts ((3,.box (enc x))::aL s)) 9 (.agg [.int .i64 s.ar,.mref 1000001,.mref 1000002,.int .i64 s.all.length,.mref 1000003,.mref 1000004])=some (fT s):=fun ts =>
  gU (gX (dJ _) hk.cB fun n hn=>by have:=dA n hn;simp only[aj];rw[if_neg (by omega)]) 4
 have hlk:=gn eS x.aK s.here;rw[eH] at hlk;obtain ⟨ha,hb1,hb2⟩:=pA hy;have hil:=(jn ha).1;have hno:=(jn ha).2;have hlt:=hk.cB i hil;have hb:aj (aL s) (bD 1000000 i)=some (.box (enc (s.b9 i))):=by
  have:=jj (dJ s.all.length) (B:=1000000) hlt;rw[this];simp[aD.b9,Z0,hlt]
 have hdl:=Cr (s:=s) (fun i=>.ptr (bD 1000000 i) []) hil;rw[←hno] at hdl;have hpt:(s.aQ.map fun i=>I.ptr (bD 1000000 i) [])=dW (bD 1000000) s.aQ:=rfl;rw[hpt] at hdl;have R:=y6 @n3 (y6 @aY (y6 @U (y6 @hb (y6 @hdl (y6 @jU (y6 @bC (y6 @bA aC)))))))
 repeat' ((first |refine ae.aF (by decide +kernel) rfl fun K hK =>?_|refine aR.ry hk hlt (pT s hk x i hy) rfl ?_|(refine .ay [0,1,3] hK ?_;clear hK K)|(with_reducible refine .done (hK _ ?_);clear hK K)|refine ae.of rfl ?_|(with_reducible refine aB.aE (fun h =>?_) (fun h =>?_) <;>try simp only[h])) <;>try simp only[aG,R,simprocAttr])
 all_goals clear R
 rw[me];refine mc (fun n hn =>?_) (fun _ _ h=>iq (s := { s with aQ:=s.aQ.erase i }) ⟨fun j hj=>hk.cB j (List.mem_of_mem_erase hj),hk.iJ.erase _,hk.af⟩ h) ⟨rfl,rfl⟩;have:=dA n hn;simp only[aL,ee,aj];rw[if_neg (show ¬ n=3 by omega)]
 (repeat' split) <;>first | rfl | omega
theorem FP(s:aD)(hk:cC s)(x:bg)(hy:s.on x=none):ff Tryz.prog 129 fy [.ptr 1000000 [],enc x] (aL s) (jX s):=by
 refine ff.mk Tryz.func129 zS Ah (u8 rfl) (u8 rfl) dA (fun hwf W0 bG E1 =>?_);simp only[uQ,bH,Z1];clear hwf;have n3:aj (aL s) 3=none:=eG (.inl (by omega)) fun i _=>by simp[bD];omega
 have aY:aj (aL s) 1000000=some (.box (.agg [.int .i64 s.ar,.mref 1000001,.mref 1000002,.int .i64 s.all.length,.mref 1000003,.mref 1000004])):=fw;have J:aj (aL s) 1000001=some (.bt (s.here.map enc) (List.replicate s.here.length (.bool true))):=fU;have U:aj (aL s) 1000002=some (.bt (s.bz.map enc) (dW (bD 1000000) s.aQ)):=gf;have ah:aj (aL s) 1000003=some (.bt (s.dp.map enc) (s.bj.map enc)):=gh;have hfin:∀ ts,cW (av ts ((3,.box (enc x))::aL s)) 9 (.agg [.int .i64 s.ar,.mref 1000001,.mref 1000002,.int .i64 s.all.length,.mref 1000003,.mref 1000004])=some (fT s):=fun ts =>
  gU (gX (dJ _) hk.cB fun n hn=>by have:=dA n hn;simp only[aj];rw[if_neg (by omega)]) 4
 have hlk:=gn eS x.aK s.here;rw[eH] at hlk;have R:=y6 @n3 (y6 @aY (y6 @U (y6 @jU (y6 @bC (y6 @bA aC)))))
 repeat' ((first |(refine ae.od (gs:=Bf) (gs1:=[_,_]) rfl fun K hK =>?_)|refine ae.aF (by decide +kernel) rfl fun K hK =>?_|(refine .ay [0,1,3] hK ?_;clear hK K)|(with_reducible refine .done (hK _ ?_);clear hK K)|refine ae.of rfl ?_|(with_reducible refine aB.aE (fun h =>?_) (fun h =>?_) <;>try simp only[h])) <;>try simp only[aG,R,simprocAttr])
 all_goals clear R
 exact .call (wY hk hy (hh hk))
theorem I0{s:aD}{i:Nat}(hlt:i<s.all.length)(r:dc){z:aq} : ∀ n,1000000≤n→aj ((bD 1000000 i,.box (enc r))::(3,z)::aL s) n=aj (aL { s with all:=s.all.set i r }) n:=by
 intro n hn;have hlen:(s.all.set i r).length=s.all.length:=List.length_set;simp only[aj];rw[if_neg (show ¬ n=3 by omega)];rcases xM 1000000 (bD 1000000) s.all.length n with h | h | h | h | h | ⟨h,j,hj,e⟩ | ⟨h,hno⟩
 ·subst h;rw[if_neg (by simp[bD];omega)];simp only[aL,fw,hlen]
 ·subst h;rw[if_neg (by simp[bD];omega)];simp only[aL,fU]
 ·subst h;rw[if_neg (by simp[bD];omega)];simp only[aL,gf];rfl
 ·subst h;rw[if_neg (by simp[bD];omega)];simp only[aL,gh];rfl
 ·subst h;rw[if_neg (by simp[bD];omega)];simp only[aL,oB]
 ·subst e;have J:=jj (B:=1000000) (ν:=bD 1000000) (s:=s) (dJ _) hj;have U:=jj (B:=1000000) (ν:=bD 1000000) (s := { s with all:=s.all.set i r }) (dJ _) (i:=j) (by simpa using hj);simp only[aL,J,U];by_cases e:j=i
  ·subst e;simp
  ·have:¬ bD 1000000 j=bD 1000000 i:=by simp[bD];omega
   rw[if_neg this];simp[Ne.symm e]
 ·have J:=eG (B:=1000000) (ν:=bD 1000000) (s:=s) h hno;have U:=eG (B:=1000000) (ν:=bD 1000000) (s := { s with all:=s.all.set i r }) h (by simpa using hno);simp only[aL,J,U];rw[if_neg (hno i hlt)]
theorem FN(s:aD)(hk:cC s)(x:bg)(i:Nat)(hy:s.on x=some i)(hc:(s.b9 i).dw=false):cS Tryz.prog 128 [.ptr 1000000 [],enc x] (aL s) (mX { s with all:=s.all.set i { s.b9 i with dw:=true } }):=by
 refine cS.b6 Tryz.func128 zR Ag Ks (u8 rfl) (u8 rfl) dA (fun hwf W0 bG E1 =>?_);simp only[uP,Dq,bH,Z1];clear hwf;have n3:aj (aL s) 3=none:=eG (.inl (by omega)) fun i _=>by simp[bD];omega
 have aY:aj (aL s) 1000000=some (.box (.agg [.int .i64 s.ar,.mref 1000001,.mref 1000002,.int .i64 s.all.length,.mref 1000003,.mref 1000004])):=fw;have J:aj (aL s) 1000001=some (.bt (s.here.map enc) (List.replicate s.here.length (.bool true))):=fU;have U:aj (aL s) 1000002=some (.bt (s.bz.map enc) (dW (bD 1000000) s.aQ)):=gf;have ah:aj (aL s) 1000003=some (.bt (s.dp.map enc) (s.bj.map enc)):=gh;have hfin:∀ ts,cW (av ts ((3,.box (enc x))::aL s)) 9 (.agg [.int .i64 s.ar,.mref 1000001,.mref 1000002,.int .i64 s.all.length,.mref 1000003,.mref 1000004])=some (fT s):=fun ts =>
  gU (gX (dJ _) hk.cB fun n hn=>by have:=dA n hn;simp only[aj];rw[if_neg (by omega)]) 4
 have hlk:=gn eS x.aK s.here;rw[eH] at hlk;obtain ⟨ha,hb1,hb2⟩:=pA hy;have hil:=(jn ha).1;have hno:=(jn ha).2;have hlt:=hk.cB i hil;have hb:aj (aL s) (bD 1000000 i)=some (.box (enc (s.b9 i))):=by
  have:=jj (dJ s.all.length) (B:=1000000) hlt;rw[this];simp[aD.b9,Z0,hlt]
 have hst:∀ A rest,db A none (bD 1000000 i) [3] (enc (s.b9 i)) (.bool true) rest (some (.bool false))=az rest (A.aS (bD 1000000 i) (.box (enc { s.b9 i with dw:=true }))):=fun A rest=>dE rfl rfl rfl;have R:=y6 @n3 (y6 @aY (y6 @U (y6 @hb (y6 @hc (y6 @hst (y6 @jU (y6 @bC (y6 @bA aC))))))))
 repeat' ((first |refine ae.aF (by decide +kernel) rfl fun K hK =>?_|refine aR.ry hk hlt (pT s hk x i hy) rfl ?_|refine .flat _ (kE) rfl ?_|(refine .ay [0,1,3,4] hK ?_;clear hK K)|(with_reducible refine .done (hK _ ?_);clear hK K)|refine ae.of rfl ?_|(with_reducible refine aB.aE (fun h =>?_) (fun h =>?_) <;>try simp only[h])) <;>try simp only[aG,R,simprocAttr])
 all_goals clear R
 rw[me];exact mc (fun n hn=>I0 hlt _ n (dA n hn)) (fun _ _ h=>iq (s := { s with all:=s.all.set i { s.b9 i with dw:=true } }) ⟨fun j hj=>by simpa using hk.cB j hj,hk.iJ,hk.af⟩ h) ⟨rfl,rfl⟩
theorem xW(s:aD)(hk:cC s)(x:bg)(hy:∀ i,s.on x=some i→(s.b9 i).dw=true):ff Tryz.prog 128 fy [.ptr 1000000 [],enc x] (aL s) (jX s):=by
 refine ff.mk Tryz.func128 zR Ag (u8 rfl) (u8 rfl) dA (fun hwf W0 bG E1 =>?_);simp only[uP,bH,Z1];clear hwf;have n3:aj (aL s) 3=none:=eG (.inl (by omega)) fun i _=>by simp[bD];omega
 have aY:aj (aL s) 1000000=some (.box (.agg [.int .i64 s.ar,.mref 1000001,.mref 1000002,.int .i64 s.all.length,.mref 1000003,.mref 1000004])):=fw;have J:aj (aL s) 1000001=some (.bt (s.here.map enc) (List.replicate s.here.length (.bool true))):=fU;have U:aj (aL s) 1000002=some (.bt (s.bz.map enc) (dW (bD 1000000) s.aQ)):=gf;have ah:aj (aL s) 1000003=some (.bt (s.dp.map enc) (s.bj.map enc)):=gh;have hfin:∀ ts,cW (av ts ((3,.box (enc x))::aL s)) 9 (.agg [.int .i64 s.ar,.mref 1000001,.mref 1000002,.int .i64 s.all.length,.mref 1000003,.mref 1000004])=some (fT s):=fun ts =>
  gU (gX (dJ _) hk.cB fun n hn=>by have:=dA n hn;simp only[aj];rw[if_neg (by omega)]) 4
 have hlk:=gn eS x.aK s.here;rw[eH] at hlk;cases hy2:s.on x with
 |none =>
  have R:=y6 @n3 (y6 @aY (y6 @U (y6 @jU (y6 @bC (y6 @bA aC)))))
  repeat' ((first |(refine ae.od (gs:=Bd) (gs1:=[_,_]) rfl fun K hK =>?_)|refine ae.aF (by decide +kernel) rfl fun K hK =>?_|(refine .ay [0,1,3,4] hK ?_;clear hK K)|(with_reducible refine .done (hK _ ?_);clear hK K)|refine ae.of rfl ?_|(with_reducible refine aB.aE (fun h =>?_) (fun h =>?_) <;>try simp only[h])) <;>try simp only[aG,R,simprocAttr])
  all_goals clear R
  exact .call (wY hk hy2 (hh hk))
 |some i =>
  have hc:=hy i hy2;have hy:=hy2;obtain ⟨ha,hb1,hb2⟩:=pA hy;have hil:=(jn ha).1;have hno:=(jn ha).2;have hlt:=hk.cB i hil;have hb:aj (aL s) (bD 1000000 i)=some (.box (enc (s.b9 i))):=by
   have:=jj (dJ s.all.length) (B:=1000000) hlt;rw[this];simp[aD.b9,Z0,hlt]
  have R:=y6 @n3 (y6 @aY (y6 @U (y6 @hb (y6 @hc (y6 @jU (y6 @bC (y6 @bA aC)))))))
  repeat' ((first |(refine ae.od (gs:=Be) (gs1:=[_,_,_,_,_]) rfl fun K hK =>?_)|refine ae.aF (by decide +kernel) rfl fun K hK =>?_|refine aR.ry hk hlt (pT s hk x i hy) rfl ?_|(refine .ay [0,1,3,4] hK ?_;clear hK K)|(with_reducible refine .done (hK _ ?_);clear hK K)|refine ae.of rfl ?_|(with_reducible refine aB.aE (fun h =>?_) (fun h =>?_) <;>try simp only[h])) <;>try simp only[aG,R,simprocAttr])
  all_goals clear R
  exact .call (ik (hh hk))
theorem FR(s:aD)(hk:cC s)(x:bg)(i:Nat)(hy:s.on x=some i)(hc:(s.b9 i).dw=true):cS Tryz.prog 130 [.ptr 1000000 [],enc x] (aL s) (mX { s with aQ:=s.aQ.erase i,here:=gI s.here x.aK }):=by
 refine cS.b6 Tryz.func130 zT Ai Kv (u8 rfl) (u8 rfl) dA (fun hwf W0 bG E1 =>?_);simp only[uR,Dt,bH,Z1];clear hwf;have n3:aj (aL s) 3=none:=eG (.inl (by omega)) fun i _=>by simp[bD];omega
 have aY:aj (aL s) 1000000=some (.box (.agg [.int .i64 s.ar,.mref 1000001,.mref 1000002,.int .i64 s.all.length,.mref 1000003,.mref 1000004])):=fw;have J:aj (aL s) 1000001=some (.bt (s.here.map enc) (List.replicate s.here.length (.bool true))):=fU;have U:aj (aL s) 1000002=some (.bt (s.bz.map enc) (dW (bD 1000000) s.aQ)):=gf;have ah:aj (aL s) 1000003=some (.bt (s.dp.map enc) (s.bj.map enc)):=gh;have hfin:∀ ts,cW (av ts ((3,.box (enc x))::aL s)) 9 (.agg [.int .i64 s.ar,.mref 1000001,.mref 1000002,.int .i64 s.all.length,.mref 1000003,.mref 1000004])=some (fT s):=fun ts =>
  gU (gX (dJ _) hk.cB fun n hn=>by have:=dA n hn;simp only[aj];rw[if_neg (by omega)]) 4
 have hlk:=gn eS x.aK s.here;rw[eH] at hlk;obtain ⟨ha,hb1,hb2⟩:=pA hy;have hil:=(jn ha).1;have hno:=(jn ha).2;have hlt:=hk.cB i hil;have hb:aj (aL s) (bD 1000000 i)=some (.box (enc (s.b9 i))):=by
  have:=jj (dJ s.all.length) (B:=1000000) hlt;rw[this];simp[aD.b9,Z0,hlt]
 have hdl:=Cr (s:=s) (fun i=>.ptr (bD 1000000 i) []) hil;rw[←hno] at hdl;have hpt:(s.aQ.map fun i=>I.ptr (bD 1000000 i) [])=dW (bD 1000000) s.aQ:=rfl;rw[hpt] at hdl;have hup:=wF eS x.aK s.here;rw[eH] at hup;have R:=y6 @n3 (y6 @aY (y6 @J (y6 @U (y6 @hb (y6 @hc (y6 @hdl (y6 @hup (y6 @jU (y6 @bC (y6 @bA aC))))))))))
 repeat' ((first |refine ae.aF (by decide +kernel) rfl fun K hK =>?_|refine aR.ry hk hlt (pT s hk x i hy) rfl ?_|refine .flat _ (kE) rfl ?_|(refine .ay [0,1,3] hK ?_;clear hK K)|(with_reducible refine .done (hK _ ?_);clear hK K)|refine ae.of rfl ?_|(with_reducible refine aB.aE (fun h =>?_) (fun h =>?_) <;>try simp only[h])) <;>try simp only[aG,R,simprocAttr])
 all_goals clear R
 rw[me];refine mc (fun n hn =>?_) (fun _ _ h=>iq (s := { s with aQ:=s.aQ.erase i,here:=gI s.here x.aK }) ⟨fun j hj=>hk.cB j (List.mem_of_mem_erase hj),hk.iJ.erase _,ny hk.af⟩ h) ⟨rfl,rfl⟩;have:=dA n hn;simp only[aL,ee,aj];rw[if_neg (show ¬ n=3 by omega)]
 (repeat' split) <;>first | rfl | omega
theorem xX(s:aD)(hk:cC s)(x:bg)(hy:∀ i,s.on x=some i→(s.b9 i).dw=false):ff Tryz.prog 130 fy [.ptr 1000000 [],enc x] (aL s) (jX s):=by
 refine ff.mk Tryz.func130 zT Ai (u8 rfl) (u8 rfl) dA (fun hwf W0 bG E1 =>?_);simp only[uR,bH,Z1];clear hwf;have n3:aj (aL s) 3=none:=eG (.inl (by omega)) fun i _=>by simp[bD];omega
 have aY:aj (aL s) 1000000=some (.box (.agg [.int .i64 s.ar,.mref 1000001,.mref 1000002,.int .i64 s.all.length,.mref 1000003,.mref 1000004])):=fw;have J:aj (aL s) 1000001=some (.bt (s.here.map enc) (List.replicate s.here.length (.bool true))):=fU;have U:aj (aL s) 1000002=some (.bt (s.bz.map enc) (dW (bD 1000000) s.aQ)):=gf;have ah:aj (aL s) 1000003=some (.bt (s.dp.map enc) (s.bj.map enc)):=gh;have hfin:∀ ts,cW (av ts ((3,.box (enc x))::aL s)) 9 (.agg [.int .i64 s.ar,.mref 1000001,.mref 1000002,.int .i64 s.all.length,.mref 1000003,.mref 1000004])=some (fT s):=fun ts =>
  gU (gX (dJ _) hk.cB fun n hn=>by have:=dA n hn;simp only[aj];rw[if_neg (by omega)]) 4
 have hlk:=gn eS x.aK s.here;rw[eH] at hlk;cases hy2:s.on x with
 |none =>
  have R:=y6 @n3 (y6 @aY (y6 @U (y6 @jU (y6 @bC (y6 @bA aC)))))
  repeat' ((first |(refine ae.od (gs:=vM) (gs1:=[_,_]) rfl fun K hK =>?_)|refine ae.aF (by decide +kernel) rfl fun K hK =>?_|(refine .ay [0,1,3] hK ?_;clear hK K)|(with_reducible refine .done (hK _ ?_);clear hK K)|refine ae.of rfl ?_|(with_reducible refine aB.aE (fun h =>?_) (fun h =>?_) <;>try simp only[h])) <;>try simp only[aG,R,simprocAttr])
  all_goals clear R
  exact .call (wY hk hy2 (hh hk))
 |some i =>
  have hc:=hy i hy2;have hy:=hy2;obtain ⟨ha,hb1,hb2⟩:=pA hy;have hil:=(jn ha).1;have hno:=(jn ha).2;have hlt:=hk.cB i hil;have hb:aj (aL s) (bD 1000000 i)=some (.box (enc (s.b9 i))):=by
   have:=jj (dJ s.all.length) (B:=1000000) hlt;rw[this];simp[aD.b9,Z0,hlt]
  have R:=y6 @n3 (y6 @aY (y6 @U (y6 @hb (y6 @hc (y6 @jU (y6 @bC (y6 @bA aC)))))))
  repeat' ((first |(refine ae.od (gs:=vM) (gs1:=[_,_,_,_,_,_]) rfl fun K hK =>?_)|refine ae.aF (by decide +kernel) rfl fun K hK =>?_|refine aR.ry hk hlt (pT s hk x i hy) rfl ?_|(refine .ay [0,1,3] hK ?_;clear hK K)|(with_reducible refine .done (hK _ ?_);clear hK K)|refine ae.of rfl ?_|(with_reducible refine aB.aE (fun h =>?_) (fun h =>?_) <;>try simp only[h])) <;>try simp only[aG,R,simprocAttr])
  all_goals clear R
  exact .call (ik (hh hk))
theorem Cz{s:aD}{x:bg}(h:eQ x∉s.dp):ft (.aU [.i .i64,.i .i64]) (.agg [.int .i64 x.other,.int .i64 x.no]) (enc x) (s.dp.map enc) (s.bj.map enc)=some ((({ s with bj:=s.bj++[x] } : aD).dp).map enc,(s.bj++[x]).map enc):=by
 have hm:=wE vm (eQ x) (enc x) (eh x) s.dp (s.bj.map enc);have hf:=qi (k:=eQ x) (ks:=s.dp);rw[decide_eq_false h] at hf;have e:(enc (eQ x):I)=.agg [.int .i64 x.other,.int .i64 x.no]:=rfl;rw[e] at hm;rw[hm];cases hq:s.dp.findIdx? fun y=>decide (eQ x=y) with
 |none=>simp[aD.dp]
 |some i=>rw[hq] at hf;cases hf
theorem Fq{s:aD}{x:bg}(h:s.unknown x=true):eQ x∉s.dp:=by
 simp only[aD.unknown,t8,Bool.not_eq_true',decide_eq_false_iff_not] at h;exact h.2
theorem yA(x:bg):(dT [.int .i64 0,.int .i64 0] [(0,.int .i64 x.other),(1,.int .i64 x.no)]).map I.agg=some (.agg [.int .i64 x.other,.int .i64 x.no]):=by simp[dT,I.bR,I.size]
theorem FV(s:aD)(hk:cC s)(x:bg)(hy:s.unknown x=true):cS Tryz.prog 132 [.ptr 1000000 [],enc x] (aL s) (mX { s with bj:=s.bj++[x] }):=by
 refine cS.b6 Tryz.func132 zV Ak Ky (u8 rfl) (u8 rfl) dA (fun hwf W0 bG E1 =>?_);simp only[uT,Dv,bH,Z1];clear hwf;have n3:aj (aL s) 3=none:=eG (.inl (by omega)) fun i _=>by simp[bD];omega
 have aY:aj (aL s) 1000000=some (.box (.agg [.int .i64 s.ar,.mref 1000001,.mref 1000002,.int .i64 s.all.length,.mref 1000003,.mref 1000004])):=fw;have J:aj (aL s) 1000001=some (.bt (s.here.map enc) (List.replicate s.here.length (.bool true))):=fU;have U:aj (aL s) 1000002=some (.bt (s.bz.map enc) (dW (bD 1000000) s.aQ)):=gf;have ah:aj (aL s) 1000003=some (.bt (s.dp.map enc) (s.bj.map enc)):=gh;have hfin:∀ ts,cW (av ts ((3,.box (enc x))::aL s)) 9 (.agg [.int .i64 s.ar,.mref 1000001,.mref 1000002,.int .i64 s.all.length,.mref 1000003,.mref 1000004])=some (fT s):=fun ts =>
  gU (gX (dJ _) hk.cB fun n hn=>by have:=dA n hn;simp only[aj];rw[if_neg (by omega)]) 4
 have hlk:=gn eS x.aK s.here;rw[eH] at hlk;have hF:=rZ s x;rw[hy] at hF;have hup:=Cz (Fq hy);have R:=y6 @n3 (y6 @aY (y6 @ah (y6 @hfin (y6 @hup (y6 @yA (y6 @bC (y6 @bA aC)))))))
 repeat' ((first |refine ae.aF (by decide +kernel) rfl fun K hK =>?_|refine .flat _ (hF) rfl ?_|refine .flat _ (kE) rfl ?_|(refine .ay [0,1,3] hK ?_;clear hK K)|(with_reducible refine .done (hK _ ?_);clear hK K)|refine ae.of rfl ?_|(with_reducible refine aB.aE (fun h =>?_) (fun h =>?_) <;>try simp only[h])) <;>try simp only[aG,R,simprocAttr])
 all_goals clear R
 rw[me];refine mc (fun n hn =>?_) (fun _ _ h=>iq (s := { s with bj:=s.bj++[x] }) ⟨hk.cB,hk.iJ,hk.af⟩ h) ⟨rfl,rfl⟩;have:=dA n hn;simp only[aL,ee,aj];rw[if_neg (show ¬ n=3 by omega)]
 (repeat' split) <;>first | rfl | omega
theorem FW(s:aD)(hk:cC s)(x:bg)(hy:s.unknown x=false):ff Tryz.prog 132 fy [.ptr 1000000 [],enc x] (aL s) (jX s):=by
 refine ff.mk Tryz.func132 zV Ak (u8 rfl) (u8 rfl) dA (fun hwf W0 bG E1 =>?_);simp only[uT,bH,Z1];clear hwf;have n3:aj (aL s) 3=none:=eG (.inl (by omega)) fun i _=>by simp[bD];omega
 have aY:aj (aL s) 1000000=some (.box (.agg [.int .i64 s.ar,.mref 1000001,.mref 1000002,.int .i64 s.all.length,.mref 1000003,.mref 1000004])):=fw;have J:aj (aL s) 1000001=some (.bt (s.here.map enc) (List.replicate s.here.length (.bool true))):=fU;have U:aj (aL s) 1000002=some (.bt (s.bz.map enc) (dW (bD 1000000) s.aQ)):=gf;have ah:aj (aL s) 1000003=some (.bt (s.dp.map enc) (s.bj.map enc)):=gh;have hfin:∀ ts,cW (av ts ((3,.box (enc x))::aL s)) 9 (.agg [.int .i64 s.ar,.mref 1000001,.mref 1000002,.int .i64 s.all.length,.mref 1000003,.mref 1000004])=some (fT s):=fun ts =>
  gU (gX (dJ _) hk.cB fun n hn=>by have:=dA n hn;simp only[aj];rw[if_neg (by omega)]) 4
 have hlk:=gn eS x.aK s.here;rw[eH] at hlk;have hF:=rZ s x;rw[hy] at hF;have R:=y6 @n3 (y6 @aY (y6 @ah (y6 @hfin (y6 @bC (y6 @bA aC)))))
 repeat' ((first |(refine ae.od (gs:=Bg) (gs1:=[_,_,_]) rfl fun K hK =>?_)|refine ae.aF (by decide +kernel) rfl fun K hK =>?_|refine .flat _ (hF) rfl ?_|(refine .ay [0,1,3] hK ?_;clear hK K)|(with_reducible refine .done (hK _ ?_);clear hK K)|refine ae.of rfl ?_|(with_reducible refine aB.aE (fun h =>?_) (fun h =>?_) <;>try simp only[h])) <;>try simp only[aG,R,simprocAttr])
 all_goals clear R
 exact .call (ik (hh hk))
theorem FT(s:aD)(hk:cC s)(x:bg)(hy:s.unknown x=true∧x.aK∉s.here∧s.eV x.aK=false):cS Tryz.prog 131 [.ptr 1000000 [],enc x] (aL s) (mX { s with bj:=s.bj++[x],here:=gI s.here x.aK }):=by
 refine cS.b6 Tryz.func131 zU Aj Kx (u8 rfl) (u8 rfl) dA (fun hwf W0 bG E1 =>?_);simp only[uS,Du,bH,Z1];clear hwf;have n3:aj (aL s) 3=none:=eG (.inl (by omega)) fun i _=>by simp[bD];omega
 have aY:aj (aL s) 1000000=some (.box (.agg [.int .i64 s.ar,.mref 1000001,.mref 1000002,.int .i64 s.all.length,.mref 1000003,.mref 1000004])):=fw;have J:aj (aL s) 1000001=some (.bt (s.here.map enc) (List.replicate s.here.length (.bool true))):=fU;have U:aj (aL s) 1000002=some (.bt (s.bz.map enc) (dW (bD 1000000) s.aQ)):=gf;have ah:aj (aL s) 1000003=some (.bt (s.dp.map enc) (s.bj.map enc)):=gh;have hfin:∀ ts,cW (av ts ((3,.box (enc x))::aL s)) 9 (.agg [.int .i64 s.ar,.mref 1000001,.mref 1000002,.int .i64 s.all.length,.mref 1000003,.mref 1000004])=some (fT s):=fun ts =>
  gU (gX (dJ _) hk.cB fun n hn=>by have:=dA n hn;simp only[aj];rw[if_neg (by omega)]) 4
 have hlk:=gn eS x.aK s.here;rw[eH] at hlk;have hF:=rZ s x;rw[hy.1] at hF;have hF2:=pW s x.aK;rw[hy.2.2] at hF2;have q1:decide (x.aK∈s.here)=false:=decide_eq_false hy.2.1;have hup:=Cz (Fq hy.1);have hup2:=wF eS x.aK s.here;rw[eH] at hup2;have R:=y6 @n3 (y6 @aY (y6 @J (y6 @ah (y6 @hfin (y6 @hlk (y6 @q1 (y6 @hup (y6 @hup2 (y6 @yA (y6 @bC (y6 @bA aC)))))))))))
 repeat' ((first |(with_reducible refine .guard (fun hb =>?_) (fun hb =>?_) <;>try simp only[hb])|refine ae.aF (by decide +kernel) rfl fun K hK =>?_|refine .flat _ (hF) rfl ?_|refine .flat _ (hF2) rfl ?_|refine .flat _ (kE) rfl ?_|(refine .ay [0,1,3] hK ?_;clear hK K)|(with_reducible refine .done (hK _ ?_);clear hK K)|refine ae.of rfl ?_|(with_reducible refine aB.aE (fun h =>?_) (fun h =>?_) <;>try simp only[h])) <;>try simp only[aG,R,simprocAttr])
 all_goals clear R
 rw[me];refine mc (fun n hn =>?_) (fun _ _ h=>iq (s := { s with bj:=s.bj++[x],here:=gI s.here x.aK }) ⟨hk.cB,hk.iJ,ny hk.af⟩ h) ⟨rfl,rfl⟩;have:=dA n hn;simp only[aL,ee,aj];rw[if_neg (show ¬ n=3 by omega)]
 (repeat' split) <;>first | rfl | omega
theorem FU(s:aD)(hk:cC s)(x:bg)(hy:¬ (s.unknown x=true∧x.aK∉s.here∧s.eV x.aK=false)):ff Tryz.prog 131 fy [.ptr 1000000 [],enc x] (aL s) (jX s):=by
 refine ff.mk Tryz.func131 zU Aj (u8 rfl) (u8 rfl) dA (fun hwf W0 bG E1 =>?_);simp only[uS,bH,Z1];clear hwf;have n3:aj (aL s) 3=none:=eG (.inl (by omega)) fun i _=>by simp[bD];omega
 have aY:aj (aL s) 1000000=some (.box (.agg [.int .i64 s.ar,.mref 1000001,.mref 1000002,.int .i64 s.all.length,.mref 1000003,.mref 1000004])):=fw;have J:aj (aL s) 1000001=some (.bt (s.here.map enc) (List.replicate s.here.length (.bool true))):=fU;have U:aj (aL s) 1000002=some (.bt (s.bz.map enc) (dW (bD 1000000) s.aQ)):=gf;have ah:aj (aL s) 1000003=some (.bt (s.dp.map enc) (s.bj.map enc)):=gh;have hfin:∀ ts,cW (av ts ((3,.box (enc x))::aL s)) 9 (.agg [.int .i64 s.ar,.mref 1000001,.mref 1000002,.int .i64 s.all.length,.mref 1000003,.mref 1000004])=some (fT s):=fun ts =>
  gU (gX (dJ _) hk.cB fun n hn=>by have:=dA n hn;simp only[aj];rw[if_neg (by omega)]) 4
 have hlk:=gn eS x.aK s.here;rw[eH] at hlk;have hF:=rZ s x;have hF2:=pW s x.aK;rcases q0:s.unknown x
 ·rw[q0] at hF;have R:=y6 @n3 (y6 @aY (y6 @J (y6 @ah (y6 @hfin (y6 @hlk (y6 @bC (y6 @bA aC)))))))
  repeat' ((first |(with_reducible refine .guard (fun hb =>?_) (fun hb =>?_) <;>try simp only[hb])|(refine ae.jA (gs:=nL) 20 [] [] [0,1,2,3,4,5,6,7,8,9,10,11,12,13,14,15,16,17,18,19] (by decide +kernel) rfl (cU.of (by simp[fi])) fun K hK =>?_;simp only[eU,nL,gy,Z7,zy5,List.take_zero,zz6,zz7,R,simprocAttr])|refine ae.aF (by decide +kernel) rfl fun K hK =>?_|refine .flat _ (hF) rfl ?_|(refine .ay [0,1,3] hK ?_;clear hK K)|(with_reducible refine .done (hK _ ?_);clear hK K)|refine ae.of rfl ?_|(with_reducible refine aB.aE (fun h =>?_) (fun h =>?_) <;>try simp only[h])) <;>try simp only[aG,R,simprocAttr])
  all_goals clear R
  exact .call (ik (hh hk))
 rw[q0] at hF;rcases q1:decide (x.aK∈s.here)
 ·have q2:s.eV x.aK=true:=by
   rcases q2:s.eV x.aK
   ·exact absurd ⟨q0,of_decide_eq_false q1,q2⟩ hy
   ·rfl
  rw[q2] at hF2;have R:=y6 @n3 (y6 @aY (y6 @J (y6 @ah (y6 @hfin (y6 @hlk (y6 @q1 (y6 @bC (y6 @bA aC))))))))
  repeat' ((first |(with_reducible refine .guard (fun hb =>?_) (fun hb =>?_) <;>try simp only[hb])|(refine ae.jA (gs:=nL) 20 [] [] [0,1,2,3,4,5,6,7,8,9,10,11,12,13,14,15,16,17,18,19] (by decide +kernel) rfl (cU.of (by simp[fi])) fun K hK =>?_;simp only[eU,nL,gy,Z7,zy5,List.take_zero,zz6,zz7,R,simprocAttr])|refine ae.aF (by decide +kernel) rfl fun K hK =>?_|refine .flat _ (hF) rfl ?_|refine .flat _ (hF2) rfl ?_|(refine .ay [0,1,3] hK ?_;clear hK K)|(with_reducible refine .done (hK _ ?_);clear hK K)|refine ae.of rfl ?_|(with_reducible refine aB.aE (fun h =>?_) (fun h =>?_) <;>try simp only[h])) <;>try simp only[aG,R,simprocAttr])
  all_goals clear R
  exact .call (ik (hh hk))
 ·have R:=y6 @n3 (y6 @aY (y6 @J (y6 @ah (y6 @hfin (y6 @hlk (y6 @q1 (y6 @bC (y6 @bA aC))))))))
  repeat' ((first |(with_reducible refine .guard (fun hb =>?_) (fun hb =>?_) <;>try simp only[hb])|(refine ae.jA (gs:=nL) 20 [] [] [0,1,2,3,4,5,6,7,8,9,10,11,12,13,14,15,16,17,18,19] (by decide +kernel) rfl (cU.of (by simp[fi])) fun K hK =>?_;simp only[eU,nL,gy,Z7,zy5,List.take_zero,zz6,zz7,R,simprocAttr])|refine ae.aF (by decide +kernel) rfl fun K hK =>?_|refine .flat _ (hF) rfl ?_|(refine .ay [0,1,3] hK ?_;clear hK K)|(with_reducible refine .done (hK _ ?_);clear hK K)|refine ae.of rfl ?_|(with_reducible refine aB.aE (fun h =>?_) (fun h =>?_) <;>try simp only[h])) <;>try simp only[aG,R,simprocAttr])
  all_goals clear R
  exact .call (ik (hh hk))
abbrev gD(k:Nat)(s:aD):List (Nat×aq):=ee 1000000 (fS 1000000 57 k) s
def tA(k:Nat)(s:aD):cG:=fun r os'=>r=.tuple []∧os'=gD k s
theorem gM{k m:Nat}(h:m≤k+1):gu 1000000 (fS 1000000 57 k) m:=gu.fS (by omega) h
theorem tT{s:aD}(hk:cC s){k:Nat}(h:s.all.length≤k):gD k s=aL s:=Zv hk.cB fun i hi=>lX (by omega)
def iP(s:aD)(x:bg):aD := { s with here:=s.here.erase x.aK,all:=s.all++[⟨x.no,x.other,x.aK,false⟩],aQ:=s.aQ++[s.all.length] }
theorem Zc{s:aD}(hk:cC s)(x:bg):cC (iP s x):=by
 refine ⟨fun i hi =>?_,?_,hk.af.erase _⟩
 ·simp only[iP,zy7,zy3] at hi;simp only[iP,Z6,zx1];rcases hi with hi | hi
  ·have:=hk.cB i hi;omega
  ·omega
 ·exact List.nodup_append.2 ⟨hk.iJ,by simp,fun a ha c hc e=>by rw[zy3.1 hc] at e;have:=hk.cB a ha;omega⟩
theorem W5{s:aD}(hk:cC s){no:Int}(hno:no=(s.all.length:Int)+1)(v:I)(hv:v.bR=true):ft (.i .i64) (.int .i64 no) v (s.bz.map enc) (dW (bD 1000000) s.aQ)=some ((s.bz++[no]).map enc,dW (bD 1000000) s.aQ++[v]):=by
 have hm:=wE eS no v hv s.bz (dW (bD 1000000) s.aQ);rw[eH] at hm;rw[hm];have hf:=qi (k:=no) (ks:=s.bz);have:no∉s.bz:=fun h=>by
  obtain ⟨i,hi,e⟩:=zy0.1 h;have:=hk.cB i hi;omega
 rw[decide_eq_false this] at hf;cases hq:s.bz.findIdx? fun y=>decide (no=y) with
 |none=>rfl
 |some i=>rw[hq] at hf;cases hf
theorem FL(s:aD)(hk:cC s)(hlen:s.all.length≤100000)(x:bg)(hy:x.aK∈s.here∧x.other≠s.ar∧x.no=(s.all.length:Int)+1):cS Tryz.prog 127 [.ptr 1000000 [],enc x] (aL s) (tA s.all.length (iP s x)):=by
 refine cS.b6 Tryz.func127 zQ Af Kr (u8 rfl) (u8 rfl) dA (fun hwf W0 bG E1 =>?_);simp only[uO,Dp,bH,Z1];clear hwf;have n3:aj (aL s) 3=none:=eG (.inl (by omega)) fun i _=>by simp[bD];omega
 have n57:aj (aL s) 57=none:=eG (.inl (by omega)) fun i _=>by simp[bD];omega
 have aY:aj (aL s) 1000000=some (.box (.agg [.int .i64 s.ar,.mref 1000001,.mref 1000002,.int .i64 s.all.length,.mref 1000003,.mref 1000004])):=fw;have J:aj (aL s) 1000001=some (.bt (s.here.map enc) (List.replicate s.here.length (.bool true))):=fU;have U:aj (aL s) 1000002=some (.bt (s.bz.map enc) (dW (bD 1000000) s.aQ)):=gf;have hlk:=gn eS x.aK s.here;rw[eH] at hlk;have q1:decide (x.aK∈s.here)=true:=decide_eq_true hy.1;have q2:(x.other != s.ar)=true:=by simpa using hy.2.1
 have hw:IntKind.i64.wrap ((s.all.length:Int)+1)=(s.all.length:Int)+1:=hZ _ (by omega) (by omega);have q3:(x.no==(s.all.length:Int)+1)=true:=by simpa using hy.2.2
 have hdl:=Cq hy.1;have hup:=W5 hk hy.2.2 (.ptr 57 []) rfl;have hst:∀ A rest,db A none 1000000 [3] (.agg [.int .i64 s.ar,.mref 1000001,.mref 1000002,.int .i64 s.all.length,.mref 1000003,.mref 1000004]) (.int .i64 ((s.all.length:Int)+1)) rest (some (.int .i64 s.all.length)) =
   az rest (A.aS 1000000 (.box (.agg [.int .i64 s.ar,.mref 1000001,.mref 1000002,.int .i64 ((s.all.length:Int)+1),.mref 1000003,.mref 1000004]))):=fun A rest=>dE rfl rfl rfl
 have hbld:(dT [.int .i64 0,.int .i64 0,.int .i64 0,.bool false] [(0,.int .i64 x.no),(1,.int .i64 x.other),(2,.int .i64 x.aK)]).map I.agg=some (enc (⟨x.no,x.other,x.aK,false⟩:dc)):=by simp[dT,I.bR,I.size];rfl
 have offT:∀ (a b:Int) v,dD [.int .i64 a,.mref 1000001,.mref 1000002,.int .i64 (b+1),.mref 1000003,.mref 1000004] 2 2 v=some v:=fun a b v=>rfl;have R:=y6 @n3 (y6 @n57 (y6 @aY (y6 @J (y6 @U (y6 @hlk (y6 @q1 (y6 @q2 (y6 @hw (y6 @q3 (y6 @hdl (y6 @hup (y6 @hst (y6 @hbld (y6 @offT (y6 @bC (y6 @bA aC))))))))))))))))
 repeat' ((first |(with_reducible refine .guard (fun hb =>?_) (fun hb =>?_) <;>try simp only[hb])|refine ae.aF (by decide +kernel) rfl fun K hK =>?_|refine .flat _ (kE) rfl ?_|(refine .ay [0,1,3] hK ?_;clear hK K)|(with_reducible refine .done (hK _ ?_);clear hK K)|refine ae.of rfl ?_|(with_reducible refine aB.aE (fun h =>?_) (fun h =>?_) <;>try simp only[h])) <;>try simp only[aG,R,simprocAttr])
 all_goals clear R
 rw[me];have hg:=gM (k:=s.all.length) (m:=(iP s x).all.length) (by simp[iP]);refine mc (fun n hn =>?_) (fun _ _ h=>ly hg (Zc hk x).cB h) ⟨rfl,rfl⟩;have hl1:(iP s x).all.length=s.all.length+1:=by simp[iP]
 have hp:dW (fS 1000000 57 s.all.length) (s.aQ++[s.all.length])=dW (bD 1000000) s.aQ++[.ptr 57 []]:=by
  simp only[dW,zz2,Z4,zy6]
  congr 1
  ·exact List.map_congr_left fun i hi=>by rw[lX (hk.cB i hi)]
  ·simp[fS]
 have hnu:(iP s x).bz=s.bz++[x.no]:=by simp[aD.bz,iP,hy.2.2]
 rcases (dP hg).1 hn with hb | ⟨j,hj,rfl⟩
 ·have hc:n=1000000∨n=1000001∨n=1000002∨n=1000003∨n=1000004:=by omega
  rcases hc with rfl | rfl | rfl | rfl | rfl
  ·rw[fw];simp[aj,nq,iP]
  ·rw[show (1000001:Nat)=1000000+1 from rfl,fU];simp[aj,o7,iP]
  ·rw[show (1000002:Nat)=1000000+2 from rfl,gf];simp only[oj,hnu];simp only[iP,hp];simp[aj]
  ·rw[show (1000003:Nat)=1000000+3 from rfl,gh];have:=gh (B:=1000000) (ν:=bD 1000000) (s:=s);simp only[aj,Nat.reduceAdd,Nat.reduceEqDiff,if_false];exact this
  ·rw[show (1000004:Nat)=1000000+4 from rfl,oB];have:=oB (B:=1000000) (ν:=bD 1000000) (s:=s);simp only[aj,Nat.reduceAdd,Nat.reduceEqDiff,if_false];exact this
 ·rw[jj hg hj];by_cases e:j=s.all.length
  ·subst e;simp[aj,fS,iP]
  ·have hj2:j<s.all.length:=by omega
   rw[lX hj2];have:=jj (B:=1000000) (ν:=bD 1000000) (s:=s) (dJ _) hj2;simp only[aj];rw[if_neg (by simp[bD];omega),if_neg (by simp[bD];omega),if_neg (by simp[bD];omega),if_neg (by simp[bD];omega),if_neg (by simp[bD];omega),this];simp[iP,List.getElem_append_left hj2]
theorem FM(s:aD)(hk:cC s)(hlen:s.all.length≤100000)(x:bg)(hy:¬ (x.aK∈s.here∧x.other≠s.ar∧x.no=(s.all.length:Int)+1)):ff Tryz.prog 127 fy [.ptr 1000000 [],enc x] (aL s) (jX s):=by
 refine ff.mk Tryz.func127 zQ Af (u8 rfl) (u8 rfl) dA (fun hwf W0 bG E1 =>?_);simp only[uO,bH,Z1];clear hwf;have n3:aj (aL s) 3=none:=eG (.inl (by omega)) fun i _=>by simp[bD];omega
 have aY:aj (aL s) 1000000=some (.box (.agg [.int .i64 s.ar,.mref 1000001,.mref 1000002,.int .i64 s.all.length,.mref 1000003,.mref 1000004])):=fw;have J:aj (aL s) 1000001=some (.bt (s.here.map enc) (List.replicate s.here.length (.bool true))):=fU;have hlk:=gn eS x.aK s.here;rw[eH] at hlk;have hw:IntKind.i64.wrap ((s.all.length:Int)+1)=(s.all.length:Int)+1:=hZ _ (by omega) (by omega);rcases q1:decide (x.aK∈s.here)
 ·have R:=y6 @n3 (y6 @aY (y6 @J (y6 @hlk (y6 @q1 (y6 @bC (y6 @bA aC))))))
  repeat' ((first |(with_reducible refine .guard (fun hb =>?_) (fun hb =>?_) <;>try simp only[hb])|(refine ae.jA (gs:=nK) 26 [] [] [0,1,2,3,4,5,6,7,8,9,10,11,12,13,14,15,16,17,18,19,20,21,22,23,24,25] (by decide +kernel) rfl (cU.of (by simp[fi])) fun K hK =>?_;simp only[eU,nK,gy,Z7,zy5,List.take_zero,zz6,zz7,R,simprocAttr])|refine ae.aF (by decide +kernel) rfl fun K hK =>?_|(refine .ay [0,1,3] hK ?_;clear hK K)|(with_reducible refine .done (hK _ ?_);clear hK K)|refine ae.of rfl ?_|(with_reducible refine aB.aE (fun h =>?_) (fun h =>?_) <;>try simp only[h])) <;>try simp only[aG,R,simprocAttr])
  all_goals clear R
  exact .call (ik (hh hk))
 rcases q2:(x.other != s.ar)
 ·have R:=y6 @n3 (y6 @aY (y6 @J (y6 @hlk (y6 @q1 (y6 @q2 (y6 @bC (y6 @bA aC)))))))
  repeat' ((first |(with_reducible refine .guard (fun hb =>?_) (fun hb =>?_) <;>try simp only[hb])|(refine ae.jA (gs:=nK) 26 [] [] [0,1,2,3,4,5,6,7,8,9,10,11,12,13,14,15,16,17,18,19,20,21,22,23,24,25] (by decide +kernel) rfl (cU.of (by simp[fi])) fun K hK =>?_;simp only[eU,nK,gy,Z7,zy5,List.take_zero,zz6,zz7,R,simprocAttr])|refine ae.aF (by decide +kernel) rfl fun K hK =>?_|(refine .ay [0,1,3] hK ?_;clear hK K)|(with_reducible refine .done (hK _ ?_);clear hK K)|refine ae.of rfl ?_|(with_reducible refine aB.aE (fun h =>?_) (fun h =>?_) <;>try simp only[h])) <;>try simp only[aG,R,simprocAttr])
  all_goals clear R
  exact .call (ik (hh hk))
 have q3:(x.no==(s.all.length:Int)+1)=false:=by
  rcases q3:(x.no==(s.all.length:Int)+1)
  ·rfl
  ·exact absurd ⟨of_decide_eq_true q1,by simpa using q2,by simpa using q3⟩ hy
 have R:=y6 @n3 (y6 @aY (y6 @J (y6 @hlk (y6 @q1 (y6 @q2 (y6 @hw (y6 @q3 (y6 @bC (y6 @bA aC)))))))))
 repeat' ((first |(with_reducible refine .guard (fun hb =>?_) (fun hb =>?_) <;>try simp only[hb])|(refine ae.jA (gs:=nK) 26 [] [] [0,1,2,3,4,5,6,7,8,9,10,11,12,13,14,15,16,17,18,19,20,21,22,23,24,25] (by decide +kernel) rfl (cU.of (by simp[fi])) fun K hK =>?_;simp only[eU,nK,gy,Z7,zy5,List.take_zero,zz6,zz7,R,simprocAttr])|refine ae.aF (by decide +kernel) rfl fun K hK =>?_|(refine .ay [0,1,3] hK ?_;clear hK K)|(with_reducible refine .done (hK _ ?_);clear hK K)|refine ae.of rfl ?_|(with_reducible refine aB.aE (fun h =>?_) (fun h =>?_) <;>try simp only[h])) <;>try simp only[aG,R,simprocAttr])
 all_goals clear R
 exact .call (ik (hh hk))
def ef(s:aD)(x:bg):aD×Bool:=match gp s x with
 |some s'=>(s',true)
 |none=>(s,false)
def C1(s:aD)(x:bg):cG:=fun r os'=>r=.bool (ef s x).2∧os'=gD s.all.length (ef s x).1
def jr(B:Nat):List I:=[.func 1000125 [.ptr B []],.func 1000126 [.ptr B []],.func 1000127 [.ptr B []],.func 1000128 [.ptr B []],.func 1000129 [.ptr B []],.func 1000130 [.ptr B []],.func 1000131 [.ptr B []],.func 1000132 [.ptr B []]]
def kD(s:aD)(x:bg)(f:FuncId):Prop:=match ed s x with
 |some s'=>cS Tryz.prog f [.ptr 1000000 [],enc x] (aL s) (tA s.all.length s')
 |none=>ff Tryz.prog f fy [.ptr 1000000 [],enc x] (aL s) (jX s)
theorem cS.post{P:Program}{f:FuncId}{args:List I}{os:List (Nat×aq)}{post post':cG}(h:cS P f args os post)(hp:∀ r os',post r os'→post' r os'):cS P f args os post' :=
 ⟨h.1,fun w D E vs ab hD ho hv=>(h.2 w D E vs ab hD ho hv).mono fun _ _ ⟨v,D',E',r,os',k1,k2,k⟩=>⟨v,D',E',r,os',k1,hp _ _ k2,k⟩⟩
theorem n0{s s':aD}{x:bg}(hk:cC s)(hn:ed s x=some s')(hx:x.kind≠3):∀ r os',mX s' r os'→tA s.all.length s' r os':=by
 rintro r os' ⟨rfl,rfl⟩;obtain ⟨J,_,_,au⟩:=hk.next hn
 exact ⟨rfl,(tT J (Nat.le_of_eq (au hx))).symm⟩
theorem wz{s:aD}(hk:cC s)(hlen:s.all.length≤100000){x:bg}(hx:gA x=true) :
  ∃ f:Nat,fp (.i .i64) .dC (.int .i64 x.kind) gO (jr 1000000)=some (.func (f+1000000) [.ptr 1000000 []],true)∧[125,126,127,128,129,130,131,132].contains f=true∧kD s x f:=by
 have au:x.kind=1∨x.kind=2∨x.kind=3∨x.kind=4∨x.kind=5∨x.kind=6∨x.kind=7∨x.kind=8:=by
  simp only[gA] at hx;split at hx
  ·omega
  ·split at hx
   ·omega
   ·cases hx
 have lk:∀ n:Int,x.kind=n→fp (.i .i64) .dC (.int .i64 x.kind) gO (jr 1000000)=fp (.i .i64) .dC (.int .i64 n) gO (jr 1000000):=fun n h=>by rw[h]
 rcases au with h | h | h | h | h | h | h | h
 ·refine ⟨125,by rw[h];simp[fp,eE,b5,gO,jr],rfl,?_⟩;simp only[kD,ed,h,if_true];split
  ·rename_i s' ab;split at ab
   ·cases ab
   ·rename_i bK;cases ab;have hy:x.aK∉s.here∧s.eV x.aK=false:=⟨fun h=>bK (.inl h),by rcases q:s.eV x.aK;rfl;exact absurd (.inr q) bK⟩
    exact cS.post (FH s hk x hy) (n0 (x:=x) hk (by simp[ed,h,hy.1,hy.2]) (by omega))
  ·rename_i ab;split at ab
   ·rename_i bK;exact FI s hk x bK
   ·cases ab
 ·refine ⟨126,by rw[h];simp[fp,eE,b5,gO,jr],rfl,?_⟩;simp only[kD,ed,h,Int.reduceEq,if_false,if_true];split
  ·rename_i s' ab;split at ab
   ·rename_i bK;cases ab;exact cS.post (FJ s hk x bK) (n0 (x:=x) hk (by simp[ed,h,bK]) (by omega))
   ·cases ab
  ·rename_i ab;split at ab
   ·cases ab
   ·rename_i bK;exact FK s hk x bK
 ·refine ⟨127,by rw[h];simp[fp,eE,b5,gO,jr],rfl,?_⟩;simp only[kD,ed,h,Int.reduceEq,if_false,if_true];split
  ·rename_i s' ab;split at ab
   ·rename_i bK;cases ab;exact FL s hk hlen x bK
   ·cases ab
  ·rename_i ab;split at ab
   ·cases ab
   ·rename_i bK;exact FM s hk hlen x bK
 ·refine ⟨128,by rw[h];simp[fp,eE,b5,gO,jr],rfl,?_⟩;simp only[kD,ed,h,Int.reduceEq,if_false,if_true];cases ho:s.on x with
  |none=>exact xW s hk x fun i hi=>by rw[ho] at hi;cases hi
  |some i =>
   cases hc:(s.b9 i).dw with
   |true =>
    simp only[hc,if_true];exact xW s hk x fun j hj=>by rw[ho] at hj;cases hj;exact hc
   |false =>
    simp only[hc,Z2,if_false];exact cS.post (FN s hk x i ho hc) (n0 (x:=x) hk (by simp[ed,h,ho,hc]) (by omega))
 ·refine ⟨129,by rw[h];simp[fp,eE,b5,gO,jr],rfl,?_⟩;simp only[kD,ed,h,Int.reduceEq,if_false,if_true];cases ho:s.on x with
  |none=>exact FP s hk x ho
  |some i=>exact cS.post (FO s hk x i ho) (n0 (x:=x) hk (by simp[ed,h,ho]) (by omega))
 ·refine ⟨130,by rw[h];simp[fp,eE,b5,gO,jr],rfl,?_⟩;simp only[kD,ed,h,Int.reduceEq,if_false,if_true];cases ho:s.on x with
  |none=>exact xX s hk x fun i hi=>by rw[ho] at hi;cases hi
  |some i =>
   cases hc:(s.b9 i).dw with
   |false =>
    simp only[hc,Z2,if_false];exact xX s hk x fun j hj=>by rw[ho] at hj;cases hj;exact hc
   |true =>
    simp only[hc,if_true];exact cS.post (FR s hk x i ho hc) (n0 (x:=x) hk (by simp[ed,h,ho,hc]) (by omega))
 ·refine ⟨131,by rw[h];simp[fp,eE,b5,gO,jr],rfl,?_⟩;simp only[kD,ed,h,Int.reduceEq,if_false,if_true];split
  ·rename_i s' ab;split at ab
   ·rename_i bK;cases ab;exact cS.post (FT s hk x bK) (n0 (x:=x) hk (by simp[ed,h,bK.1,bK.2.1,bK.2.2]) (by omega))
   ·cases ab
  ·rename_i ab;split at ab
   ·cases ab
   ·rename_i bK;exact FU s hk x bK
 ·refine ⟨132,by rw[h];simp[fp,eE,b5,gO,jr],rfl,?_⟩;simp only[kD,ed,h,Int.reduceEq,if_false,if_true];cases hu:s.unknown x with
  |true =>
   simp only[if_true];exact cS.post (FV s hk x hu) (n0 (x:=x) hk (by simp[ed,h,hu]) (by omega))
  |false =>
   simp only[Z2,if_false];exact FW s hk x hu
def dO(x:bg)(b:Bool)(l:List (Nat×aq)):List (Nat×aq):=(1900004,.box (.bool b))::(1900003,.box (enc x))::l
def l4(s:aD)(x:bg):cG:=fun r os'=>r=.bool (ef s x).2∧os'=dO x (ef s x).2 (gD s.all.length (ef s x).1)
def lh:List (Nat×Nat):=[(1900003,3),(1900004,4)]
theorem rH{s:aD}(hk:cC s)(x:bg):cC (ef s x).1∧(ef s x).1.ar=s.ar∧s.all.length≤(ef s x).1.all.length∧(ef s x).1.all.length≤s.all.length+1:=by
 simp only[ef];cases h:gp s x with
 |none=>exact ⟨hk,rfl,Z3 _,by simp⟩
 |some s' =>
  simp only[gp] at h;split at h
  ·obtain ⟨J,U,ah,au⟩:=hk.next h
   refine ⟨J,U,?_,ah⟩;by_cases hk3:x.kind=3
   ·simp only[ed,hk3,Int.reduceEq,if_false,if_true] at h;split at h <;>cases h
    simp
   ·exact Nat.le_of_eq (au hk3).symm
  ·cases h
theorem tS{s:aD}{k:Nat}(h:s.all.length≤k+1){n:Nat}(hn:aw (gD k s) n=true):n=57∨(1000000≤n∧n<1000006+k):=by
 rcases (dP (gM h)).1 hn with U | ⟨i,hi,rfl⟩
 ·omega
 ·simp only[fS];split <;>omega
theorem lv{s:aD}{n:Nat}(hn:aw (aL s) n=true):1000000≤n∧n<1000005+s.all.length:=by
 rcases (dP (dJ _)).1 hn with U | ⟨i,hi,rfl⟩
 ·omega
 ·simp only[bD];omega
theorem jz{x:bg}{b:Bool}{l:List (Nat×aq)}{n:Nat} : aw (dO x b l) n=true↔n=1900004∨n=1900003∨aw l n=true:=by
 simp only[aw,dO,aj];by_cases J:n=1900004
 ·simp[J]
 by_cases U:n=1900003
 ·simp[U]
 simp[J,U]
theorem qX{x:bg}{b:Bool}{l:List (Nat×aq)}(ao:∀ m y,aj l m=some y→y.only (aw l)=true∧y.ej=true){n:Nat}{y:aq}(h:aj (dO x b l) n=some y):y.only (aw (dO x b l))=true∧y.ej=true:=by
 simp only[dO,aj] at h;split at h
 ·cases h;exact ⟨rfl,rfl⟩
 split at h
 ·cases h;exact ⟨cA _ _,rfl⟩
 obtain ⟨J,U⟩:=ao n y h;refine ⟨aq.iK (fun m hm=>jz.2 (.inr (.inr hm))) y J,U⟩
theorem xh(ρ:List (Nat×Nat))(k:Nat)(v:aq)(os:List (Nat×aq)):dF ρ ((k,v)::os)=(bI ρ k,v.bm (bI ρ))::dF ρ os:=rfl
theorem EB{ρ:List (Nat×Nat)}{ν ν':Nat→Nat} : ∀ (l:List dc) (i:Nat),(∀ k,k<i+l.length→bI ρ (ν k)=ν' k)→dF ρ (jq ν i l)=jq ν' i l
 | [],_,_=>rfl
 |r::l,i,h=>by
  simp only[zx5] at h;simp only[jq,xh,h i (by omega),aq.bm,kT,EB l (i+1) fun k hk=>h k (by omega)]
theorem EE{ρ:Nat→Nat}{ν ν':Nat→Nat} : ∀ l:List Nat,(∀ i∈l,ρ (ν i)=ν' i)→I.dX ρ (dW ν l)=dW ν' l
 | [],_=>rfl
 |i::l,h=>by
  have ih:=EE (ρ:=ρ) l fun j hj=>h j (by simp[hj]);simp only[dW] at ih;simp only[dW,Z4,I.dX,I.bm,h i (by simp),ih]
theorem ED{ρ:List (Nat×Nat)}{B B':Nat}{ν ν':Nat→Nat}{s:aD}(ao:∀ i∈s.aQ,i<s.all.length)(aY:∀ j,j<5→bI ρ (B+j)=B'+j)(h:∀ k,k<s.all.length→bI ρ (ν k)=ν' k):dF ρ (ee B ν s)=ee B' ν' s:=by
 have hB:bI ρ B=B':=aY 0 (by omega);have J:=aY 1 (by omega);have U:=aY 2 (by omega);have ah:=aY 3 (by omega);have au:=aY 4 (by omega);have hp:=EE (ρ:=bI ρ) s.aQ fun i hi=>h i (ao i hi);have hr:I.dX (bI ρ) (List.replicate s.here.length (.bool true))=List.replicate s.here.length (.bool true):=nf _ _ (qd _);simp only[ee,xh,hB,J,U,ah,au,EB s.all 0 (by simpa using h),nq,o7,oj,qE,oO,gO,aq.bm,I.bm,I.dX,tJ,hp,hr]
theorem Cj{ρ:List (Nat×Nat)}{os:List (Nat×aq)}{m:Nat}{y:aq}(inj:∀ m',aw os m'=true→bI ρ m'=bI ρ m→m'=m)(h:aj os m=some y):aj (dF ρ os) (bI ρ m)=some (y.bm (bI ρ)):=by
 have J:=qL ρ os [] (bI ρ m);rw[zx0] at J;rw[J];cases hp:pre ρ os (bI ρ m) with
 |none=>exact absurd rfl (w6 hp (by simp[aw,h]))
 |some m' =>
  obtain ⟨k1,k2⟩:=lf hp;have:=inj m' k1 k2;subst this;simp only[h,Z8]
theorem mg(m:Nat):bI lh m=if m=1900003 then 3 else if m=1900004 then 4 else m:=rfl
theorem EA{s:aD}(hk:cC s){k:Nat}(h:s.all.length≤k+1)(hlen:k≤100000):dF lh (gD k s)=gD k s :=
 ED hk.cB (fun j hj=>by rw[mg,if_neg (by omega),if_neg (by omega)]) fun i hi=>by
  have:fS 1000000 57 k i=57∨(1000000≤fS 1000000 57 k i∧fS 1000000 57 k i<1000006+k):=by simp only[fS];split <;>omega
  rw[mg,if_neg (by omega),if_neg (by omega)]
theorem YO{s:aD}(hk:cC s)(hlen:s.all.length≤100000):dF lh (aL s)=aL s:=by
 rw[←tT hk (Z3 _)];exact EA hk (by omega) hlen
def xl:bq:=.seq (.cd none Bo) (.seq (.cd L0 qt) (.seq (.cd none UN) .ret))
theorem L4:Tryz.f81.body.bind (vc Tryz.prog Tryz.f81.ntmps)=some (.cd none Bn,113,4,5,xl):=by kernel_rfl
def pB(s:aD)(x:bg):List (Nat×aq):=(4,.box (.bool false))::(3,.box (enc x))::aL s
theorem Wc{s:aD}(hk:cC s)(hlen:s.all.length≤100000)(x:bg):gl lh (dO x false (aL s)) (pB s x):=by
 refine ⟨fun m y hy=>⟨?_,qX (fun _ _ h=>iq hk h) hy⟩,fun m m' hm hm' e =>?_⟩
 ·simp only[dO,aj] at hy;split at hy
  ·rename_i h;subst h;cases hy;rfl
  split at hy
  ·rename_i h;subst h;cases hy;simp only[aq.bm,kT];rfl
  ·have hm:=lv (s:=s) (n:=m) (by simp[aw,hy]);have e:bI lh m=m:=by rw[mg,if_neg (by omega),if_neg (by omega)]
   have:=Cj (ρ:=lh) (os:=aL s) (m:=m) (fun m' hm' he=>by
    have:=lv hm';rw[e,mg,if_neg (by omega),if_neg (by omega)] at he;exact he) hy
   rw[YO hk hlen] at this;rw[e] at this ⊢;simp only[pB,aj];rw[if_neg (by omega),if_neg (by omega)];exact this
 ·have key:∀ m,aw (dO x false (aL s)) m=true→m=1900004∨m=1900003∨(1000000≤m∧m<1900000):=fun m hm=>by
   rcases jz.1 hm with h | h | h
   ·exact .inl h
   ·exact .inr (.inl h)
   ·have:=lv h;exact .inr (.inr (by omega))
  have k1:=key m hm;have k2:=key m' hm';rw[mg,mg] at e
  (repeat' split at e) <;>omega
theorem Hm{s:aD}(hk:cC s)(hlen:s.all.length≤100000)(x:bg):∀ r os',l4 s x r os'→gG false lh (dO x false (aL s)) (pB s x) r os':=by
 rintro r os' ⟨rfl,rfl⟩;obtain ⟨J,U,ah,au⟩:=rH hk x;have hon:∀ m y,aj (gD s.all.length (ef s x).1) m=some y→y.only (aw (gD s.all.length (ef s x).1))=true∧y.ej=true:=fun m y h=>ly (gM au) J.cB h;have key:∀ m,aw (dO x (ef s x).2 (gD s.all.length (ef s x).1)) m=true→m=1900004∨m=1900003∨m=57∨(1000000≤m∧m<1900000):=fun m hm=>by
  rcases jz.1 hm with h | h | h
  ·exact .inl h
  ·exact .inr (.inl h)
  ·have:=tS au h;omega
 refine ⟨fun m y hy=>⟨(qX hon hy).1,(qX hon hy).2,fun h=>by cases h⟩,fun m m' hm hm' e =>?_,fun m hm =>?_,fun m hm hno =>?_,rfl,fun h=>by cases h⟩
 ·have k1:=key m hm;have k2:=key m' hm';rw[mg,mg] at e
  (repeat' split at e) <;>omega
 ·rcases jz.1 hm with h | h | h
  ·exact jz.2 (.inl h)
  ·exact jz.2 (.inr (.inl h))
  ·refine jz.2 (.inr (.inr ?_));rcases (dP (dJ _)).1 h with h5 | ⟨i,hi,rfl⟩
   ·exact (dP (gM au)).2 (.inl h5)
   ·exact (dP (gM au)).2 (.inr ⟨i,by omega,(lX hi).symm⟩)
 ·have hno2:¬ (m=1900004∨m=1900003∨aw (aL s) m=true):=fun h=>by
   rw[jz.2 h] at hno;cases hno
  rcases jz.1 hm with h | h | h
  ·exact absurd (.inl h) hno2
  ·exact absurd (.inr (.inl h)) hno2
  ·have h57:m=57:=by
    rcases (dP (gM au)).1 h with h5 | ⟨i,hi,e⟩
    ·exact absurd (.inr (.inr ((dP (dJ _)).2 (.inl h5)))) hno2
    ·by_cases hi2:i=s.all.length
     ·subst hi2;simpa[fS] using e
     ·exact absurd (.inr (.inr ((dP (dJ _)).2 (.inr ⟨i,by omega,by rw[e,lX (by omega)]⟩)))) hno2
   subst h57;refine ⟨?_,by decide⟩
   show aj (pB s x) 57=none
   simp only[pB,aj,Nat.reduceEqDiff,if_false];exact eG (.inl (by omega)) fun i _=>by simp[bD];omega
theorem Hl{s:aD}(hk:cC s)(hlen:s.all.length≤100000)(x:bg):∀ r os',l4 s x r os'→∃ osF,r.flat=true∧r.bm (bI lh)=r∧(∀ m z,aj osF m=some z→aj (dF lh os'++pB s x) m=some z∧z.only (aw osF)=true∧z.ej=true)∧C1 s x r osF:=by
 rintro r os' ⟨rfl,rfl⟩;obtain ⟨J,U,ah,au⟩:=rH hk x;refine ⟨gD s.all.length (ef s x).1,rfl,rfl,fun m z hz=>⟨?_,ly (gM au) J.cB hz⟩,rfl,rfl⟩;have hm:=tS au (n:=m) (by simp[aw,hz]);simp only[dO,xh,EA J au hlen,Z7,aj,mg];rw[if_neg (by simp only[Nat.reduceEqDiff,if_false,if_true];omega),if_neg (by simp only[if_true];omega),fH,hz]
theorem WN(f:Nat):(f+1000000<1000000)=False:=by simp
theorem BK{s:aD}(hk:cC s)(hlen:s.all.length≤100000)(x:bg)(b:Bool):gl [] (aL s) (dO x b (aL s)):=by
 refine ⟨fun m y hy=>⟨?_,iq hk hy⟩,fun m m' _ _ h=>h⟩;have hm:=lv (s:=s) (n:=m) (by simp[aw,hy]);rw[aq.kr (ρ:=bI []) (fun n=>rfl)]
 show aj (dO x b (aL s)) m=some y
 simp only[dO,aj];rw[if_neg (by omega),if_neg (by omega)];exact hy
theorem Zq{s s':aD}(hk':cC s')(ah:s.all.length≤s'.all.length)(au:s'.all.length≤s.all.length+1)(x:bg):gG false [] (aL s) (dO x false (aL s)) (.tuple []) (gD s.all.length s'):=by
 refine ⟨fun m y hy=>⟨(ly (gM au) hk'.cB hy).1,(ly (gM au) hk'.cB hy).2,fun h=>by cases h⟩,fun m m' _ _ h=>h,fun m hm =>?_,fun m hm hno =>?_,rfl,fun h=>by cases h⟩
 ·rcases (dP (dJ _)).1 hm with h5 | ⟨i,hi,rfl⟩
  ·exact (dP (gM au)).2 (.inl h5)
  ·exact (dP (gM au)).2 (.inr ⟨i,by omega,(lX hi).symm⟩)
 ·have h57:m=57:=by
   rcases (dP (gM au)).1 hm with h5 | ⟨i,hi,e⟩
   ·rw[(dP (dJ _)).2 (.inl h5)] at hno;cases hno
   ·by_cases hi2:i=s.all.length
    ·subst hi2;simpa[fS] using e
    ·rw[(dP (dJ _)).2 (.inr ⟨i,by omega,by rw[e,lX (by omega)]⟩)] at hno;cases hno
  subst h57;refine ⟨?_,by decide⟩
  show aj (dO x false (aL s)) 57=none
  simp only[dO,aj,Nat.reduceEqDiff,if_false];exact eG (.inl (by omega)) fun i _=>by simp[bD];omega
theorem bN.wz{ab:List FuncId}{K:ai→Prop}{f:FuncId}{s s':aD}{x:bg}{avs:List I}{a1 a2:Option (List I)}{dst:Option Nat}{rest:List aH}{ts:List (Nat×I)}(hk:cC s)(hlen:s.all.length≤100000)(hk':cC s')(ah:s.all.length≤s'.all.length)(au:s'.all.length≤s.all.length+1)
  (hf:ab.contains f=true) (hc:cS Tryz.prog f [.ptr 1000000 [],enc x] (aL s) (tA s.all.length s')) (hav:avs=[.ptr 1000000 [],enc x])
  (h:bN Tryz.prog dy ab K (az rest ((av ts (gD s.all.length s'++dO x false (aL s))).aT dst (.tuple [])))):bN Tryz.prog dy ab K (.call f avs a1 a2 dst rest (av ts (dO x false (aL s)))):=by
 subst hav;refine .wL false [] (aL s) [.ptr 1000000 [],enc x] _ hf hc (BK hk hlen x false) sj ?_ ?_
 ·rintro r os' ⟨rfl,rfl⟩;exact Zq hk' ah au x
 ·rintro r os' ⟨rfl,rfl⟩;rw[l9];exact h
theorem Ye{Q:Exit→ai→Prop}{f:FuncId}{s:aD}{x:bg}(hk:cC s)(hlen:s.all.length≤100000)(hc:ff Tryz.prog f fy [.ptr 1000000 [],enc x] (aL s) (jX s)){ts:List (Nat×I)}(hq:Q (.panic fy) (av ts (aL s++dO x false (aL s)))):nx Tryz.prog Q f [.ptr 1000000 [],enc x] (av ts (dO x false (aL s))) :=
 .mk false [] (aL s) [.ptr 1000000 [],enc x] fy _ hc (BK hk hlen x false) sj (fun os' h=>by cases h;exact uI hk rfl) (fun os' h=>by cases h;rw[l9];exact hq)
theorem Hk{ts:List (Nat×I)}{s:aD}{x:bg}(hlen:s.all.length≤100000):av ts (aL s++dO x false (aL s))=av ts (dO x false (aL s)):=by
 simp only[av,ai.mk.injEq,true_and]
 funext n
 rw[fH];cases h:aj (aL s) n with
 |none=>rfl
 |some y =>
  have:=lv (s:=s) (n:=n) (by simp[aw,h]);simp only[dO,aj];rw[if_neg (by omega),if_neg (by omega),h]
theorem Ev{s:aD}{x:bg}(hk:cC s)(hlen:s.all.length≤100000)(hn:ef s x=(s,false)){ts:List (Nat×I)}(ht:Abs.bW ts 4=.ptr 1900004 []):rj [.cell 4 none] (l4 s x) fy 1900004 (.panic fy) (av ts (dO x false (aL s))):=by
 refine ⟨rfl,⟨false,rfl⟩,dO x false (aL s),[.bool false],fun m z hz=>⟨?_,qX (fun _ _ h=>iq hk h) hz⟩,⟨⟨.bool false,?_,.inl ⟨rfl,rfl,rfl⟩⟩,trivial⟩,?_⟩
 ·show aj ((1900004,.box (.bool false))::dO x false (aL s)) m=some z
  simp only[aj];split
  ·rename_i h;subst h;exact hz
  ·exact hz
 ·show (match cK _ (Abs.bW ts 4) with | some x=>if bY none x=true then some x else none | none=>none)=some (I.bool false)
  rw[ht];rfl
 ·show l4 s x (.bool false) (dO x false (aL s))
  simp only[l4];rw[hn];exact ⟨rfl,congrArg _ (tT hk (Z3 _)).symm⟩
theorem YV{s:aD}(hk:cC s)(hlen:s.all.length≤100000)(x:bg)(W:World)(D:aP)(E:aZ)(n:Nat)(d:Deferred) :
  ae ⟨Tryz.prog,W,D,n,cI E,E,dy,none,some [d]⟩ xl (rj [.cell 4 none] (l4 s x) fy 1900004) (av [(0,.ptr 1000000 []),(3,.ptr 1900003 []),(4,.ptr 1900004 [])] (dO x false (aL s))):=by
 have aY:aj (dO x false (aL s)) 1000000=some (.box (.agg [.int .i64 s.ar,.mref 1000001,.mref 1000002,.int .i64 s.all.length,.mref 1000003,.mref 1000004])):=by
  simp only[dO,aj,Nat.reduceEqDiff,if_false];exact fw
 have au:aj (dO x false (aL s)) 1000004=some (.bt gO (jr 1000000)):=by
  simp only[dO,aj,Nat.reduceEqDiff,if_false];exact oB
 have hb3:aj (dO x false (aL s)) 1900003=some (.box (enc x)):=rfl;have hb4:aj (dO x false (aL s)) 1900004=some (.box (.bool false)):=rfl;have hF:=Gh x;simp only[xl];rcases hx:gA x
 ·rw[hx] at hF;have hn:ef s x=(s,false):=by simp[ef,gp,hx]
  have R:=y6 @aY (y6 @au (y6 @hb3 (y6 @hb4 (y6 @bC (y6 @bA aC)))))
  repeat' ((first |(with_reducible refine .guard (fun hb =>?_) (fun hb =>?_) <;>try simp only[hb])|(refine ae.od (gs:=Bo) (gs1:=[_,_]) rfl fun K hK =>?_)|refine ae.aF (by decide +kernel) rfl fun K hK =>?_|refine .flat _ (hF) rfl ?_|(refine .ay [0,1,3,4] hK ?_;clear hK K)|(with_reducible refine .done (hK _ ?_);clear hK K)|refine ae.of rfl ?_|(with_reducible refine aB.aE (fun h =>?_) (fun h =>?_) <;>try simp only[h])) <;>try simp only[aG,R,simprocAttr])
  all_goals clear R
  exact .call (ik (Ev hk hlen hn rfl))
 rw[hx] at hF;obtain ⟨f,hlk,hfc,hdo⟩:=wz hk hlen hx;have hfl:=sE f;have hlm:=WN f;have hkd:(enc x:I).dR=some [.int .i64 x.kind,.int .i64 x.aK,.int .i64 x.other,.int .i64 x.no]:=rfl;simp only[kD] at hdo;cases hn:ed s x with
 |none =>
  rw[hn] at hdo;have hn2:ef s x=(s,false):=by simp[ef,gp,hx,hn]
  have R:=y6 @aY (y6 @au (y6 @hb3 (y6 @hb4 (y6 @hlk (y6 @hfl (y6 @hlm (y6 @bC (y6 @bA aC))))))))
  repeat' ((first |(with_reducible refine .guard (fun hb =>?_) (fun hb =>?_) <;>try simp only[hb])|(refine ae.jA (gs:=qt) 8 [] [] [0,1,2,3,4,5,6,7] (by decide +kernel) rfl (cU.of (by simp[fi])) fun K hK =>?_;simp only[eU,qt,gy,Z7,zy5,List.take_zero,zz6,zz7,R,simprocAttr])|refine ae.aF (by decide +kernel) rfl fun K hK =>?_|refine .flat _ (hF) rfl ?_|refine .flat _ (kE) rfl ?_|(refine .ay [0,1,3,4] hK ?_;clear hK K)|(with_reducible refine .done (hK _ ?_);clear hK K)|refine ae.of rfl ?_|(with_reducible refine aB.aE (fun h =>?_) (fun h =>?_) <;>try simp only[h])) <;>try simp only[aG,R,simprocAttr])
  all_goals clear R
  refine .fL (f:=f+1000000) (caps:=[.ptr 1000000 []]) rfl ?_;rw[sE,vx];exact Ye hk hlen hdo (by rw[Hk hlen];exact Ev hk hlen hn2 rfl)
 |some s' =>
  rw[hn] at hdo;have hn2:ef s x=(s',true):=by simp[ef,gp,hx,hn]
  have hso:=rH hk x;rw[hn2] at hso;simp only at hso;obtain ⟨k1,k2,k3,k4⟩:=hso;have e4:∀ n,n=1900004∨n=1900003→aj (gD s.all.length s') n=none:=fun n hn=>by
   rcases hn with rfl | rfl <;>exact eG (.inr (by omega)) fun i hi=>by simp only[fS];split <;>omega
  have hb4':aj (gD s.all.length s'++dO x false (aL s)) 1900004=some (.box (.bool false)):=by
   rw[fH,e4 _ (.inl rfl)];exact hb4
  have hst:∀ A rest,db A none 1900004 [] (.bool false) (.bool true) rest (some (.bool false))=az rest (A.aS 1900004 (.box (.bool true))):=fun A rest=>dE rfl rfl rfl;have R:=y6 @aY (y6 @au (y6 @hb3 (y6 @hb4 (y6 @hb4' (y6 @hst (y6 @hlk (y6 @hfl (y6 @hlm (y6 @bC (y6 @bA aC))))))))))
  repeat' ((first |(with_reducible refine .guard (fun hb =>?_) (fun hb =>?_) <;>try simp only[hb])|(refine ae.rl (gs:=qt) [125,126,127,128,129,130,131,132] [] [0,1,2,3,4,5,6,7,8] (by decide +kernel) (cU.of (by simp[fi])) fun K hK =>?_;simp only[eU,qt,zz6,zz7,R,simprocAttr])|refine ae.aF (by decide +kernel) rfl fun K hK =>?_|refine .flat _ (hF) rfl ?_|refine .flat _ (kE) rfl ?_|refine bN.wz hk hlen k1 k3 k4 hfc hdo rfl ?_|(refine .ay [0,1,3,4] hK ?_;clear hK K)|(with_reducible refine .done (hK _ ?_);clear hK K)|refine ae.of rfl ?_|(with_reducible refine aB.aE (fun h =>?_) (fun h =>?_) <;>try simp only[h])) <;>try simp only[aG,R,simprocAttr])
  all_goals clear R
  refine ⟨⟨true,rfl⟩,dO x true (gD s.all.length s'),[.bool true],fun m z hz=>⟨?_,qX (fun _ _ h=>ly (gM k4) k1.cB h) hz⟩,⟨⟨.bool true,rfl,.inl ⟨rfl,rfl,rfl⟩⟩,trivial⟩,?_⟩
  ·show aj ((1900004,.box (.bool true))::(gD s.all.length s'++dO x false (aL s))) m=some z
   simp only[dO,aj] at hz ⊢;split
   ·rename_i h;rw[if_pos h] at hz;exact hz
   rename_i h;rw[if_neg h] at hz;rw[fH];split at hz
   ·rename_i U;rw[U,e4 _ (.inr rfl),←U];simp only[aj,if_neg h];exact hz
   ·rw[hz]
  ·show l4 s x (.bool true) (dO x true (gD s.all.length s'))
   simp only[l4];rw[hn2];exact ⟨rfl,rfl⟩
theorem Gy(s:aD)(hk:cC s)(hlen:s.all.length≤100000)(x:bg):cS Tryz.prog 81 [.ptr 1000000 [],enc x] (aL s) (C1 s x):=by
 refine cS.XU Tryz.func81 IT L4 Ld (u8 rfl) (u8 rfl) dA YH YG (by decide) fun hwf W0 bG E1 =>?_;simp only[bH,Z1];clear hwf;have n3:aj (aL s) 3=none:=eG (.inl (by omega)) fun i _=>by simp[bD];omega
 have n4:aj (aL s) 4=none:=eG (.inl (by omega)) fun i _=>by simp[bD];omega
 refine .kq (by decide +kernel) fun K hK =>?_
 try simp only[Bn,n3,n4,aC,bF,simprocAttr]
 refine .done (hK _ ?_);simp only[eA];refine ⟨_,_,lh,dO x false (aL s),[0,3,4],[.ptr 1000000 [],.ptr 1900003 [],.ptr 1900004 []],1900004,false,l4 s x,rfl,?_⟩;exact {
  fD:=rfl
  BJ:=Wc hk hlen x
  arg:=⟨.inl ⟨rfl,jz.2 (.inr (.inr ((dP (dJ _)).2 (.inl (by omega))))),rfl⟩,.inl ⟨rfl,jz.2 (.inr (.inl rfl)),rfl⟩,.inl ⟨rfl,jz.2 (.inl rfl),rfl⟩,trivial⟩
  yu:=Hm hk hlen x
  E7:=rfl
  box:=rfl
  lP:=fun m hm=>by
   have:1000000≤m:=by
    rcases jz.1 hm with h | h | h
    ·omega
    ·omega
    ·exact (lv h).1
   exact ⟨zw3 (u8 rfl) this,this⟩
  rest:=fun W D E d=>YV hk hlen x W D E _ d
  iv:=Hl hk hlen x }
end Go.Proofs.YthbdbocionnfgaaGreatDoor
namespace Go.Abs
open Go Go.RowKit
theorem bx.fn{ts ts':List (Nat×I)}{os os':List (Nat×aq)}(J:cw ts ts')(U:∀ n,aj os' n=none∨aj os' n=aj os n)(ah:cH (aw os') ts')(au:∀ n x,aj os' n=some x→x.only (aw os')=true):bx (av ts os) (av ts' os'):=by
 rintro c a w ⟨D,E,ab⟩;have hp:∀ n,aw os' n=true→(if aw os' n then E n else none)=E n:=fun n hn=>by simp[hn]
 refine ⟨D,fun n=>if aw os' n then E n else none,ab.sz,ab.eD,fun t =>?_,ab.dQ,ab.cZ,ab.aQ,fun n =>?_,fun n m e e' b J U ah au =>?_,fun n e hn =>?_,ab.eP,ab.cR,ab.eX,ab.fx⟩
 ·have:=tZ J t;rcases this with h | h
  ·simp only[av];rw[h];simp[a8]
  ·refine a8.da (p:=aw os') hp (wS ah t) ?_;have:=ab.dU t;simp only[av] at *;rw[h];exact this
 ·have ho:=ab.bO n;simp only[av] at *;rcases U n with h | h
  ·rw[h];simp[cX,aw,h]
  ·rw[h];by_cases hin:aj os n=none
   ·rw[hin];simp[cX,aw,h,hin]
   ·have aA:(if aw os' n then E n else none)=E n:=hp n (by simp[aw,h];cases bK:aj os n <;>simp_all);cases hx:aj os n with
    |none=>exact absurd hx hin
    |some x =>
     have hon:=au n x (h.trans hx);rw[hx] at ho;cases x with
     |box x =>
      obtain ⟨b,cs,T,k1,k2,k3,k4,k5⟩:=ho;exact ⟨b,cs,T,aA.trans k1,k2,k3,al.da hp _ _ (by simpa[aq.only] using hon) k4,k5⟩
     |bU T sz es =>
      obtain ⟨aJ,k1,k2,k3⟩:=ho;refine ⟨aJ,aA.trans k1,k2,?_⟩;cases aJ with
      |none=>exact k3
      |some bc =>
       obtain ⟨b,cap⟩:=bc;obtain ⟨cs,pre,rest,q1,q2,q3,q4,q5⟩:=k3;exact ⟨cs,pre,rest,q1,q2,q3,aM.da hp _ _ (by simpa[aq.only] using hon) q4,q5⟩
     |dL T xs =>
      obtain ⟨aJ,k1,k2,k3⟩:=ho;exact ⟨aJ,aA.trans k1,k2,k3⟩
     |dK x =>
      obtain ⟨b,k1,k2⟩:=ho;exact ⟨b,aA.trans k1,k2⟩
     |bt ks vs =>
      obtain ⟨b,es,ck,k1,k2,k3,k4,k5,k6,k7⟩:=ho;simp only[aq.only,t8] at hon;exact ⟨b,es,ck,aA.trans k1,k2,k3,k4,aI.da hp _ _ hon.1 k5,aI.da hp _ _ hon.2 k6,k7⟩
     |it ks vs left cur =>
      obtain ⟨r,b,es,ck,si,se,la,k1,k2,k3,k4,k5,k6,k7⟩:=ho;simp only[aq.only,t8] at hon;exact ⟨r,b,es,ck,si,se,la,aA.trans k1,k2,k3,k4,aI.da hp _ _ hon.1 k5,aI.da hp _ _ hon.2 k6,k7⟩
 ·refine ab.cN n m e e' b ?_ ?_ ah au
  ·split at J
   ·exact J
   ·cases J
  ·split at U
   ·exact U
   ·cases U
 ·by_cases hi:aw os' n=true
  ·simp only[hi,if_true];exact ab.dV n e hn
  ·simp only[hi];exact .inl rfl
end Go.Abs
namespace Go.Proofs.YthbdbocionnfgaaGreatDoor
open Go Go.Abs
open Go.Abs.Enc (enc)
theorem Cy:(∀ v:I,v.bR=true→ft (.i .i64) (.int .i64 1) v [] []=some ([.int .i64 1],[v]))∧(∀ a1 v:I,v.bR=true→ft (.i .i64) (.int .i64 2) v [.int .i64 1] [a1]=some ([.int .i64 1,.int .i64 2],[a1,v]))∧(∀ a1 a2 v:I,v.bR=true→ft (.i .i64) (.int .i64 3) v [.int .i64 1,.int .i64 2] [a1,a2]=some ([.int .i64 1,.int .i64 2,.int .i64 3],[a1,a2,v]))∧(∀ a1 a2 a3 v:I,v.bR=true→ft (.i .i64) (.int .i64 4) v [.int .i64 1,.int .i64 2,.int .i64 3] [a1,a2,a3]=some ([.int .i64 1,.int .i64 2,.int .i64 3,.int .i64 4],[a1,a2,a3,v]))∧(∀ a1 a2 a3 a4 v:I,v.bR=true→ft (.i .i64) (.int .i64 5) v [.int .i64 1,.int .i64 2,.int .i64 3,.int .i64 4] [a1,a2,a3,a4]=some ([.int .i64 1,.int .i64 2,.int .i64 3,.int .i64 4,.int .i64 5],[a1,a2,a3,a4,v]))∧(∀ a1 a2 a3 a4 a5 v:I,v.bR=true→ft (.i .i64) (.int .i64 6) v [.int .i64 1,.int .i64 2,.int .i64 3,.int .i64 4,.int .i64 5] [a1,a2,a3,a4,a5]=some ([.int .i64 1,.int .i64 2,.int .i64 3,.int .i64 4,.int .i64 5,.int .i64 6],[a1,a2,a3,a4,a5,v]))∧(∀ a1 a2 a3 a4 a5 a6 v:I,v.bR=true→ft (.i .i64) (.int .i64 7) v [.int .i64 1,.int .i64 2,.int .i64 3,.int .i64 4,.int .i64 5,.int .i64 6] [a1,a2,a3,a4,a5,a6]=some ([.int .i64 1,.int .i64 2,.int .i64 3,.int .i64 4,.int .i64 5,.int .i64 6,.int .i64 7],[a1,a2,a3,a4,a5,a6,v]))∧(∀ a1 a2 a3 a4 a5 a6 a7 v:I,v.bR=true→ft (.i .i64) (.int .i64 8) v [.int .i64 1,.int .i64 2,.int .i64 3,.int .i64 4,.int .i64 5,.int .i64 6,.int .i64 7] [a1,a2,a3,a4,a5,a6,a7]=some ([.int .i64 1,.int .i64 2,.int .i64 3,.int .i64 4,.int .i64 5,.int .i64 6,.int .i64 7,.int .i64 8],[a1,a2,a3,a4,a5,a6,a7,v])) :=
 ⟨fun  v h=>by simp[ft,eE,b5,I.bR];try exact h,fun a1 v h=>by simp[ft,eE,b5,I.bR];try exact h,fun a1 a2 v h=>by simp[ft,eE,b5,I.bR];try exact h,fun a1 a2 a3 v h=>by simp[ft,eE,b5,I.bR];try exact h,fun a1 a2 a3 a4 v h=>by simp[ft,eE,b5,I.bR];try exact h,fun a1 a2 a3 a4 a5 v h=>by simp[ft,eE,b5,I.bR];try exact h,fun a1 a2 a3 a4 a5 a6 v h=>by simp[ft,eE,b5,I.bR];try exact h,fun a1 a2 a3 a4 a5 a6 a7 v h=>by simp[ft,eE,b5,I.bR];try exact h⟩
theorem bZ:(∀ f c,(I.func f c).bR=true)∧(∀ n,(I.mref n).bR=true)∧(∀ n p,(I.ptr n p).bR=true):=⟨fun _ _=>rfl,fun _=>rfl,fun _ _=>rfl⟩
def nU(ar:Int):List (Nat×aq):=[(9,.box (.agg [.int .i64 ar,.mref 5,.mref 6,.int .i64 0,.mref 7,.mref 11])),(5,.bt [] []),(6,.bt [] []),(7,.bt [] []),(11,.bt gO (jr 9))]
def eM(ar:Int):aD:=⟨ar,[],[],[],[]⟩
def Yn(ar:Int):cG:=fun r os'=>r=.ptr 9 []∧os'=nU ar
theorem FB(ar:Int):cS Tryz.prog 106 [enc ar] [] (Yn ar):=by
 refine cS.b6 Tryz.func106 H0 I7 Kf (u8 rfl) (u8 rfl) (fun m hm=>by simp[aw,aj] at hm) (fun hwf W0 bG E1 =>?_);simp only[yH,Db,bH];clear hwf;have hbld:(dT [.int .i64 0,.raw (.map none),.raw (.map none),.int .i64 0,.raw (.map none),.raw (.map none)] [(0,.int .i64 ar),(1,.mref 5),(2,.mref 6),(4,.mref 7)]).map I.agg=some (.agg [.int .i64 ar,.mref 5,.mref 6,.int .i64 0,.mref 7,.raw (.map none)]):=by simp[dT,I.bR,I.size]
 have hst:∀ A rest,db A none 9 [5] (.agg [.int .i64 ar,.mref 5,.mref 6,.int .i64 0,.mref 7,.raw (.map none)]) (.mref 11) rest (some (.raw (.map none)))=az rest (A.aS 9 (.box (.agg [.int .i64 ar,.mref 5,.mref 6,.int .i64 0,.mref 7,.mref 11]))):=fun A rest=>dE rfl rfl rfl;have hval:∀ a b c d e f:I,(I.agg [a,b,c,d,e,f]).bR=true:=fun _ _ _ _ _ _=>rfl;have hoff:∀ v,dD [.int .i64 ar,.mref 5,.mref 6,.int .i64 0,.mref 7,.raw (.map none)] 5 5 v=some v:=fun _=>rfl;have hall:([I.ptr 9 []].all fun y=>y.bR)=true:=rfl;have R:=y6 @hall (y6 @hbld (y6 @hst (y6 @hval (y6 @hoff (y6 @Cy (y6 @bZ (y6 @bC (y6 @bA aC))))))))
 repeat' ((first |refine ae.aF (by decide +kernel) rfl fun K hK =>?_|(refine .ay [0,2,3] hK ?_;clear hK K)|(with_reducible refine .done (hK _ ?_);clear hK K)|refine ae.of rfl ?_|(with_reducible refine aB.aE (fun h =>?_) (fun h =>?_) <;>try simp only[h])) <;>try simp only[aG,R,simprocAttr])
 all_goals clear R
 refine ⟨nU ar,[.ptr 9 []],fun n x hx =>?_,⟨⟨_,rfl,.inl ⟨rfl,rfl,rfl⟩⟩,trivial⟩,rfl,rfl⟩;simp only[nU,aj] at hx
 (repeat' split at hx) <;>first
  |(cases hx;done)
  |(rename_i h;subst h;cases hx;exact ⟨rfl,rfl,rfl⟩)
abbrev du(s:aD):List (Nat×aq):=ee 2000 (bD 2000) s
def xm:List (Nat×Nat):=[(9,2000),(5,2001),(6,2002),(7,2003),(11,2004)]
theorem YQ(ar:Int):dF xm (nU ar)=du (eM ar):=rfl
theorem kj(ar:Int):cC (eM ar):=⟨fun i hi=>by simp[eM] at hi,by simp[eM],by simp[eM]⟩
theorem aR.eM{K:ai→Prop}{ar:Int}{avs:List I}{a1 a2:Option (List I)}{dst:Option Nat}{rest:List aH}{ts:List (Nat×I)}{os0:List (Nat×aq)}(hav:avs=[enc ar])(hno:∀ m,2000≤m→m<1000000→aj os0 m=none)
  (h:aR Tryz.prog dy false K (az rest ((av ts (du (Go.Proofs.YthbdbocionnfgaaGreatDoor.eM ar)++os0)).aT dst (.ptr 2000 [])))):aR Tryz.prog dy false K (.call 106 avs a1 a2 dst rest (av ts os0)):=by
 subst hav;have key:∀ m,aw (nU ar) m=true→m=9∨m=5∨m=6∨m=7∨m=11:=fun m hm=>by
  simp only[aw,nU,aj] at hm
  (repeat' split at hm) <;>first | omega | (simp at hm;done)
 refine .bO false xm [] [enc ar] _ rfl (FB ar) ⟨fun m x hx=>by simp[aj] at hx,fun m m' hm=>by simp[aw,aj] at hm⟩ ⟨.inl ⟨(kT _ _).symm,cA _ _,eh _⟩,trivial⟩ ?_ ?_
 ·rintro r os' ⟨rfl,rfl⟩;refine ⟨fun m y hy =>?_,fun m m' hm hm' e =>?_,fun m hm=>by simp[aw,aj] at hm,fun m hm _ =>?_,rfl,fun h=>by cases h⟩
  ·simp only[nU,aj] at hy
   (repeat' split at hy) <;>first
    |(cases hy;done)
    |(rename_i h;subst h;cases hy;exact ⟨rfl,rfl,fun h=>by cases h⟩)
  ·rcases key m hm with rfl | rfl | rfl | rfl | rfl <;>rcases key m' hm' with rfl | rfl | rfl | rfl | rfl <;>first | rfl | (simp[xm,bI] at e;done)
  ·rcases key m hm with rfl | rfl | rfl | rfl | rfl <;>exact ⟨hno _ (by decide) (by decide),by decide⟩
 ·rintro r os' ⟨rfl,rfl⟩;rw[YQ];exact h
def pH(k:Nat):List (Nat×Nat):=(57,2005+k)::(List.range' 0 400).map fun j=>(1000000+j,2000+j)
theorem EK(m:Nat):∀ k a,bI ((List.range' a k).map fun j=>(1000000+j,2000+j)) m=if 1000000+a≤m∧m<1000000+a+k then m-998000 else m
 |0,a=>by
  rw[if_neg (by omega)];rfl
 |k+1,a=>by
  rw[List.range'_succ,Z4,bI,EK m k (a+1)];by_cases h:m=1000000+a
  ·rw[if_pos h,if_pos (by omega)];omega
  ·rw[if_neg h];by_cases U:1000000+(a+1)≤m∧m<1000000+(a+1)+k
   ·rw[if_pos U,if_pos (by omega)]
   ·rw[if_neg U,if_neg (by omega)]
theorem jZ(k m:Nat):bI (pH k) m=if m=57 then 2005+k else if 1000000≤m∧m<1000400 then m-998000 else m:=by
 simp only[pH,bI,EK,Nat.add_zero,Nat.reduceAdd]
theorem iE(k:Nat):gu 2000 (bD 2000) k:=gu.bD _ _
theorem lx{s:aD}(hk:cC s){n:Nat}{x:aq}(h:aj (du s) n=some x):x.only (aw (du s))=true∧x.ej=true:=ly (iE _) hk.cB h
theorem xJ{s:aD}{n:Nat}(hn:aw (du s) n=true):2000≤n∧n<2005+s.all.length:=by
 rcases (dP (iE _)).1 hn with U | ⟨i,hi,rfl⟩
 ·omega
 ·simp only[bD];omega
theorem Ez{s:aD}(hk:cC s){k:Nat}(h:s.all.length≤k+1)(hlen:k≤300):dF (pH k) (gD k s)=du s :=
 ED hk.cB (fun j hj=>by rw[jZ,if_neg (by omega),if_pos (by omega)];omega) fun i hi=>by
  simp only[fS,bD];split
  ·rename_i e;rw[jZ,if_pos rfl];omega
  ·rw[jZ,if_neg (by omega),if_pos (by omega)];omega
theorem YN{s:aD}(hk:cC s){k:Nat}(h:s.all.length≤k)(hlen:k≤300):dF (pH k) (aL s)=du s:=by
 rw[←tT hk h];exact Ez hk (by omega) hlen
theorem aR.rL{K:ai→Prop}{s s2:aD}{b:Bool}{x:bg}{avs:List I}{a1 a2:Option (List I)}{dst:Option Nat}{rest:List aH}{ts:List (Nat×I)}{ow:List (Nat×aq)}(hk:cC s)(hlen:s.all.length≤300)(hav:avs=[.ptr 2000 [],enc x])(how:∀ m,2000≤m→aj ow m=none)(hst:ef s x=(s2,b))
  (h:aR Tryz.prog dy false K (az rest ((av ts (du s2++(ow++du s))).aT dst (.bool b)))):aR Tryz.prog dy false K (.call 81 avs a1 a2 dst rest (av ts (ow++du s))):=by
 subst hav;obtain ⟨J,U,ah,au⟩:=rH hk x;refine .bO false (pH s.all.length) (aL s) [.ptr 1000000 [],enc x] _ rfl (Gy s hk (by omega) x) ⟨fun m y hy=>⟨?_,iq hk hy⟩,fun m m' hm hm' e =>?_⟩ ⟨.inl ⟨?_,(dP (dJ _)).2 (.inl (by omega)),rfl⟩,.inl ⟨(kT _ _).symm,cA _ _,eh _⟩,trivial⟩ ?_ ?_
 ·have hm:=lv (s:=s) (n:=m) (by simp[aw,hy]);have:=Cj (ρ:=pH s.all.length) (os:=aL s) (m:=m) (fun m' hm' he=>by
   have:=lv hm';rw[jZ,jZ] at he
   (repeat' split at he) <;>omega) hy
  rw[YN hk (Z3 _) hlen] at this;rw[fH,how]
  ·exact this
  ·rw[jZ,if_neg (by omega),if_pos (by omega)];omega
 ·have k1:=lv hm;have k2:=lv hm';rw[jZ,jZ] at e
  (repeat' split at e) <;>omega
 ·simp only[I.bm,jZ];rfl
 ·rintro r os' ⟨rfl,rfl⟩;refine ⟨fun m y hy=>⟨(ly (gM au) J.cB hy).1,(ly (gM au) J.cB hy).2,fun h=>by cases h⟩,fun m m' hm hm' e =>?_,fun m hm =>?_,fun m hm hno =>?_,rfl,fun h=>by cases h⟩
  ·have k1:=tS au hm;have k2:=tS au hm';have e1:∀ m,m=57∨(1000000≤m∧m<1000005+s.all.length)→True:=fun _ _=>trivial;have key:∀ m,aw (gD s.all.length (ef s x).1) m=true→m=57∨(1000000≤m∧m<1000005+s.all.length):=fun m hm=>by
    rcases (dP (gM au)).1 hm with h5 | ⟨i,hi,rfl⟩
    ·omega
    ·simp only[fS];split <;>omega
   have k1:=key m hm;have k2:=key m' hm';rw[jZ,jZ] at e
   (repeat' split at e) <;>omega
  ·rcases (dP (dJ _)).1 hm with h5 | ⟨i,hi,rfl⟩
   ·exact (dP (gM au)).2 (.inl h5)
   ·exact (dP (gM au)).2 (.inr ⟨i,by omega,(lX hi).symm⟩)
  ·have h57:m=57:=by
    rcases (dP (gM au)).1 hm with h5 | ⟨i,hi,e⟩
    ·rw[(dP (dJ _)).2 (.inl h5)] at hno;cases hno
    ·by_cases hi2:i=s.all.length
     ·subst hi2;simpa[fS] using e
     ·rw[(dP (dJ _)).2 (.inr ⟨i,by omega,by rw[e,lX (by omega)]⟩)] at hno;cases hno
   subst h57;rw[jZ,if_pos rfl];refine ⟨?_,by omega⟩;rw[fH,how _ (by omega)];exact eG (.inr (by omega)) fun i hi=>by simp only[bD];omega
 ·rintro r os' ⟨rfl,rfl⟩;rw[Ez J au hlen,hst];exact h
def fI:aD→List bg→Option aD
 |s,[]=>some s
 |s,x::l=>match gp s x with
  |some s'=>fI s' l
  |none=>none
theorem pJ:∀ (l:List bg) (s:aD) (l2:List bg),fI s (l++l2)=(fI s l).bind fun s'=>fI s' l2
 | [],s,l2=>rfl
 |x::l,s,l2=>by
  simp only[Z7,fI];cases gp s x with
  |none=>rfl
  |some s'=>exact pJ l s' l2
theorem xP{s s':aD}{x:bg}(hk:cC s)(h:gp s x=some s'):cC s'∧s'.ar=s.ar∧s'.all.length≤s.all.length+1:=by
 simp only[gp] at h;split at h
 ·obtain ⟨J,U,ah,_⟩:=hk.next h
  exact ⟨J,U,ah⟩
 ·cases h
theorem mi:∀ {l:List bg} {s s':aD},cC s→fI s l=some s'→cC s'∧s'.ar=s.ar∧s'.all.length≤s.all.length+l.length
 | [],s,s',hk,h=>by cases h;exact ⟨hk,rfl,Z3 _⟩
 |x::l,s,s',hk,h=>by
  simp only[fI] at h;cases hx:gp s x with
  |none=>rw[hx] at h;cases h
  |some s2 =>
   rw[hx] at h;obtain ⟨J,U,ah⟩:=xP hk hx;obtain ⟨k1,k2,k3⟩:=mi J h;exact ⟨k1,k2.trans U,by simp only[zx5];omega⟩
def fC(ar:Int)(l:List bg):Option aD:=fI (eM ar) l
def qZ(ar:Int)(l:List bg):cG:=fun r os'=>match fC ar l with
 |some s=>r=.tuple [.ptr 2000 [],.bool true]∧os'=du s
 |none=>r=.tuple [.nilp,.bool false]∧os'=[]
def r7(l:List bg)(t:Nat×aD):ai:=av [(6,.ptr 2000 []),(11,enc l),(12,.int .i64 l.length),(13,.int .i64 t.1)] (du t.2)
theorem Ge(ar:Int)(l:List bg)(ao:l.length≤200):cS Tryz.prog 62 [enc ar,enc l] [] (qZ ar l):=by
 refine cS.b6 Tryz.func62 zZ Ao Aw (u8 rfl) (u8 rfl) (fun m hm=>by simp[aw,aj] at hm) (fun hwf W0 bG E1 =>?_);simp only[uX,xc,bH,Z1];clear hwf;have R:=y6 @bZ (y6 @bC (y6 @bA aC))
 repeat' ((first |refine ae.aF (by decide +kernel) rfl fun K hK =>?_|refine aR.eM rfl (fun _ _ _=>rfl) ?_|(refine .ay [0,1,4,5,6,8,11,12,13,14,20] hK ?_;clear hK K)|(with_reducible refine .done (hK _ ?_);clear hK K)|refine ae.of rfl ?_|(with_reducible refine aB.aE (fun h =>?_) (fun h =>?_) <;>try simp only[h])) <;>try simp only[aG,R,simprocAttr])
 all_goals clear R
 refine ae.loop (r7 l) (fun t=>t.1≤l.length∧fI (eM ar) (l.take t.1)=some t.2) (fun t=>l.length-t.1) (0,eM ar) ⟨zy9 _,rfl⟩ ?_ ?_
 ·rw[zx0];refine bx.fn ?_ (fun n=>.inr rfl) ?_ (fun n x h=>(lx (kj ar) h).1)
  ·simp[cw,cq]
  ·have:=(dP (iE (eM ar).all.length) (n:=2000)).2 (.inl (by omega));simp[cH,I.only,cA,this]
 rintro ⟨i,s⟩ ⟨hi,hrun⟩;simp only at hi hrun;obtain ⟨hk,hme,hln⟩:=mi (kj ar) hrun;have hln2:s.all.length≤i:=by simpa[eM,hi] using hln
 have n8:aj (du s) 8=none:=eG (.inl (by omega)) fun i _=>by simp[bD];omega
 simp only[r7];by_cases hlt:i<l.length
 ·have hc:=gx hlt;have he:=fun A=>fb (A:=A) 4 hlt rfl;have hw:=gq (i:=i) (by omega);have hst:∀ A rest,db A (some 4) 8 [] (.agg [.int .i64 0,.int .i64 0,.int .i64 0,.int .i64 0]) (enc l[i]) rest (some (.agg [.int .i64 0,.int .i64 0,.int .i64 0,.int .i64 0]))=az rest (A.aS 8 (.box (enc l[i]))):=fun A rest=>dE (eh _) (by rw[fh];rfl) (eI _);have how:∀ (a b:aq) m,2000≤m→aj [(8,a),(8,b)] m=none:=fun a b m hm=>by simp only[aj];rw[if_neg (by omega),if_neg (by omega)]
  have hsp:l=l.take i++l[i]::l.drop (i+1):=by simp
  cases hn:gp s l[i] with
  |none =>
   have ab:ef s l[i]=(s,false):=by simp[ef,hn]
   have R:=y6 @hc (y6 @he (y6 @hst (y6 @n8 (y6 @bZ (y6 @bC (y6 @bA aC))))))
   repeat' ((first |refine ae.aF (by decide +kernel) rfl fun K hK =>?_|refine aR.rL (ow:=[(8,_),(8,_)]) hk (by omega) rfl (how _ _) ab ?_|(refine .ay [0,1,4,5,6,8,11,12,13,14,20] hK ?_;clear hK K)|(with_reducible refine .done (hK _ ?_);clear hK K)|refine ae.of rfl ?_|(with_reducible refine aB.aE (fun h =>?_) (fun h =>?_) <;>try simp only[h])) <;>try simp only[aG,R,simprocAttr])
   all_goals clear R
   have hno:fC ar l=none:=by
    rw[fC,hsp,pJ,hrun];simp only[Option.bind_some,fI,hn]
   refine ⟨[],[.nilp,.bool false],fun n x hx=>by simp[aj] at hx,⟨⟨_,rfl,.inl ⟨rfl,rfl,rfl⟩⟩,⟨_,rfl,.inl ⟨rfl,rfl,rfl⟩⟩,trivial⟩,?_⟩;unfold qZ;rw[hno];exact ⟨rfl,rfl⟩
  |some s2 =>
   have ab:ef s l[i]=(s2,true):=by simp[ef,hn]
   have R:=y6 @hc (y6 @he (y6 @hst (y6 @hw (y6 @n8 (y6 @bZ (y6 @bC (y6 @bA aC)))))))
   repeat' ((first |refine ae.aF (by decide +kernel) rfl fun K hK =>?_|refine aR.rL (ow:=[(8,_),(8,_)]) hk (by omega) rfl (how _ _) ab ?_|(refine .ay [0,1,4,5,6,8,11,12,13,14,20] hK ?_;clear hK K)|(with_reducible refine .done (hK _ ?_);clear hK K)|refine ae.of rfl ?_|(with_reducible refine aB.aE (fun h =>?_) (fun h =>?_) <;>try simp only[h])) <;>try simp only[aG,R,simprocAttr])
   all_goals clear R
   obtain ⟨hk2,hme2,hln3⟩:=xP hk hn;refine ⟨(i+1,s2),⟨by simp only;omega,?_⟩,by simp only;omega,?_⟩
   ·rw[zz3 hlt,pJ,hrun];simp only[Option.bind_some,fI,hn]
   ·refine bx.fn ?_ (fun n =>?_) ?_ (fun n x h=>(lx hk2 h).1)
    ·simp[cw,cq]
    ·simp only[fH];cases aj (du s2) n with
     |none=>exact .inl rfl
     |some y=>exact .inr rfl
    ·have:=(dP (iE s2.all.length) (n:=2000)).2 (.inl (by omega));simp[cH,I.only,cA,this]
 ·have hge:i=l.length:=by omega
  have hc:=gL hlt;subst hge;rw[zw1] at hrun;have R:=y6 @hc (y6 @bZ (y6 @bC (y6 @bA aC)))
  repeat' ((first |refine ae.aF (by decide +kernel) rfl fun K hK =>?_|(refine .ay [0,1,4,5,6,8,11,12,13,14,20] hK ?_;clear hK K)|(with_reducible refine .done (hK _ ?_);clear hK K)|refine ae.of rfl ?_|(with_reducible refine aB.aE (fun h =>?_) (fun h =>?_) <;>try simp only[h])) <;>try simp only[aG,R,simprocAttr])
  all_goals clear R
  refine ⟨du s,[.ptr 2000 [],.bool true],fun n x hx=>⟨hx,lx hk hx⟩,⟨⟨_,rfl,.inl ⟨rfl,rfl,?_⟩⟩,⟨_,rfl,.inl ⟨rfl,rfl,rfl⟩⟩,trivial⟩,?_⟩
  ·exact (dP (iE s.all.length) (n:=2000)).2 (.inl (by omega))
  ·unfold qZ fC;rw[hrun];exact ⟨rfl,rfl⟩
end Go.Proofs.YthbdbocionnfgaaGreatDoor
namespace Go.Proofs.YthbdbocionnfgaaGreatDoor
open Go Go.Abs Go.ChangeShapes Go.WideShapes Go.RowKit
open Go.Abs.Enc (enc)
theorem Tryz.own:ownKnob Tryz.prog.godebug=none:=by kernel_rfl
theorem Tryz.Wx:laidOutB Tryz.prog=true:=by kernel_rfl
theorem mT:iX Tryz.prog 3 Int:=X5 (by kernel_rfl) (by kernel_rfl)
theorem Xe:iX Tryz.prog 37 bg:=⟨by kernel_rfl,by decide,fun h=>by
 obtain ⟨vs,hv,hr⟩:=X7 [(3,0),(3,1),(3,2),(3,3)]
  [(1,fun v=>∃ a:Int,v=enc a),(1,fun v=>∃ a:Int,v=enc a),(1,fun v=>∃ a:Int,v=enc a),(1,fun v=>∃ a:Int,v=enc a)]
  (by kernel_rfl) (by simp only[qU];exact ⟨trivial,mT.aW,trivial,mT.aW,trivial,mT.aW,trivial,mT.aW,trivial⟩) (by kernel_rfl) h
 obtain ⟨v0,vs0,e0,aY,hv0⟩:=sd hv;obtain ⟨a0,f0⟩:∃ a:Int,v0=enc a:=aY;obtain ⟨v1,vs1,e1,J,hv1⟩:=sd hv0;obtain ⟨a1,f1⟩:∃ a:Int,v1=enc a:=J;obtain ⟨v2,vs2,e2,U,hv2⟩:=sd hv1;obtain ⟨a2,f2⟩:∃ a:Int,v2=enc a:=U;obtain ⟨v3,vs3,e3,ah,hv3⟩:=sd hv2;obtain ⟨a3,f3⟩:∃ a:Int,v3=enc a:=ah;have e4:=GV hv3;rw[e0,e1,e2,e3,e4,f0,f1,f2,f3] at hr;exact ⟨⟨a0,a1,a2,a3⟩,hr⟩⟩
theorem Xf:iX Tryz.prog 22 (List bg):=X6 (by kernel_rfl) Xe (by kernel_rfl)
theorem Xg:iX Tryz.prog 24 bu:=⟨by kernel_rfl,by decide,fun h=>by
 obtain ⟨a,b,c,hab⟩:=X8 (α:=Int) (β:=List bg) (γ:=Int) (u0:=3) (u1:=22) (u2:=3) (by kernel_rfl) mT Xf mT (by kernel_rfl) h;exact ⟨⟨a,b,c⟩,hab⟩⟩
theorem Y9{w:World}{D:aP}{E:aZ}{x y z:I}{a b c:Value}(hx:∃ cs,bB x a cs∧al w D E x cs)(hy:∃ cs,bB y b cs∧al w D E y cs)(hz:∃ cs,bB z c cs∧al w D E z cs):aI w D E [x,y,z] [a,b,c]:=by
 obtain ⟨c1,J,U⟩:=hx;obtain ⟨c2,ah,au⟩:=hy;obtain ⟨c3,h5,h6⟩:=hz;simp only[aI];exact ⟨a,[b,c],c1,rfl,J,U,b,[c],c2,rfl,ah,au,c,[],c3,rfl,h5,h6,rfl⟩
def pd : List (String × DataW Unit) := [("math/bits.deBruijn32tab", Rows.laid_math_bits_deBruijn32tab), ("math/bits.deBruijn64tab", Rows.laid_math_bits_deBruijn64tab), ("internal/strconv.uint64pow10", Rows.laid_internal_strconv_uint64pow10)]
def FA:List Int:=[1,10,100,1000,10000,100000,1000000,10000000,100000000,1000000000,10000000000,100000000000,1000000000000,10000000000000,100000000000000,1000000000000000,10000000000000000,100000000000000000,1000000000000000000,10000000000000000000]
theorem Vj : Tryz.prog.globalNamed "internal/strconv.uint64pow10" = some 3 := by kernel_rfl
theorem Zz:(Tryz.prog.globals[3]?).map (·.type)=some 209:=by kernel_rfl
theorem XV{W:World}(h:laidMetH Tryz.prog pd W):gP Tryz.prog W (fun _=>False):=by
 rw[MakeChecks.laidMetH_plain _ _ _ (by kernel_rfl)] at h;obtain ⟨g', t', cs, fuel, p, hg', ht', hvar, af⟩ := Lib.laidMet.reads h (n := "internal/strconv.uint64pow10") (d := Rows.laid_internal_strconv_uint64pow10) (by simp [pd])
 obtain rfl:=Option.some.inj (Vj.symm.trans hg');obtain rfl:=Option.some.inj (Zz.symm.trans ht');have hd':DataW.trod (fun _=>()) Tryz.prog W 0 (fun _=>true) false fuel 209 cs.toList=some (Lib.tabData .u64 FA,p):=af;have hc:=Lib.cells_of_tab (n:=20) (e:=171) (Wh (by kernel_rfl)) (by kernel_rfl) (by kernel_rfl) (by kernel_rfl) hd';intro g hg;refine ⟨id,?_⟩
 show W.var? Tryz.prog "internal/strconv.uint64pow10" = _
 rw[hvar];have:cs=(FA.map fun z=>Value.int .u64 z).toArray:=by rw[←hc]
 rw[this];rfl
end Go.Proofs.YthbdbocionnfgaaGreatDoor
namespace Go.Proofs.YthbdbocionnfgaaGreatDoor
open Go Go.Abs
open Go.Abs.Enc (enc)
theorem aR.Es{K:ai→Prop}{ar:Int}{l:List bg}{avs:List I}{a1 a2:Option (List I)}{dst:Option Nat}{rest:List aH}{ts:List (Nat×I)}{os0:List (Nat×aq)}(ao:l.length≤200)(hav:avs=[enc ar,enc l])(hno:∀ m,2000≤m→m<1000000→aj os0 m=none)
  (J:fC ar l=none→aR Tryz.prog dy false K (az rest ((av ts os0).aT dst (.tuple [.nilp,.bool false]))))
  (U:∀ s,fC ar l=some s→aR Tryz.prog dy false K (az rest ((av ts (du s++os0)).aT dst (.tuple [.ptr 2000 [],.bool true])))):aR Tryz.prog dy false K (.call 62 avs a1 a2 dst rest (av ts os0)):=by
 subst hav;refine .bO false [] [] [enc ar,enc l] _ rfl (Ge ar l ao) ⟨fun m x hx=>by simp[aj] at hx,fun m m' hm=>by simp[aw,aj] at hm⟩ ⟨.inl ⟨(kT _ _).symm,cA _ _,eh _⟩,.inl ⟨(kT _ _).symm,cA _ _,eh _⟩,trivial⟩ ?_ ?_
 ·intro r os' hp;unfold qZ at hp;cases hr:fC ar l with
  |none =>
   rw[hr] at hp;obtain ⟨rfl,rfl⟩:=hp;exact ⟨fun m y hy=>by simp[aj] at hy,fun m m' hm=>by simp[aw,aj] at hm,fun m hm=>hm,fun m hm=>by simp[aw,aj] at hm,rfl,fun h=>by cases h⟩
  |some s =>
   rw[hr] at hp;obtain ⟨rfl,rfl⟩:=hp;obtain ⟨hk,hme,hln⟩:=mi (kj ar) hr;have hln2:s.all.length≤200:=by have:(Go.Proofs.YthbdbocionnfgaaGreatDoor.eM ar).all.length=0:=rfl;omega
   refine ⟨fun m y hy=>⟨(lx hk hy).1,(lx hk hy).2,fun h=>by cases h⟩,fun m m' _ _ h=>h,fun m hm=>by simp[aw,aj] at hm,fun m hm _ =>?_,?_,fun h=>by cases h⟩
   ·have:=xJ hm;exact ⟨hno m (by omega) (by omega),by simp only[bI];omega⟩
   ·have:=(dP (iE s.all.length) (n:=2000)).2 (.inl (by omega));simp[I.only,I.ct,this]
 ·intro r os' hp;unfold qZ at hp;cases hr:fC ar l with
  |none =>
   rw[hr] at hp;obtain ⟨rfl,rfl⟩:=hp;exact J hr
  |some s =>
   rw[hr] at hp;obtain ⟨rfl,rfl⟩:=hp;rw[l9];exact U s hr
theorem aR.Et{K:ai→Prop}{ar:Int}{l:List bg}{avs:List I}{a1 a2:Option (List I)}{dst:Option Nat}{rest:List aH}{ts:List (Nat×I)}{os0:List (Nat×aq)}(ao:l.length≤200)(hr:fC ar l=none)(hav:avs=[enc ar,enc l])(hno:∀ m,2000≤m→m<1000000→aj os0 m=none)
  (J:aR Tryz.prog dy false K (az rest ((av ts os0).aT dst (.tuple [.nilp,.bool false])))):aR Tryz.prog dy false K (.call 62 avs a1 a2 dst rest (av ts os0)) :=
 aR.Es ao hav hno (fun _=>J) fun s h=>by rw[hr] at h;cases h
theorem aR.Eu{K:ai→Prop}{ar:Int}{l:List bg}{s:aD}{avs:List I}{a1 a2:Option (List I)}{dst:Option Nat}{rest:List aH}{ts:List (Nat×I)}{os0:List (Nat×aq)}(ao:l.length≤200)(hr:fC ar l=some s)(hav:avs=[enc ar,enc l])(hno:∀ m,2000≤m→m<1000000→aj os0 m=none)
  (J:aR Tryz.prog dy false K (az rest ((av ts (du s++os0)).aT dst (.tuple [.ptr 2000 [],.bool true])))):aR Tryz.prog dy false K (.call 62 avs a1 a2 dst rest (av ts os0)) :=
 aR.Es ao hav hno (fun h=>by rw[hr] at h;cases h) fun s' h=>by rw[hr] at h;cases h;exact J
theorem tj(k:Nat)(hk:k<2000)(z:aq):∀ m,2000≤m→m<1000000→aj [(k,z)] m=none:=fun m h _=>by simp only[aj];rw[if_neg (by omega)]
theorem bo:(∀ aN A,bh aN A .nilp=some .nilp)∧(∀ aN A (x:I),x.bw=true→bh aN A (.ref x)=some (.ref x)):=⟨fun _ _=>by simp only[bh],fun _ _ x h=>by simp only[bh,h,if_true]⟩
def ic(p:bu):Bool:=c4 0 5 p.ar&&(decide (p.j.length≤200)&&c4 0 p.j.length p.cE)
def dn(p:bu):Option aD:=if ic p then fC p.ar p.j else none
def km(o:Option aD):I:=match o with
 |some s=>.tuple [dH s,.int .i64 0]
 |none=>.tuple [.nilp,.int .i64 91]
def mY(p:bu):cG:=fun r os'=>match dn p with
 |some s=>r=.tuple [.ptr 2000 [],.int .i64 0]∧os'=du s
 |none=>r=.tuple [.nilp,.int .i64 91]∧os'=[]
theorem iL{p:bu}{s:aD}(h:dn p=some s):cC s∧s.ar=p.ar∧s.all.length≤p.j.length∧p.j.length≤200∧ic p=true∧fC p.ar p.j=some s:=by
 simp only[dn] at h;split at h
 ·rename_i bK;obtain ⟨hk,hme,hln⟩:=mi (kj p.ar) h;refine ⟨hk,hme,by simpa[eM] using hln,?_,bK,h⟩;simp only[ic,t8,decide_eq_true_eq] at bK;exact bK.2.1
 ·cases h
theorem MS{s:aD}(hk:cC s)(z:aq):∀ ts,cW (av ts (du s++[(1,z)])) 9 (.agg [.int .i64 s.ar,.mref 2001,.mref 2002,.int .i64 s.all.length,.mref 2003,.mref 2004])=some (fT s):=fun ts =>
 gU (gX (iE _) hk.cB fun n hn=>by
  rw[fH];cases h:aj (du s) n with
  |none=>simp[aw,h] at hn
  |some y=>rfl) 4
theorem wG:∀ a b c d e:I,(I.agg [a,.mref 2001,b,c,d,e]).bw=false:=fun a b c d e=>by simp[I.bw,I.ca]
theorem Ce(s:aD)(z:aq):aj (du s++[(1,z)]) 2000=some (.box (.agg [.int .i64 s.ar,.mref 2001,.mref 2002,.int .i64 s.all.length,.mref 2003,.mref 2004])):=by
 rw[fH,fw];rfl
theorem Cf(s:aD)(z:aq):aj (du s++[(1,z)]) 1=some z:=by
 rw[fH,eG (.inl (by omega)) fun i _=>by simp only[bD];omega];rfl
theorem CZ{p:bu}(h:I.gi [enc p]):p.j.length≤maxLen :=
 ((nt p.j).1 (by have:=h.1;simp only[enc,I.wf,I.gi] at this;exact this.2.1)).1
theorem pU(p:bu):bd Tryz.prog 69 [enc p] (km (dn p)):=by
 refine bd.b6 Tryz.func69 z7 Ap Ax (u8 rfl) (fun hwf W0 bG E1 =>?_);simp only[uY,xd,bH];have hlen:=CZ hwf;clear hwf;have hg:decide ((p.j.length:Int)>200) = !decide (p.j.length≤200):=by by_cases h:p.j.length≤200 <;>simp[h] <;>omega
 have hF1:=mw p.ar;have hF2:=oH p.cE 0 p.j.length;rcases q1:c4 0 5 p.ar <;>rcases q2:decide (p.j.length≤200) <;>rcases q3:c4 0 p.j.length p.cE
 case true.true.true =>
  have hok:ic p=true:=by simp[ic,q1,q2,q3]
  have ao:p.j.length≤200:=of_decide_eq_true q2;have hop:dn p=fC p.ar p.j:=by simp[dn,hok]
  rw[q1] at hF1;rw[q3] at hF2;rw[q2] at hg;rw[hop];cases hr:fC p.ar p.j with
  |none =>
   have R:=y6 @hg (y6 @bo (y6 @dI (y6 @bZ (y6 @bC (y6 @bA aC)))))
   repeat' ((first |(with_reducible refine .guard (fun hb =>?_) (fun hb =>?_) <;>try simp only[hb])|refine ae.aF (by decide +kernel) rfl fun K hK =>?_|refine .flat _ (hF1) rfl ?_|refine .flat _ (hF2) rfl ?_|refine aR.Et ao hr rfl (tj 1 (by decide) _) ?_|(refine .ay [0,1,2,3,4,5,24,34] hK ?_;clear hK K)|(with_reducible refine .done (hK _ ?_);clear hK K)|refine ae.of rfl ?_|(with_reducible refine aB.aE (fun h =>?_) (fun h =>?_) <;>try simp only[h])) <;>try simp only[aG,R,simprocAttr])
   all_goals clear R
   rfl
  |some s =>
   have hfin:=MS (mi (kj p.ar) hr).1 (.box (enc p));have hla:=Ce s (.box (enc p));have hlb:=Cf s (.box (enc p));have R:=y6 @hg (y6 @hfin (y6 @hla (y6 @hlb (y6 @wG (y6 @bo (y6 @dI (y6 @bZ (y6 @bC (y6 @bA aC)))))))))
   repeat' ((first |(with_reducible refine .guard (fun hb =>?_) (fun hb =>?_) <;>try simp only[hb])|refine ae.aF (by decide +kernel) rfl fun K hK =>?_|refine .flat _ (hF1) rfl ?_|refine .flat _ (hF2) rfl ?_|refine aR.Eu ao hr rfl (tj 1 (by decide) _) ?_|(refine .ay [0,1,2,3,4,5,24,34] hK ?_;clear hK K)|(with_reducible refine .done (hK _ ?_);clear hK K)|refine ae.of rfl ?_|(with_reducible refine aB.aE (fun h =>?_) (fun h =>?_) <;>try simp only[h])) <;>try simp only[aG,R,simprocAttr])
   all_goals clear R
   rfl
 all_goals
  have hop:dn p=none:=by simp[dn,ic,q1,q2,q3]
  rw[q1] at hF1;rw[q3] at hF2;rw[q2] at hg;rw[hop];have R:=y6 @hg (y6 @bo (y6 @dI (y6 @bZ (y6 @bC (y6 @bA aC)))))
  repeat' ((first |(with_reducible refine .guard (fun hb =>?_) (fun hb =>?_) <;>try simp only[hb])|refine ae.aF (by decide +kernel) rfl fun K hK =>?_|refine .flat _ (hF1) rfl ?_|refine .flat _ (hF2) rfl ?_|(refine .ay [0,1,2,3,4,5,24,34] hK ?_;clear hK K)|(with_reducible refine .done (hK _ ?_);clear hK K)|refine ae.of rfl ?_|(with_reducible refine aB.aE (fun h =>?_) (fun h =>?_) <;>try simp only[h])) <;>try simp only[aG,R,simprocAttr])
  all_goals clear R
  rfl
theorem x4(p:bu):cS Tryz.prog 69 [enc p] [] (mY p):=by
 refine cS.b6 Tryz.func69 z7 Ap Ax (u8 rfl) (u8 rfl) (fun m hm=>by simp[aw,aj] at hm) (fun hwf W0 bG E1 =>?_);simp only[uY,xd,bH];have hlen:=CZ hwf;clear hwf;have hg:decide ((p.j.length:Int)>200) = !decide (p.j.length≤200):=by by_cases h:p.j.length≤200 <;>simp[h] <;>omega
 have hF1:=mw p.ar;have hF2:=oH p.cE 0 p.j.length;have fail:∀ ts os,dn p=none→Abs.bW ts 2=.nilp→Abs.bW ts 3=.int .i64 91→iY [.tmp 2,.tmp 3] (mY p) (av ts os):=fun ts os hop U ah=>by
  refine ⟨[],[.nilp,.int .i64 91],fun n x hx=>by simp[aj] at hx,⟨⟨.nilp,congrArg some U,.inl ⟨rfl,rfl,rfl⟩⟩,⟨.int .i64 91,congrArg some ah,.inl ⟨rfl,rfl,rfl⟩⟩,trivial⟩,?_⟩;unfold mY;rw[hop];exact ⟨rfl,rfl⟩
 rcases q1:c4 0 5 p.ar <;>rcases q2:decide (p.j.length≤200) <;>rcases q3:c4 0 p.j.length p.cE
 case true.true.true =>
  have hok:ic p=true:=by simp[ic,q1,q2,q3]
  have ao:p.j.length≤200:=of_decide_eq_true q2;have hop:dn p=fC p.ar p.j:=by simp[dn,hok]
  rw[q1] at hF1;rw[q3] at hF2;rw[q2] at hg;cases hr:fC p.ar p.j with
  |none =>
   rw[hr] at hop;have R:=y6 @hg (y6 @bo (y6 @dI (y6 @bZ (y6 @bC (y6 @bA aC)))))
   repeat' ((first |(with_reducible refine .guard (fun hb =>?_) (fun hb =>?_) <;>try simp only[hb])|refine ae.aF (by decide +kernel) rfl fun K hK =>?_|refine .flat _ (hF1) rfl ?_|refine .flat _ (hF2) rfl ?_|refine aR.Et ao hr rfl (tj 1 (by decide) _) ?_|(refine .ay [0,1,2,3,4,5,24,34] hK ?_;clear hK K)|(with_reducible refine .done (hK _ ?_);clear hK K)|refine ae.of rfl ?_|(with_reducible refine aB.aE (fun h =>?_) (fun h =>?_) <;>try simp only[h])) <;>try simp only[aG,R,simprocAttr])
   all_goals clear R
   exact fail _ _ hop rfl rfl
  |some s =>
   have hk:=(mi (kj p.ar) hr).1;rw[hr] at hop;have hla:=Ce s (.box (enc p));have hlb:=Cf s (.box (enc p));have R:=y6 @hg (y6 @hla (y6 @hlb (y6 @wG (y6 @bo (y6 @dI (y6 @bZ (y6 @bC (y6 @bA aC))))))))
   repeat' ((first |(with_reducible refine .guard (fun hb =>?_) (fun hb =>?_) <;>try simp only[hb])|refine ae.aF (by decide +kernel) rfl fun K hK =>?_|refine .flat _ (hF1) rfl ?_|refine .flat _ (hF2) rfl ?_|refine aR.Eu ao hr rfl (tj 1 (by decide) _) ?_|(refine .ay [0,1,2,3,4,5,24,34] hK ?_;clear hK K)|(with_reducible refine .done (hK _ ?_);clear hK K)|refine ae.of rfl ?_|(with_reducible refine aB.aE (fun h =>?_) (fun h =>?_) <;>try simp only[h])) <;>try simp only[aG,R,simprocAttr])
   all_goals clear R
   refine ⟨du s,[.ptr 2000 [],.int .i64 0],fun n x hx=>⟨?_,lx hk hx⟩,⟨⟨_,rfl,.inl ⟨rfl,rfl,?_⟩⟩,⟨_,rfl,.inl ⟨rfl,rfl,rfl⟩⟩,trivial⟩,?_⟩
   ·show aj (du s++_) n=some x
    rw[fH,hx]
   ·exact (dP (iE s.all.length) (n:=2000)).2 (.inl (by omega))
   ·unfold mY;rw[hop];exact ⟨rfl,rfl⟩
 all_goals
  have hop:dn p=none:=by simp[dn,ic,q1,q2,q3]
  rw[q1] at hF1;rw[q3] at hF2;rw[q2] at hg;have R:=y6 @hg (y6 @bo (y6 @dI (y6 @bZ (y6 @bC (y6 @bA aC)))))
  repeat' ((first |(with_reducible refine .guard (fun hb =>?_) (fun hb =>?_) <;>try simp only[hb])|refine ae.aF (by decide +kernel) rfl fun K hK =>?_|refine .flat _ (hF1) rfl ?_|refine .flat _ (hF2) rfl ?_|(refine .ay [0,1,2,3,4,5,24,34] hK ?_;clear hK K)|(with_reducible refine .done (hK _ ?_);clear hK K)|refine ae.of rfl ?_|(with_reducible refine aB.aE (fun h =>?_) (fun h =>?_) <;>try simp only[h])) <;>try simp only[aG,R,simprocAttr])
  all_goals clear R
  exact fail _ _ hop rfl rfl
def oQ(p:bu):Int:=match dn p with
 |some _=>0
 |none=>91
theorem r0(p:bu):bd Tryz.prog 23 [enc p] (enc (oQ p)):=by
 refine bd.b6 Tryz.func23 Ik Jq KI (u8 rfl) (fun hwf W0 bG E1 =>?_);simp only[y5,DH,bH];have hF:=pU p;simp only[oQ];cases ho:dn p with
 |none =>
  rw[ho] at hF;simp only[km] at hF;have R:=y6 @bo (y6 @dI (y6 @bZ (y6 @bC (y6 @bA aC))))
  repeat' ((first |refine ae.aF (by decide +kernel) rfl fun K hK =>?_|refine .lead _ (hF) ?_|(refine .ay [0,1,2,4] hK ?_;clear hK K)|(with_reducible refine .done (hK _ ?_);clear hK K)|refine ae.of rfl ?_|(with_reducible refine aB.aE (fun h =>?_) (fun h =>?_) <;>try simp only[h])) <;>try simp only[aG,R,simprocAttr])
  all_goals clear R
  all_goals rfl
 |some s =>
  rw[ho] at hF;simp only[km] at hF;have R:=y6 @eF (y6 @bo (y6 @dI (y6 @bZ (y6 @bC (y6 @bA aC)))))
  repeat' ((first |refine ae.aF (by decide +kernel) rfl fun K hK =>?_|refine .lead _ (hF) ?_|(refine .ay [0,1,2,4] hK ?_;clear hK K)|(with_reducible refine .done (hK _ ?_);clear hK K)|refine ae.of rfl ?_|(with_reducible refine aB.aE (fun h =>?_) (fun h =>?_) <;>try simp only[h])) <;>try simp only[aG,R,simprocAttr])
  all_goals clear R
  all_goals rfl
def gm:bg:=⟨0,0,0,0⟩
theorem mF:I.agg [.int .i64 0,.int .i64 0,.int .i64 0,.int .i64 0]=enc gm:=rfl
def tO(k:Nat)(l:List bg)(m:Nat):List (Nat×aq):=[(k,.box (.agg ((l++List.replicate m gm).map enc)))]
def qb(l:List bg)(v:I)(os':List (Nat×aq)):Prop:=(l=[]∧(v=.nils 4∨v=.c0 4)∧os'=[])∨(l≠[]∧∃ m,v=.view 7 [] 4 0 l.length∧os'=tO 7 l m)
def Yl(l:List bg):cG:=fun r os'=>qb l r os'
theorem Gc(l:List bg)(ao:l.length≤1000):cS Tryz.prog 59 [enc l] [] (Yl l):=by
 refine cS.b6 Tryz.func59 zY An Av (u8 rfl) (u8 rfl) (fun m hm=>by simp[aw,aj] at hm) (fun hwf W0 bG E1 =>?_);simp only[uW,xb,bH];refine .gC (by decide +kernel) fun K hK =>?_;simp only[vO,bF,simprocAttr];refine .done (hK _ ?_);clear hK K;refine ae.seq (ae.seq ?_);by_cases hn:l=[]
 ·subst hn;refine .kq (by decide +kernel) fun K hK =>?_;simp only[qo,bF,simprocAttr];simp only[ub,List.isEmpty_nil,pw];refine .any rfl fun b _ =>?_
  try simp only[bF,simprocAttr]
  generalize (b==0)=t;cases t
  ·refine .done (hK _ ?_);clear hK K;try simp only[eA]
   refine ae.jQ ?_;simp only[aB,bF,simprocAttr];refine ⟨fun h =>?_,fun h =>?_⟩
   ·cases h
   refine ae.skip ?_;try simp only[eA,simprocAttr]
   refine .gC (by decide +kernel) fun K hK =>?_;simp only[qp,bF,simprocAttr]
   try simp only[jk,mF,bF,simprocAttr]
   refine .done (hK _ ?_);clear hK K;refine ae.ret ?_;simp only[oh];exact ⟨[],[.c0 4],BM,⟨⟨.c0 4,rfl,.inl ⟨rfl,rfl,rfl⟩⟩,trivial⟩,.inl ⟨rfl,.inr rfl,rfl⟩⟩
  ·refine .done (hK _ ?_);clear hK K;refine ae.jQ ?_;simp only[aB,bF,simprocAttr];refine ⟨fun h =>?_,fun h =>?_⟩
   ·refine .gC (by decide +kernel) fun K hK =>?_;simp only[vP,bF,simprocAttr];refine .done (hK _ ?_);clear hK K;refine ae.ret ?_;simp only[eA,oh];exact ⟨[],[.nils 4],BM,⟨⟨.nils 4,rfl,.inl ⟨rfl,rfl,rfl⟩⟩,trivial⟩,.inl ⟨rfl,.inl rfl,rfl⟩⟩
   ·cases h
 ·have hu:jH (enc l)=false:=by rw[ub];simpa using hn
  refine .kq (by decide +kernel) fun K hK =>?_;simp only[qo,bF,simprocAttr]
  try simp only[hu,CA _ l hn,bF,simprocAttr]
  refine .done (hK _ ?_);clear hK K;try simp only[eA]
  refine ae.jQ ?_;simp only[aB,bF,simprocAttr];refine ⟨fun h =>?_,fun h =>?_⟩
  ·cases h
  refine ae.skip ?_;try simp only[eA,simprocAttr]
  refine .gC (by decide +kernel) fun K hK =>?_;simp only[qp,bF,simprocAttr]
  try simp only[jk,mF,bF,simprocAttr]
  refine aR.uD gm rfl hn rfl (by omega) (by simp only[maxLen];omega) fun m =>?_
  try simp only[bF,simprocAttr]
  refine .done (hK _ ?_);clear hK K;refine ae.ret ?_;simp only[oh];exact ⟨tO 7 l m,[.view 7 [] 4 0 l.length],Wd rfl (fun p=>by simp only[I.only];exact fu p _),⟨⟨_,rfl,.inl ⟨rfl,rfl,rfl⟩⟩,trivial⟩,.inr ⟨hn,m,rfl,rfl⟩⟩
theorem oR{l:List bg}{v:I}{os':List (Nat×aq)}(h:qb l v os'):(∀ n x,aj os' n=some x→x.only (aw os')=true∧x.ej=true)∧v.only (aw os')=true∧(∀ m,aw os' m=true→m=7)∧v.bR=true∧bY none v=true∧v.aX=.one∧v.size=1∧v.isAgg=false:=by
 rcases h with ⟨rfl,rfl | rfl,rfl⟩ | ⟨hn,m,rfl,rfl⟩
 ·exact ⟨fun n x hx=>by simp[aj] at hx,rfl,fun m hm=>by simp[aw,aj] at hm,rfl,rfl,rfl,rfl,rfl⟩
 ·exact ⟨fun n x hx=>by simp[aj] at hx,rfl,fun m hm=>by simp[aw,aj] at hm,rfl,rfl,rfl,rfl,rfl⟩
 ·refine ⟨fun n x hx =>?_,rfl,fun m hm =>?_,rfl,rfl,rfl,rfl,rfl⟩
  ·simp only[tO,aj] at hx;split at hx
   ·cases hx;exact ⟨by simp only[aq.only,I.only];exact fu _ _,rfl⟩
   ·cases hx
  ·simp only[aw,tO,aj] at hm;split at hm
   ·assumption
   ·simp at hm
theorem Fk{ts:List (Nat×I)}{os0 os':List (Nat×aq)}(hno:aj os0 7=none)(h:∀ m,aw os' m=true→m=7):av ts (os'++os0)=av ts (os0++os'):=by
 simp only[av,ai.mk.injEq,true_and]
 funext n
 rw[fH,fH];cases J:aj os' n with
 |none=>simp only;cases aj os0 n <;>rfl
 |some y =>
  have:=h n (by simp[aw,J]);subst this;rw[hno]
theorem aR.J2{K:ai→Prop}{l:List bg}{avs:List I}{a1 a2:Option (List I)}{dst:Option Nat}{rest:List aH}{ts:List (Nat×I)}{os0:List (Nat×aq)}(ao:l.length≤1000)(hav:a1=some [enc l])(hf:b7 false (av ts os0) avs=some [enc l])(hno:aj os0 7=none)
  (h:∀ v os',qb l v os'→aR Tryz.prog dy false K (az rest ((av ts (os0++os')).aT dst v))):aR Tryz.prog dy false K (.call 59 avs a1 a2 dst rest (av ts os0)):=by
 have harg:gR false (av ts os0) [] [] avs [enc l]:=by
  match avs,hf with
  | [],hf=>simp[b7] at hf
  | [x],hf =>
   refine ⟨.inr ?_,trivial⟩;simp only[b7] at hf;split at hf
   ·rename_i y ys J U;cases U;cases hf;exact J
   ·cases hf
  |x::y::r,hf =>
   simp only[b7] at hf;split at hf
   ·rename_i J U;split at U <;>cases U;cases hf
   ·cases hf
 refine .bO false [] [] [enc l] _ rfl (Gc l ao) ⟨fun m x hx=>by simp[aj] at hx,fun m m' hm=>by simp[aw,aj] at hm⟩ (by simpa[iI,AD] using harg) ?_ ?_
 ·intro r os' hp;obtain ⟨J,U,ah,_⟩:=oR hp;exact ⟨fun m y hy=>⟨(J m y hy).1,(J m y hy).2,fun h=>by cases h⟩,fun m m' _ _ h=>h,fun m hm=>by simp[aw,aj] at hm,fun m hm _=>by rw[ah m hm];exact ⟨hno,by decide⟩,U,fun h=>by cases h⟩
 ·intro r os' hp;rw[l9,kr (ρ:=bI []) (fun _=>rfl),Fk hno (oR hp).2.2.1];exact h r os' hp
def dN(p:bu)(v:I):I:=.agg [.int .i64 p.ar,v,.int .i64 p.cE]
def Ym(p:bu):cG:=fun r os'=>∃ v,r=dN p v∧qb p.j v os'
theorem kb:(∀ p v,(dN p v).dR=some [.int .i64 p.ar,v,.int .i64 p.cE])∧(∀ p v,(dN p v).bR=true)∧(∀ (a c:Int) v w,dD [.int .i64 a,v,.int .i64 c] 1 1 w=some w)∧(∀ (a c:Int) v w,dD [.int .i64 a,v,.int .i64 c] 0 0 w=some w) :=
 ⟨fun _ _=>rfl,fun _ _=>rfl,fun _ _ _ _=>jy (by simp) rfl,fun _ _ _ _=>jy (by simp) rfl⟩
theorem Ga(p:bu)(ao:p.j.length≤1000):cS Tryz.prog 57 [enc p] [] (Ym p):=by
 refine cS.b6 Tryz.func57 zX Am Au (u8 rfl) (u8 rfl) (fun m hm=>by simp[aw,aj] at hm) (fun hwf W0 bG E1 =>?_);simp only[uV,xa,bH];clear hwf;have hfe:∀ A,b7 false A [enc p.j]=some [enc p.j]:=fun A=>by simp only[b7,lJ]
 have R:=y6 @dI (y6 @bZ (y6 @bC (y6 @bA aC)))
 repeat' ((first |refine ae.aF (by decide +kernel) rfl fun K hK =>?_|refine aR.J2 ao rfl (hfe _) rfl (fun v os' hc =>?_)|(refine .ay [0,1,2] hK ?_;clear hK K)|(with_reducible refine .done (hK _ ?_);clear hK K)|refine ae.of rfl ?_|(with_reducible refine aB.aE (fun h =>?_) (fun h =>?_) <;>try simp only[h])) <;>try simp only[aG,R,Z7,simprocAttr])
 all_goals clear R
 obtain ⟨g1,g2,g3,g4,g5,g6,g7,g8⟩:=oR hc;have hst:∀ A rest,db A none 1 [1] (enc p) v rest (some (enc p.j))=az rest (A.aS 1 (.box (dN p v))):=fun A rest=>dE g4 g5 (g6.trans rfl);have hok:bY (some 3) (dN p v)=true:=by simp[bY,dN,I.isAgg,I.size,I.sizes,g7]
 have hsh:(dN p v).aX=.eJ [.one,.one,.one]:=by simp[dN,I.aX,I.cV,g6]
 have hst2:∀ A rest,db A (some 3) 2 [] (.agg [.int .i64 0,.nils 4,.int .i64 0]) (dN p v) rest (some (.agg [.int .i64 0,.nils 4,.int .i64 0]))=az rest (A.aS 2 (.box (dN p v))):=fun A rest=>dE rfl hok hsh
 try simp only[hst,bF,simprocAttr]
 have R:=y6 @hst (y6 @hok (y6 @hst2 (y6 @kb (y6 @dI (y6 @bZ (y6 @bC (y6 @bA aC)))))))
 repeat' ((first |refine ae.aF (by decide +kernel) rfl fun K hK =>?_|(refine .ay [0,1,2] hK ?_;clear hK K)|(with_reducible refine .done (hK _ ?_);clear hK K)|refine ae.of rfl ?_|(with_reducible refine aB.aE (fun h =>?_) (fun h =>?_) <;>try simp only[h])) <;>try simp only[aG,R,simprocAttr])
 all_goals clear R
 refine ⟨os',[dN p v],fun n x hx=>⟨?_,g1 n x hx⟩,⟨⟨dN p v,?_,.inl ⟨rfl,rfl,?_⟩⟩,trivial⟩,v,rfl,hc⟩
 ·have:=g3 n (by simp[aw,hx]);subst this;simp only[av,aj,Nat.reduceEqDiff,if_false];exact hx
 ·simp[rf,cK,av,Abs.bW,aj,I.at,hok]
 ·simp[dN,I.only,I.ct,g2]
theorem x2(l:List bg)(ao:l.length≤1000):bd Tryz.prog 59 [enc l] (enc l):=by
 refine bd.b6 Tryz.func59 zY An Av (u8 rfl) (fun hwf W0 bG E1 =>?_);simp only[uW,xb,bH];refine .gC (by decide +kernel) fun K hK =>?_;simp only[vO,bF,simprocAttr];refine .done (hK _ ?_);clear hK K;refine ae.seq (ae.seq ?_);by_cases hn:l=[]
 ·subst hn;refine .kq (by decide +kernel) fun K hK =>?_;simp only[qo,bF,simprocAttr];simp only[ub,List.isEmpty_nil,pw];refine .any rfl fun b _ =>?_
  try simp only[bF,simprocAttr]
  generalize (b==0)=t;cases t
  ·refine .done (hK _ ?_);clear hK K;try simp only[eA]
   refine ae.jQ ?_;simp only[aB,bF,simprocAttr];refine ⟨fun h =>?_,fun h =>?_⟩
   ·cases h
   refine ae.skip ?_;try simp only[eA,simprocAttr]
   refine .gC (by decide +kernel) fun K hK =>?_;simp only[qp,bF,simprocAttr]
   try simp only[jk,mF,bF,simprocAttr]
   refine .done (hK _ ?_);clear hK K;refine ae.ret ?_;simp only[bF,simprocAttr];rfl
  ·refine .done (hK _ ?_);clear hK K;refine ae.jQ ?_;simp only[aB,bF,simprocAttr];refine ⟨fun h =>?_,fun h =>?_⟩
   ·refine .gC (by decide +kernel) fun K hK =>?_;simp only[vP,bF,simprocAttr];refine .done (hK _ ?_);clear hK K;refine ae.ret ?_;simp only[eA,bF,simprocAttr];rfl
   ·cases h
 ·have hu:jH (enc l)=false:=by rw[ub];simpa using hn
  refine .kq (by decide +kernel) fun K hK =>?_;simp only[qo,bF,simprocAttr]
  try simp only[hu,CA _ l hn,bF,simprocAttr]
  refine .done (hK _ ?_);clear hK K;try simp only[eA]
  refine ae.jQ ?_;simp only[aB,bF,simprocAttr];refine ⟨fun h =>?_,fun h =>?_⟩
  ·cases h
  refine ae.skip ?_;try simp only[eA,simprocAttr]
  refine .gC (by decide +kernel) fun K hK =>?_;simp only[qp,bF,simprocAttr]
  try simp only[jk,mF,bF,simprocAttr]
  refine aR.uD gm rfl hn rfl (by omega) (by simp only[maxLen];omega) fun m =>?_
  try simp only[bF,simprocAttr]
  refine .done (hK _ ?_);clear hK K;refine ae.ret ?_;simp only[bF,simprocAttr]
  try simp only[vF (α:=bg) (sz:=4) rfl,List.take_left,bF,simprocAttr]
theorem x1(p:bu)(ao:p.j.length≤1000):bd Tryz.prog 57 [enc p] (enc p):=by
 refine bd.b6 Tryz.func57 zX Am Au (u8 rfl) (fun hwf W0 bG E1 =>?_);simp only[uV,xa,bH];clear hwf;have hst:∀ A rest,db A none 1 [1] (enc p) (enc p.j) rest (some (enc p.j))=az rest (A.aS 1 (.box (enc p))):=fun A rest=>dE (eh _) (by simp[kS,kR]) rfl;have hst2:∀ A rest,db A (some 3) 2 [] (.agg [.int .i64 0,.nils 4,.int .i64 0]) (enc p) rest (some (.agg [.int .i64 0,.nils 4,.int .i64 0]))=az rest (A.aS 2 (.box (enc p))):=fun A rest=>dE (eh _) (by rw[fh];rfl) (eI _);have R:=y6 @hst (y6 @hst2 (y6 @dI (y6 @bZ (y6 @bC (y6 @bA aC)))))
 repeat' ((first |refine ae.aF (by decide +kernel) rfl fun K hK =>?_|refine .lead _ (x2 p.j ao) ?_|(refine .ay [0,1,2] hK ?_;clear hK K)|(with_reducible refine .done (hK _ ?_);clear hK K)|refine ae.of rfl ?_|(with_reducible refine aB.aE (fun h =>?_) (fun h =>?_) <;>try simp only[h])) <;>try simp only[aG,R,simprocAttr])
 all_goals clear R
def gF(p:bu)(x:bg):bu×Int:=if p.j.length=200 then (⟨0,[],0⟩,2) else (⟨p.ar,p.j++[x],p.cE⟩,0)
theorem aR.Kc{K:ai→Prop}{p:bu}{avs:List I}{a1 a2:Option (List I)}{dst:Option Nat}{rest:List aH}{ts:List (Nat×I)}{os0:List (Nat×aq)}(ao:p.j.length≤1000)(hav:avs=[enc p])(hno:aj os0 7=none)
  (h:∀ v os',qb p.j v os'→aR Tryz.prog dy false K (az rest ((av ts (os0++os')).aT dst (dN p v)))):aR Tryz.prog dy false K (.call 57 avs a1 a2 dst rest (av ts os0)):=by
 subst hav;refine .bO false [] [] [enc p] _ rfl (Ga p ao) ⟨fun m x hx=>by simp[aj] at hx,fun m m' hm=>by simp[aw,aj] at hm⟩ ⟨.inl ⟨(kT _ _).symm,cA _ _,eh _⟩,trivial⟩ ?_ ?_
 ·rintro r os' ⟨v,rfl,hp⟩;obtain ⟨J,U,ah,_⟩:=oR hp;exact ⟨fun m y hy=>⟨(J m y hy).1,(J m y hy).2,fun h=>by cases h⟩,fun m m' _ _ h=>h,fun m hm=>by simp[aw,aj] at hm,fun m hm _=>by rw[ah m hm];exact ⟨hno,by decide⟩,by simp[dN,I.only,I.ct,U],fun h=>by cases h⟩
 ·rintro r os' ⟨v,rfl,hp⟩;rw[l9,kr (ρ:=bI []) (fun _=>rfl),Fk hno (oR hp).2.2.1];exact h v os' hp
theorem sI{p:bu}{k n:Nat}{xs l:List bg}{A:ai}(hA:A.o k=some (.box (.agg (xs.map enc))))(hx:xs.take n=l):bh true A (dN p (.view k [] 4 0 n))=some (enc (⟨p.ar,l,p.cE⟩:bu)):=by
 have J:bh true A (.view k [] 4 0 n)=some (enc l):=by
  rw[vG,hA];have:lM 4 0 n (some (xs.map enc))=some (enc l):=by rw[vF (α:=bg) (sz:=4) rfl,hx]
  exact this
 have U:∀ k n,bh true A (.int k n)=some (.int k n):=fun k n=>by simp only[bh]
 simp only[dN,sH,sK,sM,J,U,jM,Z8];rfl
theorem ur(p:bu)(x:bg)(ao:p.j.length≤200):bd Tryz.prog 73 [enc p,enc x] (.tuple [enc (gF p x).1,enc (gF p x).2]):=by
 refine bd.b6 Tryz.func73 IK JO K6 (u8 rfl) (fun hwf W0 bG E1 =>?_);simp only[zu,D8,bH,Z1];clear hwf;rcases q:((p.j.length:Int)==200)
 case true =>
  have U:p.j.length=200:=by simp at q;omega
  have hw:gF p x=(⟨0,[],0⟩,2):=by simp[gF,U]
  rw[hw];have R:=y6 @q (y6 @p7 (y6 @rF (y6 @dI (y6 @bZ (y6 @bC (y6 @bA aC))))))
  repeat' ((first |refine ae.aF (by decide +kernel) rfl fun K hK =>?_|(refine .ay [0,1,2,3,4,5,9] hK ?_;clear hK K)|(with_reducible refine .done (hK _ ?_);clear hK K)|refine ae.of rfl ?_|(with_reducible refine aB.aE (fun h =>?_) (fun h =>?_) <;>try simp only[h])) <;>try simp only[aG,R,simprocAttr])
  all_goals clear R
  rfl
 have hne:¬ p.j.length=200:=fun h=>by rw[h] at q;simp at q
 have hw:gF p x=(⟨p.ar,p.j++[x],p.cE⟩,0):=by simp[gF,hne]
 rw[hw];have hbs:=iw 4 x rfl;have R:=y6 @hbs (y6 @q (y6 @dI (y6 @bZ (y6 @bC (y6 @bA aC)))))
 repeat' ((first |refine ae.aF (by decide +kernel) rfl fun K hK =>?_|refine aR.Kc (by omega) rfl rfl (fun v os' hc =>?_)|(refine .ay [0,1,2,3,4,5,9] hK ?_;clear hK K)|(with_reducible refine .done (hK _ ?_);clear hK K)|refine ae.of rfl ?_|(with_reducible refine aB.aE (fun h =>?_) (fun h =>?_) <;>try simp only[h])) <;>try simp only[aG,R,Z7,simprocAttr])
 all_goals clear R
 obtain ⟨g1,g2,g3,g4,g5,g6,g7,g8⟩:=oR hc;have hok:bY (some 3) (dN p v)=true:=by simp[bY,dN,I.isAgg,I.size,I.sizes,g7]
 have hsh:(dN p v).aX=.eJ [.one,.one,.one]:=by simp[dN,I.aX,I.cV,g6]
 have hst:∀ A rest,db A (some 3) 2 [] (enc p) (dN p v) rest (some (enc p))=az rest (A.aS 2 (.box (dN p v))):=fun A rest=>dE rfl hok hsh
 try simp only[hst,bF,simprocAttr]
 have R:=y6 @hbs (y6 @mF (y6 @g5 (y6 @kb (y6 @dI (y6 @bZ (y6 @bC (y6 @bA aC)))))))
 repeat' ((first |refine ae.aF (by decide +kernel) rfl fun K hK =>?_|(refine .ay [0,1,2,3,4,5,9] hK ?_;clear hK K)|(with_reducible refine .done (hK _ ?_);clear hK K)|refine ae.of rfl ?_|(with_reducible refine aB.aE (fun h =>?_) (fun h =>?_) <;>try simp only[h])) <;>try simp only[aG,R,simprocAttr])
 all_goals clear R
 have hst2:∀ A rest k n w,db A none 2 [1] (dN p w) (.view k [] 4 0 n) rest (some v)=az rest (A.aS 2 (.box (dN p (.view k [] 4 0 n)))):=fun A rest k n w=>dE rfl rfl (by rw[g6];rfl);have hok2:∀ k n,bY (some 3) (dN p (.view k [] 4 0 n))=true:=fun _ _=>rfl;have hst3:∀ A rest k n,db A (some 3) 4 [] (.agg [.int .i64 0,.nils 4,.int .i64 0]) (dN p (.view k [] 4 0 n)) rest (some (.agg [.int .i64 0,.nils 4,.int .i64 0]))=az rest (A.aS 4 (.box (dN p (.view k [] 4 0 n)))):=fun A rest k n=>dE rfl rfl rfl;have hlx:([x]:List bg).length=1:=rfl;rcases hc with ⟨hj,rfl | rfl,rfl⟩ | ⟨hj,m,rfl,rfl⟩
 ·refine aR.G7 gm rfl (by simp) rfl (by simp) (by simp[maxLen]) fun q =>?_;have hf:=fun A h=>sI (p:=p) (k:=17) (n:=1) (xs:=[x]++List.replicate q gm) (l:=p.j++[x]) (A:=A) h (by rw[hj];rfl)
  try simp only[hlx,hst2,kb,aC,bF,simprocAttr]
  have R:=y6 @hst2 (y6 @hok2 (y6 @hst3 (y6 @hf (y6 @kb (y6 @dI (y6 @bZ (y6 @bC (y6 @bA aC))))))))
  repeat' ((first |refine ae.aF (by decide +kernel) rfl fun K hK =>?_|(refine .ay [0,1,2,3,4,5,9] hK ?_;clear hK K)|(with_reducible refine .done (hK _ ?_);clear hK K)|refine ae.of rfl ?_|(with_reducible refine aB.aE (fun h =>?_) (fun h =>?_) <;>try simp only[h])) <;>try simp only[aG,R,simprocAttr])
  all_goals clear R
 ·refine aR.uD gm rfl (by simp) rfl (by simp) (by simp[maxLen]) fun q =>?_;have hf:=fun A h=>sI (p:=p) (k:=17) (n:=1) (xs:=[x]++List.replicate q gm) (l:=p.j++[x]) (A:=A) h (by rw[hj];rfl)
  try simp only[hlx,hst2,kb,aC,bF,simprocAttr]
  have R:=y6 @hst2 (y6 @hok2 (y6 @hst3 (y6 @hf (y6 @kb (y6 @dI (y6 @bZ (y6 @bC (y6 @bA aC))))))))
  repeat' ((first |refine ae.aF (by decide +kernel) rfl fun K hK =>?_|(refine .ay [0,1,2,3,4,5,9] hK ?_;clear hK K)|(with_reducible refine .done (hK _ ?_);clear hK K)|refine ae.of rfl ?_|(with_reducible refine aB.aE (fun h =>?_) (fun h =>?_) <;>try simp only[h])) <;>try simp only[aG,R,simprocAttr])
  all_goals clear R
 ·by_cases hm:m=0
  ·subst hm;refine aR.G5 (esz:=4) gm rfl (xs:=p.j++List.replicate 0 gm) (ys:=[x]) (by simp) rfl (by simp) (by simp) rfl (by simp;omega) (by simp[maxLen];omega) fun q =>?_;have hf:=fun A h=>sI (p:=p) (k:=17) (n:=p.j.length+1) (xs:=(p.j++List.replicate 0 gm).take p.j.length++([x]++List.replicate q gm)) (l:=p.j++[x]) (A:=A) h (by simp[List.take_append];exact List.take_of_length_le (by omega))
   try simp only[hlx,hst2,kb,aC,bF,simprocAttr]
   have R:=y6 @hst2 (y6 @hok2 (y6 @hst3 (y6 @hf (y6 @kb (y6 @dI (y6 @bZ (y6 @bC (y6 @bA aC))))))))
   repeat' ((first |refine ae.aF (by decide +kernel) rfl fun K hK =>?_|(refine .ay [0,1,2,3,4,5,9] hK ?_;clear hK K)|(with_reducible refine .done (hK _ ?_);clear hK K)|refine ae.of rfl ?_|(with_reducible refine aB.aE (fun h =>?_) (fun h =>?_) <;>try simp only[h])) <;>try simp only[aG,R,simprocAttr])
   all_goals clear R
  ·rw[ym (esz:=4) _ rfl (xs:=p.j++List.replicate m gm) (ys:=[x]) (by simp) rfl (by simp;omega)];have hf:=fun A h=>sI (p:=p) (k:=7) (n:=p.j.length+1) (xs:=(p.j++List.replicate m gm).take p.j.length++([x]++(p.j++List.replicate m gm).drop (p.j.length+1))) (l:=p.j++[x]) (A:=A) h (by simp[List.take_append];exact List.take_of_length_le (by omega))
   try simp only[hlx,hst2,kb,aC,bF,simprocAttr]
   have R:=y6 @hst2 (y6 @hok2 (y6 @hst3 (y6 @hf (y6 @kb (y6 @dI (y6 @bZ (y6 @bC (y6 @bA aC))))))))
   repeat' ((first |refine ae.aF (by decide +kernel) rfl fun K hK =>?_|(refine .ay [0,1,2,3,4,5,9] hK ?_;clear hK K)|(with_reducible refine .done (hK _ ?_);clear hK K)|refine ae.of rfl ?_|(with_reducible refine aB.aE (fun h =>?_) (fun h =>?_) <;>try simp only[h])) <;>try simp only[aG,R,simprocAttr])
   all_goals clear R
def fB:bu:=⟨0,[],0⟩
theorem E9:(∀ A n b rest (q:bu) x y,db A (some 3) n [] b (enc q) rest (some (.agg [.int .i64 x,.nils 4,.int .i64 y]))=az rest (A.aS n (.box (enc q))))∧(∀ A n b rest (q:bu) (r:bu),db A (some 3) n [] b (enc q) rest (some (enc r))=az rest (A.aS n (.box (enc q)))) :=
 ⟨fun A n b rest q x y=>dE (eh _) (by rw[fh];rfl) (eI _),fun A n b rest q r=>dE (eh _) (by rw[fh];rfl) ((eI _).trans (eI _).symm)⟩
theorem sq(a b:Int):(dT [.int .i64 0,.int .i64 0,.int .i64 0,.int .i64 0] [(0,.int .i64 a),(1,.int .i64 b)]).map I.agg=some (enc (⟨a,b,0,0⟩:bg)):=by simp[dT,I.bR,I.size];rfl
theorem uJ(a b c d:Int):(dT [.int .i64 0,.int .i64 0,.int .i64 0,.int .i64 0] [(0,.int .i64 a),(1,.int .i64 b),(2,.int .i64 c),(3,.int .i64 d)]).map I.agg=some (enc (⟨a,b,c,d⟩:bg)):=by simp[dT,I.bR,I.size];rfl
theorem cn:(type_of% @E9)∧(type_of% @sq)∧(type_of% @uJ)∧(type_of% @p7)∧(type_of% @rF)∧(type_of% @dI):=⟨E9,sq,uJ,p7,rF,dI⟩
def jd(p:bu)(b:Int):bu×Int:=match dn p with
 |none=>(fB,91)
 |some s=>if c4 1 9999 b=false then (fB,1) else if b∈s.here∨s.eV b=true then (fB,92) else gF p ⟨1,b,0,0⟩
theorem F2(p:bu)(b:Int):bd Tryz.prog 27 [enc p,enc b] (.tuple [enc (jd p b).1,enc (jd p b).2]):=by
 refine bd.b6 Tryz.func27 Im Js KK (u8 rfl) (fun hwf W0 bG E1 =>?_);simp only[y8,DJ,bH,Z1];clear hwf;have hF:=pU p;simp only[jd];cases ho:dn p with
 |none =>
  rw[ho] at hF;simp only[km] at hF;have R:=y6 @cn (y6 @bo (y6 @bZ (y6 @bC (y6 @bA aC))))
  repeat' ((first |(with_reducible refine .guard (fun hb =>?_) (fun hb =>?_) <;>try simp only[hb])|refine ae.aF (by decide +kernel) rfl fun K hK =>?_|refine .lead _ (hF) ?_|(refine .ay [0,1,2,4,5,6,7,13,18,23] hK ?_;clear hK K)|(with_reducible refine .done (hK _ ?_);clear hK K)|refine ae.of rfl ?_|(with_reducible refine aB.aE (fun h =>?_) (fun h =>?_) <;>try simp only[h])) <;>try simp only[aG,R,simprocAttr])
  all_goals clear R
  rfl
 |some s =>
  have hjl:=(iL ho).2.2.2.1;rw[ho] at hF;simp only[km] at hF;have hlk:=gn eS b s.here;rw[eH] at hlk;have hB:=pV b;have hR:=pW s b;have hW:=ur p ⟨1,b,0,0⟩ hjl;rcases q1:c4 1 9999 b
  ·rw[q1] at hB;have R:=y6 @eF (y6 @cn (y6 @bo (y6 @bZ (y6 @bC (y6 @bA aC)))))
   repeat' ((first |(with_reducible refine .guard (fun hb =>?_) (fun hb =>?_) <;>try simp only[hb])|refine ae.aF (by decide +kernel) rfl fun K hK =>?_|refine .lead _ (hF) ?_|refine .flat _ (hB) rfl ?_|(refine .ay [0,1,2,4,5,6,7,13,18,23] hK ?_;clear hK K)|(with_reducible refine .done (hK _ ?_);clear hK K)|refine ae.of rfl ?_|(with_reducible refine aB.aE (fun h =>?_) (fun h =>?_) <;>try simp only[h])) <;>try simp only[aG,R,simprocAttr])
   all_goals clear R
   rfl
  rw[q1] at hB;rcases q2:decide (b∈s.here)
  ·rcases q3:s.eV b
   ·rw[q3] at hR;have bK:(b∈s.here∨s.eV b=true)=False:=by simpa[q3] using q2
    simp only[Bool.true_eq_false,if_false,bK];have R:=y6 @q2 (y6 @hlk (y6 @eF (y6 @cn (y6 @bo (y6 @bZ (y6 @bC (y6 @bA aC)))))))
    repeat' ((first |(with_reducible refine .guard (fun hb =>?_) (fun hb =>?_) <;>try simp only[hb])|refine ae.aF (by decide +kernel) rfl fun K hK =>?_|refine .lead _ (hF) ?_|refine .flat _ (hB) rfl ?_|refine .flat _ (hR) rfl ?_|refine .lead _ (hW) ?_|(refine .ay [0,1,2,4,5,6,7,13,18,23] hK ?_;clear hK K)|(with_reducible refine .done (hK _ ?_);clear hK K)|refine ae.of rfl ?_|(with_reducible refine aB.aE (fun h =>?_) (fun h =>?_) <;>try simp only[h])) <;>try simp only[aG,R,simprocAttr])
    all_goals clear R
   ·rw[q3] at hR;have bK:(b∈s.here∨s.eV b=true)=True:=by simp[q3]
    simp only[Bool.true_eq_false,if_false,bK,if_true];have R:=y6 @q2 (y6 @hlk (y6 @eF (y6 @cn (y6 @bo (y6 @bZ (y6 @bC (y6 @bA aC)))))))
    repeat' ((first |(with_reducible refine .guard (fun hb =>?_) (fun hb =>?_) <;>try simp only[hb])|refine ae.aF (by decide +kernel) rfl fun K hK =>?_|refine .lead _ (hF) ?_|refine .flat _ (hB) rfl ?_|refine .flat _ (hR) rfl ?_|(refine .ay [0,1,2,4,5,6,7,13,18,23] hK ?_;clear hK K)|(with_reducible refine .done (hK _ ?_);clear hK K)|refine ae.of rfl ?_|(with_reducible refine aB.aE (fun h =>?_) (fun h =>?_) <;>try simp only[h])) <;>try simp only[aG,R,simprocAttr])
    all_goals clear R
    rfl
  ·have bK:b∈s.here:=of_decide_eq_true q2;simp only[Bool.true_eq_false,if_false,bK,true_or,if_true];have R:=y6 @q2 (y6 @hlk (y6 @eF (y6 @cn (y6 @bo (y6 @bZ (y6 @bC (y6 @bA aC)))))))
   repeat' ((first |(with_reducible refine .guard (fun hb =>?_) (fun hb =>?_) <;>try simp only[hb])|refine ae.aF (by decide +kernel) rfl fun K hK =>?_|refine .lead _ (hF) ?_|refine .flat _ (hB) rfl ?_|(refine .ay [0,1,2,4,5,6,7,13,18,23] hK ?_;clear hK K)|(with_reducible refine .done (hK _ ?_);clear hK K)|refine ae.of rfl ?_|(with_reducible refine aB.aE (fun h =>?_) (fun h =>?_) <;>try simp only[h])) <;>try simp only[aG,R,simprocAttr])
   all_goals clear R
   rfl
def j5(p:bu):bu×Int:=match dn p with
 |none=>(fB,91)
 |some _=>(⟨p.ar,p.j,p.j.length⟩,0)
theorem xK(A:ai)(n:Nat)(p:bu)(v:Int)(rest:List aH)(u:Int):db A none n [2] (enc p) (.int .i64 v) rest (some (.int .i64 u))=az rest (A.aS n (.box (enc (⟨p.ar,p.j,v⟩:bu)))):=dE rfl rfl rfl
theorem rW(p:bu):bd Tryz.prog 10 [enc p] (.tuple [enc (j5 p).1,enc (j5 p).2]):=by
 refine bd.b6 Tryz.func10 HY I5 Kd (u8 rfl) (fun hwf W0 bG E1 =>?_);simp only[yF,C9,bH];clear hwf;have hF:=r0 p;simp only[oQ] at hF;simp only[j5];cases ho:dn p with
 |none =>
  rw[ho] at hF;have R:=y6 @cn (y6 @bo (y6 @bZ (y6 @bC (y6 @bA aC))))
  repeat' ((first |refine ae.aF (by decide +kernel) rfl fun K hK =>?_|refine .lead _ (hF) ?_|(refine .ay [0,1,2,3,4,8] hK ?_;clear hK K)|(with_reducible refine .done (hK _ ?_);clear hK K)|refine ae.of rfl ?_|(with_reducible refine aB.aE (fun h =>?_) (fun h =>?_) <;>try simp only[h])) <;>try simp only[aG,R,simprocAttr])
  all_goals clear R
  rfl
 |some s =>
  have hjl:=(iL ho).2.2.2.1;rw[ho] at hF;have R:=y6 @xK (y6 @cn (y6 @bo (y6 @bZ (y6 @bC (y6 @bA aC)))))
  repeat' ((first |refine ae.aF (by decide +kernel) rfl fun K hK =>?_|refine .lead _ (hF) ?_|refine .lead _ (x1 p (by omega)) ?_|(refine .ay [0,1,2,3,4,8] hK ?_;clear hK K)|(with_reducible refine .done (hK _ ?_);clear hK K)|refine ae.of rfl ?_|(with_reducible refine aB.aE (fun h =>?_) (fun h =>?_) <;>try simp only[h])) <;>try simp only[aG,R,simprocAttr])
  all_goals clear R
def iB(p:bu)(dj:Int):Int:=p.cE+(dj.tmod (p.j.length-p.cE+1)+(p.j.length-p.cE+1)).tmod (p.j.length-p.cE+1)
def lH(p:bu)(dj:Int):bu×Int:=match dn p with
 |none=>(fB,91)
 |some _=>(⟨p.ar,p.j.take (iB p dj).toNat,iB p dj⟩,0)
theorem rM(n m:Int)(hm:0<m):-m<n.tmod m∧n.tmod m<m:=by
 have J:=Int.tmod_lt_of_pos n hm;have U:=Int.lt_tmod_of_pos n hm;omega
theorem Ay{p:bu}{s:aD}(ho:dn p=some s)(dj:Int):0≤p.cE∧p.cE≤p.j.length∧p.cE≤iB p dj∧iB p dj≤p.j.length∧p.j.length≤200:=by
 obtain ⟨_,_,_,au,h5,_⟩:=iL ho;simp only[ic,c4,t8,decide_eq_true_eq] at h5;obtain ⟨_,_,h6,h7⟩:=h5;have hm:(0:Int)<p.j.length-p.cE+1:=by omega
 have J:=rM dj (p.j.length-p.cE+1) hm;have U:=rM (dj.tmod (p.j.length-p.cE+1)+(p.j.length-p.cE+1)) (p.j.length-p.cE+1) hm;have ah:=Int.tmod_nonneg (p.j.length-p.cE+1) (show (0:Int)≤dj.tmod (p.j.length-p.cE+1)+(p.j.length-p.cE+1) by omega);simp only[iB];omega
theorem rE{α:Type}[Enc α]{A:ai}(esz:Nat){l:List α}{i:Nat}(h:i≤l.length)(ab:Enc.sz α=esz):ji A esz none (some (.int .i64 i)) none (enc l)=some (enc (l.take i)):=by
 simp only[ji,hl,ab,if_true,iR,jo,Z9];rw[if_pos ⟨by omega,by omega,by omega,by omega⟩];simp
theorem FG(p:bu)(dj:Int):bd Tryz.prog 12 [enc p,enc dj] (.tuple [enc (lH p dj).1,enc (lH p dj).2]):=by
 refine bd.b6 Tryz.func12 H9 Jg Ko (u8 rfl) (fun hwf W0 bG E1 =>?_);simp only[yQ,Dl,bH,Z1];clear hwf;have hF:=r0 p;simp only[oQ] at hF;simp only[lH];cases ho:dn p with
 |none =>
  rw[ho] at hF;have R:=y6 @cn (y6 @bo (y6 @bZ (y6 @bC (y6 @bA aC))))
  repeat' ((first |refine ae.aF (by decide +kernel) rfl fun K hK =>?_|refine .lead _ (hF) ?_|(refine .ay [0,1,2,4,5,6,7,11] hK ?_;clear hK K)|(with_reducible refine .done (hK _ ?_);clear hK K)|refine ae.of rfl ?_|(with_reducible refine aB.aE (fun h =>?_) (fun h =>?_) <;>try simp only[h])) <;>try simp only[aG,R,simprocAttr])
  all_goals clear R
  rfl
 |some s =>
  obtain ⟨k1,k2,k3,k4,k5⟩:=Ay ho dj;rw[ho] at hF;obtain ⟨m,hm⟩:∃ m:Int,m=p.j.length-p.cE+1:=⟨_,rfl⟩
  have hmp:0<m:=by omega
  have b1:=rM dj m hmp;have b2:=rM (dj.tmod m+m) m hmp;have hw1:IntKind.i64.wrap ((p.j.length:Int)-p.cE)=(p.j.length:Int)-p.cE:=hZ _ (by omega) (by omega);have hw2:IntKind.i64.wrap ((p.j.length:Int)-p.cE+1)=m:=by rw[hZ _ (by omega) (by omega),hm]
  have hm0:(m=0)=False:=by simp;omega
  have hw3:IntKind.i64.wrap (dj.tmod m+m)=dj.tmod m+m:=hZ _ (by omega) (by omega);have hk:iB p dj=p.cE+(dj.tmod m+m).tmod m:=by simp only[iB,hm]
  have hw4:IntKind.i64.wrap (p.cE+(dj.tmod m+m).tmod m)=iB p dj:=by rw[hk];exact hZ _ (by omega) (by omega)
  generalize iB p dj=k at *;have hkn:k=(k.toNat:Int):=by omega
  have hsl:∀ A,ji A 4 none (some (.int .i64 k)) none (enc p.j)=some (enc (p.j.take k.toNat)):=fun A=>by
   have:=rE (A:=A) (α:=bg) 4 (l:=p.j) (i:=k.toNat) (by omega) rfl;rw[←hkn] at this;exact this
  have hst:∀ (A:ai) rest,db A none 2 [1] (enc (⟨p.ar,p.j,k⟩:bu)) (enc (p.j.take k.toNat)) rest (some (enc p.j))=az rest (A.aS 2 (.box (enc (⟨p.ar,p.j.take k.toNat,k⟩:bu)))):=fun A rest=>dE (eh _) (by simp[kS,kR]) rfl;have hC:=x2 (p.j.take k.toNat) (by rw[zy4];omega);have R:=y6 @hw1 (y6 @hw2 (y6 @hm0 (y6 @hw3 (y6 @hw4 (y6 @hsl (y6 @hst (y6 @xK (y6 @cn (y6 @bo (y6 @bZ (y6 @bC (y6 @bA aC))))))))))))
  repeat' ((first |refine ae.aF (by decide +kernel) rfl fun K hK =>?_|refine .lead _ (hF) ?_|refine .lead _ (hC) ?_|(refine .ay [0,1,2,4,5,6,7,11] hK ?_;clear hK K)|(with_reducible refine .done (hK _ ?_);clear hK K)|refine ae.of rfl ?_|(with_reducible refine aB.aE (fun h =>?_) (fun h =>?_) <;>try simp only[h])) <;>try simp only[aG,R,Option.map_none,simprocAttr])
  all_goals clear R
def lg:dc:=⟨0,0,0,false⟩
theorem j4:(∀ A n b rest (q:dc) x y z w,db A (some 4) n [] b (enc q) rest (some (.agg [.int .i64 x,.int .i64 y,.int .i64 z,.bool w]))=az rest (A.aS n (.box (enc q))))∧(∀ A n b rest (q r:dc),db A (some 4) n [] b (enc q) rest (some (enc r))=az rest (A.aS n (.box (enc q)))) :=
 ⟨fun A n b rest q x y z w=>dE (eh _) (by rw[fh];rfl) (eI _),fun A n b rest q r=>dE (eh _) (by rw[fh];rfl) ((eI _).trans (eI _).symm)⟩
theorem nB:(dT [.int .i64 0,.int .i64 0,.int .i64 0,.bool false] []).map I.agg=some (enc lg):=by simp[dT];rfl
theorem sr(a b c:Int):(dT [.int .i64 0,.int .i64 0,.int .i64 0,.bool false] [(0,.int .i64 a),(1,.int .i64 b),(2,.int .i64 c)]).map I.agg=some (enc (⟨a,b,c,false⟩:dc)):=by simp[dT,I.bR,I.size];rfl
def rC(p:bu)(b to:Int):bu×dc×Int:=match dn p with
 |none=>(fB,lg,91)
 |some s=>if c4 1 9999 b=false then (fB,lg,1) else if c4 0 5 to=false∨to=p.ar then (fB,lg,90) else if b∉s.here then (fB,lg,93) else
  if p.j.length=200 then (fB,lg,2) else ((gF p ⟨3,b,to,(s.all.length:Int)+1⟩).1,⟨(s.all.length:Int)+1,to,b,false⟩,0)
theorem F4(p:bu)(b to:Int):bd Tryz.prog 31 [enc p,enc b,enc to] (.tuple [enc (rC p b to).1,enc (rC p b to).2.1,enc (rC p b to).2.2]):=by
 refine bd.b6 Tryz.func31 Iq Jv KN (u8 rfl) (fun hwf W0 bG E1 =>?_);simp only[za,DL,bH,Z1,Nat.reduceAdd];clear hwf;have hF:=pU p;simp only[rC];cases ho:dn p with
 |none =>
  rw[ho] at hF;simp only[km] at hF;have R:=y6 @nB (y6 @j4 (y6 @cn (y6 @bo (y6 @bZ (y6 @bC (y6 @bA aC))))))
  repeat' ((first |(with_reducible refine .guard (fun hb =>?_) (fun hb =>?_) <;>try simp only[hb])|refine ae.aF (by decide +kernel) rfl fun K hK =>?_|refine .lead _ (hF) ?_|(refine .ay [0,1,2,3,6,7,8,9,10,11,17,23,29,41,70] hK ?_;clear hK K)|(with_reducible refine .done (hK _ ?_);clear hK K)|refine ae.of rfl ?_|(with_reducible refine aB.aE (fun h =>?_) (fun h =>?_) <;>try simp only[h])) <;>try simp only[aG,R,simprocAttr])
  all_goals clear R
  rfl
 |some s =>
  have hjl:=(iL ho).2.2.2.1;have hsl:=(iL ho).2.2.1;rw[ho] at hF;simp only[km] at hF;have hlk:=gn eS b s.here;rw[eH] at hlk;have hB:=pV b;have hT:=mw to;have hW:=ur p ⟨3,b,to,(s.all.length:Int)+1⟩ hjl;have hw:IntKind.i64.wrap ((s.all.length:Int)+1)=(s.all.length:Int)+1:=hZ _ (by omega) (by omega);rcases q1:c4 1 9999 b
  ·rw[q1] at hB;have R:=y6 @nB (y6 @j4 (y6 @eF (y6 @cn (y6 @bo (y6 @bZ (y6 @bC (y6 @bA aC)))))))
   repeat' ((first |(with_reducible refine .guard (fun hb =>?_) (fun hb =>?_) <;>try simp only[hb])|refine ae.aF (by decide +kernel) rfl fun K hK =>?_|refine .lead _ (hF) ?_|refine .flat _ (hB) rfl ?_|(refine .ay [0,1,2,3,6,7,8,9,10,11,17,23,29,41,70] hK ?_;clear hK K)|(with_reducible refine .done (hK _ ?_);clear hK K)|refine ae.of rfl ?_|(with_reducible refine aB.aE (fun h =>?_) (fun h =>?_) <;>try simp only[h])) <;>try simp only[aG,R,simprocAttr])
   all_goals clear R
   rfl
  rw[q1] at hB;rcases q2:c4 0 5 to
  ·rw[q2] at hT;simp only[Bool.true_eq_false,if_false,true_or,if_true];have R:=y6 @nB (y6 @j4 (y6 @eF (y6 @cn (y6 @bo (y6 @bZ (y6 @bC (y6 @bA aC)))))))
   repeat' ((first |(with_reducible refine .guard (fun hb =>?_) (fun hb =>?_) <;>try simp only[hb])|refine ae.aF (by decide +kernel) rfl fun K hK =>?_|refine .lead _ (hF) ?_|refine .flat _ (hB) rfl ?_|refine .flat _ (hT) rfl ?_|(refine .ay [0,1,2,3,6,7,8,9,10,11,17,23,29,41,70] hK ?_;clear hK K)|(with_reducible refine .done (hK _ ?_);clear hK K)|refine ae.of rfl ?_|(with_reducible refine aB.aE (fun h =>?_) (fun h =>?_) <;>try simp only[h])) <;>try simp only[aG,R,simprocAttr])
   all_goals clear R
   rfl
  rw[q2] at hT;rcases q3:(to==p.ar)
  case true =>
   have e:to=p.ar:=by simpa using q3
   simp only[Bool.true_eq_false,if_false,false_or,e,if_true];rw[e] at hT q3;have R:=y6 @q3 (y6 @nB (y6 @j4 (y6 @eF (y6 @cn (y6 @bo (y6 @bZ (y6 @bC (y6 @bA aC))))))))
   repeat' ((first |(with_reducible refine .guard (fun hb =>?_) (fun hb =>?_) <;>try simp only[hb])|refine ae.aF (by decide +kernel) rfl fun K hK =>?_|refine .lead _ (hF) ?_|refine .flat _ (hB) rfl ?_|refine .flat _ (hT) rfl ?_|(refine .ay [0,1,2,3,6,7,8,9,10,11,17,23,29,41,70] hK ?_;clear hK K)|(with_reducible refine .done (hK _ ?_);clear hK K)|refine ae.of rfl ?_|(with_reducible refine aB.aE (fun h =>?_) (fun h =>?_) <;>try simp only[h])) <;>try simp only[aG,R,simprocAttr])
   all_goals clear R
   rfl
  have e:¬ to=p.ar:=by simpa using q3
  simp only[Bool.true_eq_false,if_false,false_or,e];rcases q4:decide (b∈s.here)
  ·have bK:b∉s.here:=of_decide_eq_false q4;rw[if_pos bK];have R:=y6 @q3 (y6 @q4 (y6 @hlk (y6 @nB (y6 @j4 (y6 @eF (y6 @cn (y6 @bo (y6 @bZ (y6 @bC (y6 @bA aC))))))))))
   repeat' ((first |(with_reducible refine .guard (fun hb =>?_) (fun hb =>?_) <;>try simp only[hb])|refine ae.aF (by decide +kernel) rfl fun K hK =>?_|refine .lead _ (hF) ?_|refine .flat _ (hB) rfl ?_|refine .flat _ (hT) rfl ?_|(refine .ay [0,1,2,3,6,7,8,9,10,11,17,23,29,41,70] hK ?_;clear hK K)|(with_reducible refine .done (hK _ ?_);clear hK K)|refine ae.of rfl ?_|(with_reducible refine aB.aE (fun h =>?_) (fun h =>?_) <;>try simp only[h])) <;>try simp only[aG,R,simprocAttr])
   all_goals clear R
   rfl
  ·have bK:b∈s.here:=of_decide_eq_true q4;rw[if_neg (by simpa using bK)];by_cases U:p.j.length=200
   ·have hw1:gF p ⟨3,b,to,(s.all.length:Int)+1⟩=(fB,2):=by simp[gF,U,fB]
    rw[hw1] at hW;simp only[if_pos U];have R:=y6 @hw (y6 @q3 (y6 @q4 (y6 @hlk (y6 @nB (y6 @sr (y6 @j4 (y6 @eF (y6 @cn (y6 @bo (y6 @bZ (y6 @bC (y6 @bA aC))))))))))))
    repeat' ((first |(with_reducible refine .guard (fun hb =>?_) (fun hb =>?_) <;>try simp only[hb])|refine ae.aF (by decide +kernel) rfl fun K hK =>?_|refine .lead _ (hF) ?_|refine .flat _ (hB) rfl ?_|refine .flat _ (hT) rfl ?_|refine .lead _ (hW) ?_|(refine .ay [0,1,2,3,6,7,8,9,10,11,17,23,29,41,70] hK ?_;clear hK K)|(with_reducible refine .done (hK _ ?_);clear hK K)|refine ae.of rfl ?_|(with_reducible refine aB.aE (fun h =>?_) (fun h =>?_) <;>try simp only[h])) <;>try simp only[aG,R,simprocAttr])
    all_goals clear R
    rfl
   ·have hw1:(gF p ⟨3,b,to,(s.all.length:Int)+1⟩).2=0:=by simp[gF,U]
    rw[hw1] at hW;simp only[if_neg U];have R:=y6 @hw (y6 @q3 (y6 @q4 (y6 @hlk (y6 @nB (y6 @sr (y6 @j4 (y6 @eF (y6 @cn (y6 @bo (y6 @bZ (y6 @bC (y6 @bA aC))))))))))))
    repeat' ((first |(with_reducible refine .guard (fun hb =>?_) (fun hb =>?_) <;>try simp only[hb])|refine ae.aF (by decide +kernel) rfl fun K hK =>?_|refine .lead _ (hF) ?_|refine .flat _ (hB) rfl ?_|refine .flat _ (hT) rfl ?_|refine .lead _ (hW) ?_|(refine ae.rl (gs:=vN) [] [(3,[3]),(6,[6]),(7,[7]),(11,[11])] [0,1,2,3,4] (by decide +kernel) (cU.of (by simp[fi,cq,I.only])) fun K hK =>?_;simp only[eU,vN,zz6,zz7,R,simprocAttr])|(refine .ay [0,1,2,3,6,7,8,9,10,11,17,23,29,41,70] hK ?_;clear hK K)|(with_reducible refine .done (hK _ ?_);clear hK K)|refine ae.of rfl ?_|(with_reducible refine aB.aE (fun h =>?_) (fun h =>?_) <;>try simp only[h])) <;>try simp only[aG,R,simprocAttr])
    all_goals clear R
def qD(k:Int):Int:=if k=1 then 7 else if k=2 then 5 else if k=3 then 8 else if k=4 then 6 else 0
theorem WL(k:Int):fp (.i .i64) (.int .i64 0) (.int .i64 k) [.int .i64 1,.int .i64 2,.int .i64 3,.int .i64 4] [.int .i64 7,.int .i64 5,.int .i64 8,.int .i64 6]=some (.int .i64 (qD k),decide (k=1∨k=2∨k=3∨k=4)):=by
 have h:=s9 eS (.int .i64 0) k [1,2,3,4] [.int .i64 7,.int .i64 5,.int .i64 8,.int .i64 6];simp only[Z4,zy6,eH] at h;rw[h];by_cases J:k=1
 ·subst J;rfl
 by_cases U:k=2
 ·subst U;rfl
 by_cases ah:k=3
 ·subst ah;rfl
 by_cases au:k=4
 ·subst au;rfl
 simp[List.findIdx?_cons,J,U,ah,au,qD]
theorem Gx(k:Int):bd Tryz.prog 80 [enc k] (enc (qD k)):=by
 refine bd.b6 Tryz.func80 IS JU Lc (u8 rfl) (fun hwf W0 bG E1 =>?_);simp only[zC,Ee,bH];clear hwf;have hv:∀ k n,(I.int k n).bR=true:=fun _ _=>rfl;have ao:=WL k;have R:=y6 @hv (y6 @ao (y6 @Cy (y6 @bZ (y6 @bC (y6 @bA aC)))))
 repeat' ((first |refine ae.aF (by decide +kernel) rfl fun K hK =>?_|(refine .ay [0,2] hK ?_;clear hK K)|(with_reducible refine .done (hK _ ?_);clear hK K)|refine ae.of rfl ?_|(with_reducible refine aB.aE (fun h =>?_) (fun h =>?_) <;>try simp only[h])) <;>try simp only[aG,R,simprocAttr])
 all_goals clear R
def lU(r:c8):bg:=⟨qD r.kind,r.aK,r.cQ,r.no⟩
def qu(p:bu)(r:c8):bu×Int:=match dn p with
 |none=>(fB,91)
 |some s=>if tq r=false∨r.to≠p.ar then (fB,95) else match gp s (lU r) with
  |none=>(p,0)
  |some _=>gF p (lU r)
theorem Fl{ts:List (Nat×I)}{os0:List (Nat×aq)}{s:aD}(hno:∀ m,2000≤m→aj os0 m=none):av ts (du s++os0)=av ts (os0++du s):=by
 simp only[av,ai.mk.injEq,true_and]
 funext n
 rw[fH,fH];cases J:aj (du s) n with
 |none=>simp only;cases aj os0 n <;>rfl
 |some y=>rw[hno n (xJ (s:=s) (by simp[aw,J])).1]
theorem aR.X1{K:ai→Prop}{p:bu}{avs:List I}{a1 a2:Option (List I)}{dst:Option Nat}{rest:List aH}{ts:List (Nat×I)}{os0:List (Nat×aq)}(ho:dn p=none)(hav:avs=[enc p])
  (h:aR Tryz.prog dy false K (az rest ((av ts os0).aT dst (.tuple [.nilp,.int .i64 91])))):aR Tryz.prog dy false K (.call 69 avs a1 a2 dst rest (av ts os0)):=by
 subst hav;refine .bO false [] [] [enc p] _ rfl (x4 p) ⟨fun m x hx=>by simp[aj] at hx,fun m m' hm=>by simp[aw,aj] at hm⟩ ⟨.inl ⟨(kT _ _).symm,cA _ _,eh _⟩,trivial⟩ ?_ ?_
 ·intro r os' hp;unfold mY at hp;rw[ho] at hp;obtain ⟨rfl,rfl⟩:=hp;exact ⟨fun m y hy=>by simp[aj] at hy,fun m m' hm=>by simp[aw,aj] at hm,fun m hm=>hm,fun m hm=>by simp[aw,aj] at hm,rfl,fun h=>by cases h⟩
 ·intro r os' hp;unfold mY at hp;rw[ho] at hp;obtain ⟨rfl,rfl⟩:=hp;exact h
theorem aR.tt{K:ai→Prop}{p:bu}{s:aD}{avs:List I}{a1 a2:Option (List I)}{dst:Option Nat}{rest:List aH}{ts:List (Nat×I)}{os0:List (Nat×aq)}(ho:dn p=some s)(hav:avs=[enc p])(hno:∀ m,2000≤m→aj os0 m=none)
  (h:aR Tryz.prog dy false K (az rest ((av ts (os0++du s)).aT dst (.tuple [.ptr 2000 [],.int .i64 0])))):aR Tryz.prog dy false K (.call 69 avs a1 a2 dst rest (av ts os0)):=by
 subst hav;obtain ⟨hk,_,ah,au,_⟩:=iL ho;refine .bO false [] [] [enc p] _ rfl (x4 p) ⟨fun m x hx=>by simp[aj] at hx,fun m m' hm=>by simp[aw,aj] at hm⟩ ⟨.inl ⟨(kT _ _).symm,cA _ _,eh _⟩,trivial⟩ ?_ ?_
 ·intro r os' hp;unfold mY at hp;rw[ho] at hp;obtain ⟨rfl,rfl⟩:=hp;refine ⟨fun m y hy=>⟨(lx hk hy).1,(lx hk hy).2,fun h=>by cases h⟩,fun m m' _ _ h=>h,fun m hm=>by simp[aw,aj] at hm,fun m hm _ =>?_,?_,fun h=>by cases h⟩
  ·have:=xJ hm;exact ⟨hno m this.1,by simp only[bI];omega⟩
  ·have:=(dP (iE s.all.length) (n:=2000)).2 (.inl (by omega));simp[I.only,I.ct,this]
 ·intro r os' hp;unfold mY at hp;rw[ho] at hp;obtain ⟨rfl,rfl⟩:=hp;rw[l9,Fl hno];exact h
theorem aR.Fm{K:ai→Prop}{s s2:aD}{b:Bool}{x:bg}{avs:List I}{a1 a2:Option (List I)}{dst:Option Nat}{rest:List aH}{ts:List (Nat×I)}{ow:List (Nat×aq)}(hk:cC s)(hlen:s.all.length≤300)(hav:avs=[.ptr 2000 [],enc x])(how:∀ m,2000≤m→aj ow m=none)(hst:ef s x=(s2,b))
  (h:aR Tryz.prog dy false K (az rest ((av ts (ow++du s2)).aT dst (.bool b)))):aR Tryz.prog dy false K (.call 81 avs a1 a2 dst rest (av ts (ow++du s))):=by
 refine aR.rL hk hlen hav how hst ?_;have hso:=rH hk x;rw[hst] at hso;obtain ⟨k1,k2,k3,k4⟩:=hso;have e:av ts (du s2++(ow++du s))=av ts (ow++du s2):=by
  rw[←Fl how];simp only[av,ai.mk.injEq,true_and]
  funext n
  rw[fH (du s2) (ow++du s),fH (du s2) ow,fH ow (du s)];cases J:aj (du s2) n with
  |some y=>rfl
  |none =>
   simp only;have:aj (du s) n=none:=by
    cases U:aj (du s) n with
    |none=>rfl
    |some y =>
     exfalso
     have hin:aw (du s) n=true:=by simp[aw,U]
     have:aw (du s2) n=true:=by
      rcases (dP (iE _)).1 hin with h5 | ⟨i,hi,rfl⟩
      ·exact (dP (iE _)).2 (.inl h5)
      ·exact (dP (iE _)).2 (.inr ⟨i,Nat.lt_of_lt_of_le hi k3,rfl⟩)
     simp[aw,J] at this
   rw[this];cases aj ow n <;>rfl
 rw[e];exact h
theorem xZ(p:bu)(r:c8):bd Tryz.prog 35 [enc p,enc r] (.tuple [enc (qu p r).1,enc (qu p r).2]):=by
 refine bd.b6 Tryz.func35 Ir Jw KO (u8 rfl) (fun hwf W0 bG E1 =>?_);simp only[zb,DM,bH,Z1];clear hwf;simp only[qu];have how:∀ (a b c:aq) m,2000≤m→aj [(4,a),(3,b),(2,c)] m=none:=fun a b c m hm=>by simp only[aj];rw[if_neg (by omega),if_neg (by omega),if_neg (by omega)]
 have how2:∀ (a b c d e:aq) m,2000≤m→aj [(8,a),(8,b),(4,c),(3,d),(2,e)] m=none:=fun a b c d e m hm=>by simp only[aj];rw[if_neg (by omega),if_neg (by omega),if_neg (by omega),if_neg (by omega),if_neg (by omega)]
 cases ho:dn p with
 |none =>
  have R:=y6 @cn (y6 @bo (y6 @bZ (y6 @bC (y6 @bA aC))))
  repeat' ((first |(with_reducible refine .guard (fun hb =>?_) (fun hb =>?_) <;>try simp only[hb])|refine ae.aF (by decide +kernel) rfl fun K hK =>?_|refine aR.X1 ho rfl ?_|(refine .ay [0,1,2,3,4,5,6,7,8,14,19,44] hK ?_;clear hK K)|(with_reducible refine .done (hK _ ?_);clear hK K)|refine ae.of rfl ?_|(with_reducible refine aB.aE (fun h =>?_) (fun h =>?_) <;>try simp only[h])) <;>try simp only[aG,R,simprocAttr])
  all_goals clear R
  rfl
 |some s =>
  obtain ⟨hk,hme,ah,hjl,_⟩:=iL ho
  dsimp only
  have hR:=Gi r;have n8:aj (du s) 8=none:=eG (.inl (by omega)) fun i _=>by simp only[bD];omega
  rcases q1:tq r
  ·rw[q1] at hR;simp only[true_or,if_true];have R:=y6 @n8 (y6 @cn (y6 @bo (y6 @bZ (y6 @bC (y6 @bA aC)))))
   repeat' ((first |(with_reducible refine .guard (fun hb =>?_) (fun hb =>?_) <;>try simp only[hb])|refine ae.aF (by decide +kernel) rfl fun K hK =>?_|refine aR.tt ho rfl (how _ _ _) ?_|refine .flat _ (hR) rfl ?_|(refine .ay [0,1,2,3,4,5,6,7,8,14,19,44] hK ?_;clear hK K)|(with_reducible refine .done (hK _ ?_);clear hK K)|refine ae.of rfl ?_|(with_reducible refine aB.aE (fun h =>?_) (fun h =>?_) <;>try simp only[h])) <;>try simp only[aG,R,Z7,simprocAttr])
   all_goals clear R
   rfl
  rw[q1] at hR;rcases q2:(r.to != p.ar)
  case true =>
   have e:r.to≠p.ar:=by simpa using q2
   simp only[Bool.true_eq_false,false_or,if_pos e];have R:=y6 @n8 (y6 @q2 (y6 @cn (y6 @bo (y6 @bZ (y6 @bC (y6 @bA aC))))))
   repeat' ((first |(with_reducible refine .guard (fun hb =>?_) (fun hb =>?_) <;>try simp only[hb])|refine ae.aF (by decide +kernel) rfl fun K hK =>?_|refine aR.tt ho rfl (how _ _ _) ?_|refine .flat _ (hR) rfl ?_|(refine .ay [0,1,2,3,4,5,6,7,8,14,19,44] hK ?_;clear hK K)|(with_reducible refine .done (hK _ ?_);clear hK K)|refine ae.of rfl ?_|(with_reducible refine aB.aE (fun h =>?_) (fun h =>?_) <;>try simp only[h])) <;>try simp only[aG,R,Z7,simprocAttr])
   all_goals clear R
   rfl
  have e:¬ r.to≠p.ar:=by simpa using q2
  simp only[Bool.true_eq_false,false_or,if_neg e];have hKd:=Gx r.kind;have hst:∀ A rest b,db A (some 4) 8 [] b (enc (lU r)) rest (some (.agg [.int .i64 0,.int .i64 0,.int .i64 0,.int .i64 0]))=az rest (A.aS 8 (.box (enc (lU r)))):=fun A rest b=>dE (eh _) (by rw[fh];rfl) (eI _);have hbl:(dT [.int .i64 0,.int .i64 0,.int .i64 0,.int .i64 0] [(0,.int .i64 (qD r.kind)),(1,.int .i64 r.aK),(2,.int .i64 r.cQ),(3,.int .i64 r.no)]).map I.agg=some (enc (lU r)):=uJ _ _ _ _;cases ht:gp s (lU r) with
  |none =>
   have ab:ef s (lU r)=(s,false):=by simp[ef,ht]
   have R:=y6 @n8 (y6 @q2 (y6 @hst (y6 @hbl (y6 @cn (y6 @bo (y6 @bZ (y6 @bC (y6 @bA aC))))))))
   repeat' ((first |(with_reducible refine .guard (fun hb =>?_) (fun hb =>?_) <;>try simp only[hb])|refine ae.aF (by decide +kernel) rfl fun K hK =>?_|refine aR.tt ho rfl (how _ _ _) ?_|refine .flat _ (hR) rfl ?_|refine .flat _ (hKd) rfl ?_|refine aR.Fm (ow:=[(8,_),(8,_),(4,_),(3,_),(2,_)]) hk (by omega) rfl (how2 _ _ _ _ _) ab ?_|refine .lead _ (x1 p (by omega)) ?_|(refine .ay [0,1,2,3,4,5,6,7,8,14,19,44] hK ?_;clear hK K)|(with_reducible refine .done (hK _ ?_);clear hK K)|refine ae.of rfl ?_|(with_reducible refine aB.aE (fun h =>?_) (fun h =>?_) <;>try simp only[h])) <;>try simp only[aG,R,Z7,simprocAttr])
   all_goals clear R
  |some s2 =>
   have ab:ef s (lU r)=(s2,true):=by simp[ef,ht]
   have hW:=ur p (lU r) hjl;have R:=y6 @n8 (y6 @q2 (y6 @hst (y6 @hbl (y6 @cn (y6 @bo (y6 @bZ (y6 @bC (y6 @bA aC))))))))
   repeat' ((first |(with_reducible refine .guard (fun hb =>?_) (fun hb =>?_) <;>try simp only[hb])|refine ae.aF (by decide +kernel) rfl fun K hK =>?_|refine aR.tt ho rfl (how _ _ _) ?_|refine .flat _ (hR) rfl ?_|refine .flat _ (hKd) rfl ?_|refine aR.Fm (ow:=[(8,_),(8,_),(4,_),(3,_),(2,_)]) hk (by omega) rfl (how2 _ _ _ _ _) ab ?_|refine .lead _ (hW) ?_|(refine .ay [0,1,2,3,4,5,6,7,8,14,19,44] hK ?_;clear hK K)|(with_reducible refine .done (hK _ ?_);clear hK K)|refine ae.of rfl ?_|(with_reducible refine aB.aE (fun h =>?_) (fun h =>?_) <;>try simp only[h])) <;>try simp only[aG,R,Z7,simprocAttr])
   all_goals clear R
end Go.Proofs.YthbdbocionnfgaaGreatDoor
