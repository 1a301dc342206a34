/-
  A part of the proof that the law RollWrites returns true for every input; five variables of Go's library start as the text lays them (the card ties them); conditions: none beyond the statement's own. (part 4 of 6)
-/
import Derived.Lib.SplitLaws
import Derived.Lib.AtoiAll
import Derived.Lib.ItoaMem
import Derived.Shelf.Strings.Split
import Derived.Shelf.Small.Wraps
import Derived.Shelf.Strconv.ErrVarAll
import Derived.Lib.FieldsP
import Derived.Laws.RangeAny
import Derived.Shelf.Strconv.Itoa3
import Derived.Lib.ItoaLen
import Derived.Shelf.Strings.Prefix
import Derived.Shelf.Strings.Cut
import Derived.Shelf.Small.Strs
import Derived.Shelf.Strconv.Clone
import Derived.Shelf.Strings.FieldsFuncAny
import Derived.WalkKit
import Derived.Tactics
import Derived.Tactics2
import Derived.RecoverIn
import Derived.Deep.MidRow
import Derived.Shelf.Strings.BuilderK
import Derived.BigCall
import Derived.Deep.RegionWith
import Derived.Test.YtoffnnjbplgnaaaGreatDoorNdc
set_option linter.unusedSimpArgs false
set_option linter.unusedVariables false
set_option maxHeartbeats 16000000
set_option maxRecDepth 100000
namespace Go.Abs
open Go Go.RowKit Go.ChangeShapes
open Enc (enc)
structure gO (P:Program) (t:TypeId) (α:Type) [Enc α] (B:α→Prop):Prop where
 cells:P.cellsOf t=Enc.sz α
 sE:0<Enc.sz α
 mK:∀ {H:Type} {enc0:TypeId×Value→H} {w:World} {fuel:Nat} {cs:List Value} {x:DataW H×List MemPlace},DataW.trod enc0 P w 0 (fun _=>true) true fuel t cs=some x→(∀ k∈x.1.weights P t,k≤reachBytes)→∃ a:α,B a∧ae w (js w) cd (enc a) cs
theorem qD.WD{P:Program}{t:TypeId}{α:Type}[Enc α](h:qD P t α):gO P t α fun _=>True:=⟨h.cells,h.sE,fun hx _=>by
 obtain ⟨a,ha⟩:=h.mK hx;exact ⟨a,trivial,ha⟩⟩
theorem EE{H:Type}{P:Program}{e:TypeId} : ∀ {l:List (DataW H)} {d:DataW H},d∈l→∀ n∈d.weights P e,n∈DataW.weightsAll P e l
 |d'::r,d,hd,n,hn=>by
  simp only[DataW.weightsAll,zz7];rcases zy0.1 hd with rfl | h
  ·exact .inl hn
  ·exact .inr (EE h n hn)
theorem WE{P:Program}{t e:TypeId}{α:Type}[Enc α]{B:α→Prop}(ht:P.underlying t=some (.slice e))(he:gO P e α B)(hc:P.cellsOf t=1):gO P t (List α) fun l=>(∀ a∈l,B a)∧l.length*P.bytesOf e≤reachBytes :=
 ⟨hc,by rw[LG];exact Nat.one_pos,fun {H enc0 w fuel cs x} h hwt=>by
  rcases DataW.trod_slice ht h with ⟨rfl,_⟩ | ⟨a,len,cap,elems,rest,n,_,rfl,hxx,hb,hl,hm,hlen,hel,_⟩
  ·refine ⟨[],⟨by simp,by simp⟩,?_⟩;simp only[gR,zz0];rw[ae];exact ⟨none,0,rfl,Z7 _,by decide,.inl rfl,by simp⟩
  ·have hw1:∀ y∈elems,∀ k∈y.1.weights P e,k≤reachBytes:=fun y hy k hk=>by
    refine hwt k ?_;rw[hxx];simp only[DataW.weights,ht,zy0,zz7];exact .inr (.inl (EE (zz3.2 ⟨y,hy,rfl⟩) k hk))
   have hw2:len*P.bytesOf e≤reachBytes:=by
    have:=hwt ((elems.length+rest.length)*P.bytesOf e) (by rw[hxx];simp[DataW.weights,ht]);have h3:elems.length*P.bytesOf e≤(elems.length+rest.length)*P.bytesOf e:=Nat.mul_le_mul_right _ (by omega);rw[←hlen];omega
   have key:∀ k,k≤len→∃ (l:List α) (cs':List Value),l.length=k∧az w (js w) cd (l.map enc) cs'∧cs'.length=k*Enc.sz α∧(∀ j v,cs'[j]?=some v→w.cell? (a.add j)=some v)∧∀ b∈l,B b:=by
    intro k
    induction k with
    |zero=>exact fun _=>⟨[],[],rfl,by simp[az],by simp,by simp,by simp⟩
    |succ k ih =>
     intro hk;obtain ⟨l,cs',h1,h2,h3,h4,hB⟩:=ih (by omega);have h5:=hel k (by omega);have h6:k<elems.length:=by omega
     rw[Y1 h6] at h5;obtain ⟨ce,h7,h8⟩:=zy5.1 h5;obtain ⟨y,hyB,hy⟩:=he.mK h8 (hw1 _ (List.getElem_mem h6));rw[he.cells] at h7;obtain ⟨_,h9,h10⟩:=World.cells?_some h7;refine ⟨l++[y],cs'++ce,by simp[h1],?_,by rw[Z1,h3,h9,Nat.succ_mul],fun j v hj =>?_,fun b hb=>(zz7.1 hb).elim (hB b) fun h=>by rw[zy2.1 h];exact hyB⟩
     ·rw[zz9];refine iP _ _ _ _ h2 ?_;simp only[Z3,zz0,az];exact ⟨ce,[],by simp,hy,rfl⟩
     ·rcases Nat.lt_or_ge j cs'.length with hlt | hge
      ·rw[Y5 hlt] at hj;exact h4 j v hj
      ·rw[zy4 hge] at hj;have hlt:j-cs'.length<Enc.sz α:=by
        have:=(Z6.1 hj).1;omega
       have:=h10 (j-cs'.length) hlt;rw[FP,←h3,Nat.add_sub_cancel' hge] at this;rw[this];exact hj
   obtain ⟨l,cs',h1,h2,h3,h4,hB⟩:=key len (Z7 _);refine ⟨l,⟨hB,by rw[h1];exact hw2⟩,?_⟩;simp only[gR,ae,Z2];refine ⟨some a,cap,by rw[h1],by omega,hm,?_,FW l⟩;by_cases hz:len=0
   ·left;have:l=[]:=List.length_eq_zero_iff.1 (by omega);rw[this];rfl
   right
   have hpos:0<cs'.length:=by rw[h3];exact Nat.mul_pos (Nat.pos_of_ne_zero hz) he.sE
   have h0:=h4 0 cs'[0] (Y1 hpos);have hsp:a.spot=none:=by
    simp only[Addr.add,if_true] at h0;unfold World.cell? at h0;split at h0
    ·split at h0
     ·cases h0
     ·rename_i hs;cases hh:a.spot <;>simp_all
    ·cases h0
   have ha:∀ j,a.add j=⟨a.block,a.off+j,none⟩:=fun j=>by
    unfold Addr.add;split
    ·rename_i hj;subst hj;cases a;simp_all
    ·rfl
   refine ⟨a.block,a.off,cs',by cases a;simp_all,fun j v hj =>?_,h2⟩;have h5:=h4 j v hj;rw[ha] at h5;refine ⟨h5,?_⟩
   show (⟨a.block,a.off+j,none⟩:Addr).block<_
   exact World.block_lt_of_cell? w _ h5⟩
theorem Ya{H:Type}{enc0:TypeId×Value→H}{P:Program}{w:World}{fuel:Nat}{t:TypeId}{l:List (TypeId×Nat)}{cs:List Value}{x:DataW H×List MemPlace}(ht:rP P t l=true)(h:DataW.trod enc0 P w 0 (fun _=>true) true fuel t cs=some x)(hwt:∀ k∈x.1.weights P t,k≤reachBytes) :
  cs.length=P.cellsOf t∧∃ m:Nat,∀ (i:Nat) (u:TypeId) (o:Nat),l[i]?=some (u,o)→∃ y,DataW.trod enc0 P w 0 (fun _=>true) true m u ((cs.drop o).take (P.cellsOf u))=some y∧∀ k∈y.1.weights P u,k≤reachBytes:=by
 obtain ⟨fs,h1,h2⟩:=UK ht;obtain ⟨xs,m,_,hx,h3,h4,h5⟩:=DataW.trod_struct h1 h;refine ⟨h3,m,fun i u o hi =>?_⟩;rw[←h2] at hi;simp only[zz2,t7,Prod.mk.injEq] at hi;obtain ⟨f,hf,rfl,rfl⟩:=hi;have hf':fs[i]?=some f:=by simpa using hf
 have h6:=h5 i f hf';have hlt:i<fs.size:=(Y2.1 hf').1;rw[Y1 (by omega)] at h6;refine ⟨_,h6,fun k hk=>hwt k ?_⟩;rw[hx];simp only[DataW.weights,h1];refine DataW.weights_mem_each (j:=i) ?_ ?_ k hk
 ·rw[zz2,hf];rfl
 ·rw[zz2,Y1 (by omega)];rfl
theorem BV{P:Program}{t:TypeId}{α:Type}[Enc α]{B:α→Prop}{H:Type}{enc0:TypeId×Value→H}{w:World}{dK:Nat}{v:Value}{d:DataW H}{p:List MemPlace}(ho:gO P t α B)(hA:Enc.gi α=true)(hst:(match P.underlying t with | some (.struct _) | some (.array _ _)=>true | _=>false)=true)(hv:Value.okWide P w .any dK t v)
  (h:DataW.Trod enc0 P w 0 (fun _=>true) true t v d p) (hwt:∀ k∈d.weights P t,k≤reachBytes):∃ (a:α),B a∧∃ (cs:List Value),aY (enc a) v cs∧ae w (js w) cd (enc a) cs:=by
 obtain ⟨fuel,h⟩:=h;have hagg:∃ cs,v=.agg cs:=by
  unfold Value.okWide at hv;split at hst
  ·rename_i fs ht;rw[ht] at hv;obtain ⟨cs,h1,_⟩:=hv;exact ⟨cs,h1⟩
  ·rename_i n e ht;rw[ht] at hv;obtain ⟨cs,h1,_⟩:=hv;exact ⟨cs,h1⟩
  ·cases hst
 obtain ⟨cs,rfl⟩:=hagg;have e:(Value.agg cs).cells.toList=cs.toList:=rfl;rw[e] at h;obtain ⟨a,hB,ha⟩:=ho.mK h hwt;exact ⟨a,hB,cs.toList,by simp[aY,Enc.agg,hA],ha⟩
end Go.Abs
namespace Go.Abs
open Go Go.RowKit
open Enc (enc)
structure al where
 b:ByteArray
 deriving DecidableEq,Inhabited
instance:Enc al where
 enc s:=.aj s.b
 sz:=1
 aK:=.one
 gi:=false
 done _:=rfl
 size _:=by simp[I.size]
 iz _:=by simp[I.aK]
 agg _:=rfl
instance:Enc UInt8 where
 enc b:=.int .u8 b.toNat
 sz:=1
 aK:=.one
 gi:=false
 done _:=rfl
 size _:=by simp[I.size]
 iz _:=by simp[I.aK]
 agg _:=rfl
def al.l(s:al):List UInt8:=s.b.data.toList
def al.of(l:List UInt8):al:=⟨⟨l.toArray⟩⟩
theorem al.vz(s:al):al.of s.l=s:=by obtain ⟨⟨⟨l⟩⟩⟩:=s;rfl
theorem al.dn(l:List UInt8):(al.of l).l=l:=rfl
theorem al.LW{s t:al}(h:s.l=t.l):s=t:=by rw[←al.vz s,←al.vz t,h]
theorem al.sr{s t:List UInt8} : al.of s=al.of t↔s=t:=⟨fun h=>by rw[←al.dn s,h,al.dn],fun h=>by rw[h]⟩
theorem al.size(s:al):s.b.size=s.l.length:=Lib.size_eq s.b
theorem wH(s t:ByteArray):(s.toList==t.toList)=decide ((⟨s⟩:al)=⟨t⟩):=by
 obtain ⟨⟨l⟩⟩:=s;obtain ⟨⟨m⟩⟩:=t;simp;by_cases h:l=m <;>simp[h]
def DM(a b:al):al:=⟨a.b++b.b⟩
theorem sX(s:al):enc s=I.aj s.b:=rfl
theorem XR(a b:al)(h:a.l.length+b.l.length≤9223372036854775807):bF .add (enc a) (enc b)=some (enc (DM a b)):=by
 rw[←al.size,←al.size] at h;simp only[sX,bF,if_pos h,DM]
theorem wc(a b:al):bF .eql (enc a) (enc b)=some (.bool (decide (a=b))):=by
 simp only[sX,bF,wH]
theorem we(a b:al):bF .neq (enc a) (enc b)=some (.bool (!decide (a=b))):=by
 simp only[sX,bF,wH]
theorem qf(a:al):lR (enc a)=some (.int .i64 a.l.length):=by
 simp only[sX,lR,al.size]
theorem DS(a:al){i:Nat}(h:i<a.l.length):ef .dN [enc a,.int .i64 (i:Int)]=some (.int .u8 (a.l[i].toNat:Int)):=by
 show (if 0≤(i:Int) then (a.b.data.toList[(i:Int).toNat]?).map fun b=>I.int .u8 b.toNat else none)=_
 rw[if_pos (by omega),Int.toNat_natCast,Y1 (show i<a.b.data.toList.length from h)];rfl
theorem zQ(s:ByteArray)(i j:Nat):(⟨s.extract i j⟩:al)=al.of ((s.data.toList.drop i).take (j-i)):=al.LW (Lib.extract_data s i j)
theorem sY(a:al){i:Nat}(h2:i≤a.l.length):ef (.ss true false) [enc a,.int .i64 (i:Int)]=some (enc (al.of (a.l.drop i))):=by
 show (if 0≤(i:Int)∧(i:Int)≤a.b.size then some (I.aj (a.b.extract (i:Int).toNat a.b.size)) else none)=_
 rw[if_pos ⟨by omega,by rw[al.size];omega⟩,Int.toNat_natCast];refine (congrArg (fun s:al=>some (enc s)) (zQ a.b i a.b.size)).trans ?_;rw[al.size,List.take_of_length_le (by simp[al.l])];rfl
theorem qg(a:al){j:Nat}(h2:j≤a.l.length):ef (.ss false true) [enc a,.int .i64 (j:Int)]=some (enc (al.of (a.l.take j))):=by
 show (if 0≤(j:Int)∧(j:Int)≤a.b.size then some (I.aj (a.b.extract 0 (j:Int).toNat)) else none)=_
 rw[if_pos ⟨by omega,by rw[al.size];omega⟩,Int.toNat_natCast];exact congrArg (fun s:al=>some (enc s)) (zQ a.b 0 j)
theorem DP(n:Int):gz 1 (some [.int .u8 n])=some (.slice 1 [.int .u8 n]):=by
 simp[gz,I.size,I.b7,I.bw]
theorem DO(A:ab)(n:Int):kM (cP A 1 (.slice 1 [.int .u8 n]))=some (enc (al.of [UInt8.ofNat n.toNat])):=rfl
theorem qh(b:UInt8):enc b=I.int .u8 (b.toNat:Int):=rfl
theorem DR(s:al):lv (enc s)=some (s.l.map enc):=rfl
theorem DL{A:ab}{d:Nat}{k:ab→bV}{l:List UInt8}(hd:A.o d=none) :
  ∃ p:Nat→Prop,gZ A (some d) k (some (l.map enc))=.any p fun m=>k ((A.aQ d (.box (.agg ((l++List.replicate m 0).map enc)))).aN (some d) (.view d [] 1 0 l.length)):=by
 refine ⟨fun m=>(l.map enc).length+m≤maxLen,?_⟩;have e:∀ m,(l++List.replicate m (0:UInt8)).map enc=l.map enc++List.replicate m (I.int .u8 0):=fun m=>by
  rw[zz9,List.map_replicate];rfl
 simp only[gZ,hd,e,Z2]
theorem aX.eE{P:Program}{Y:Value→List I→List (Nat×ai)→bX→Prop}{K:ab→Prop}{ts:List (Nat×I)}{os:List (Nat×ai)}{d:Nat}{rest:List au}{l:List UInt8}(hd:aD os d=none)
  (h:∀ m,aX P Y false K (ao rest (aw ((d,.view d [] 1 0 l.length)::ts) ((d,.box (.agg ((l++List.replicate m 0).map enc)))::os)))):aX P Y false K (gZ (aw ts os) (some d) (ao rest) (some (l.map enc))):=by
 obtain ⟨p,e⟩:=DL (A:=aw ts os) (k:=ao rest) (l:=l) hd;rw[e];exact .any rfl fun m _=>h m
theorem zV{A:ab}{n:Nat}{l q:List UInt8}(h:A.o n=some (.box (.agg ((l++q).map enc)))):ba true A (.view n [] 1 0 l.length)=some (enc l):=by
 have h1:ba true A (.view n [] 1 0 l.length)=j7 1 0 l.length (some ((l++q).map enc)):=by
  rw[uM,h];rfl
 have e:j7 1 0 l.length (some ((l++q).map enc))=some (enc ((l++q).take l.length)):=pj rfl;rw[h1,e,List.take_left]
theorem bH.eE{P:Program}{Y:Value→List I→List (Nat×ai)→bX→Prop}{hs:List FuncId}{K:ab→Prop}{ts:List (Nat×I)}{os:List (Nat×ai)}{d:Nat}{rest:List au}{l:List UInt8}(hd:aD os d=none)
  (h:∀ m,bH P Y hs K (ao rest (aw ((d,.view d [] 1 0 l.length)::ts) ((d,.box (.agg ((l++List.replicate m 0).map enc)))::os)))):bH P Y hs K (gZ (aw ts os) (some d) (ao rest) (some (l.map enc))):=by
 obtain ⟨p,e⟩:=DL (A:=aw ts os) (k:=ao rest) (l:=l) hd;rw[e];exact .any fun m _=>h m
theorem DQ(a:al):bU none (enc a)=true:=rfl
theorem bm :
  (∀ d rest A p xs,bn A d (.prim p xs) rest=b6 (ef p (xs.map (af A))) (cD d rest A))∧(∀ d rest A x,bn A d (.b2s x) rest=b6 (kM (cP A 1 (af A x))) (cD d rest A)) ∧
  (∀ b,ef (.mG b) [.cL]=some (.bool (!b)))∧(∀ b t v,ef (.mG b) [.iface t v]=some (.bool b))∧(type_of% @wc)∧(type_of% @we)∧(type_of% @qf)∧(type_of% @DP)∧(type_of% @DO)∧(type_of% @DQ)∧(∀ d rest A x,bn A d (.eE x) rest=gZ A d (ao rest) (lv (af A x)))∧(type_of% @DR)∧(∀ a b,ef .min2 [.int .i64 a,.int .i64 b]=some (.int .i64 (if b<a then b else a))) ∧
  (∀ a b,bF .eql (.int .u8 a) (.int .u8 b)=some (.bool (a==b)))∧(∀ a b,bF .neq (.int .u8 a) (.int .u8 b)=some (.bool (a != b)))∧(∀ a b,bF .lss (.int .u8 a) (.int .u8 b)=some (.bool (decide (a<b))))∧(∀ a b,bF .gtr (.int .u8 a) (.int .u8 b)=some (.bool (decide (a>b)))) ∧
  (∀ a b,bF .leq (.int .u8 a) (.int .u8 b)=some (.bool (decide (a≤b))))∧(∀ a b,bF .geq (.int .u8 a) (.int .u8 b)=some (.bool (decide (a≥b))))∧(∀ a b,bF .sub (.int .u8 a) (.int .u8 b)=some (.int .u8 (IntKind.u8.wrap (a-b)))) :=
 ⟨fun _ _ _ _ _=>rfl,fun _ _ _ _=>rfl,fun _=>rfl,fun _ _ _=>rfl,wc,we,qf,DP,DO,DQ,fun _ _ _ _=>rfl,DR,fun _ _=>rfl,fun _ _=>rfl,fun _ _=>rfl,fun _ _=>rfl,fun _ _=>rfl,fun _ _=>rfl,fun _ _=>rfl,fun _ _=>rfl⟩
end Go.Abs
namespace Go.Abs
open Go
open Enc (enc)
def jc(c:UInt8)(gM:Bool):List UInt8→List (List UInt8)
 | []=>[[]]
 |b::l=>if b=c then (if gM then [b] else [])::jc c gM l else match jc c gM l with
  |h::t=>(b::h)::t
  | []=>[[b]]
theorem KF(c:UInt8)(gM:Bool)(l:List UInt8):jc c gM l≠[]:=by
 cases l with
 |nil=>simp[jc]
 |cons b l =>
  simp only[jc];split
  ·simp
  ·split <;>simp
theorem zu{c:UInt8}{gM:Bool} : ∀ {l:List UInt8},(∀ b∈l,b≠c)→jc c gM l=[l]
 | [],_=>rfl
 |b::l,h=>by
  simp only[jc,if_neg (h b (by simp)),zu (l:=l) fun x hx=>h x (by simp[hx])]
theorem zt{c:UInt8}{gM:Bool} : ∀ {x:List UInt8} (y:List UInt8),(∀ b∈x,b≠c)→jc c gM (x++c::y)=(x++if gM then [c] else [])::jc c gM y
 | [],y,_=>by cases gM <;>simp[jc]
 |b::x,y,h=>by
  simp only[Y3,jc,if_neg (h b (by simp)),zt (x:=x) y fun z hz=>h z (by simp[hz])]
theorem zx{u:Nat}(h:¬ u<10):Lib.decDigits u=Lib.decDigits (u / 10)++[UInt8.ofNat (48+u%10)]:=by
 rw[Lib.decDigits,dif_neg h]
theorem D7{α:Type}[Enc α](A:ab){l:List α}{esz:Nat}{k:Nat}(hs:Enc.sz α=esz)(h:k≤l.length):iA A esz none (some (.int .i64 (k:Int))) none (enc l)=some (enc (l.take k)):=by
 simp only[iA,gR,hs,if_true,hU,gy,Z2];rw[if_pos (by omega)];simp only[Option.isSome_none,Z5,false_and,if_false,Int.toNat_natCast,Int.toNat_zero,List.drop_zero];rw[List.map_take]
end Go.Abs
namespace Go.Abs
open Go Go.Shelf Go.Proofs
open Enc (enc)
theorem Gf{w:World}{D:aJ}{x y:al}{vs:List Value}(hv:ak w D cd [enc x,enc y] vs):vs=[.string x.b,.string y.b]:=by
 have hv':ak w D cd [.aj x.b,.aj y.b] vs:=hv;simp only[ak] at hv';obtain ⟨v,rest,cs,rfl,h1,h2,v2,rest2,cs2,rfl,h3,h4,rfl⟩:=hv';rw[(fM (fm h1 h2)).1,(fM (fm h3 h4)).1]
theorem KC{P:Program}{ρ:Ren}(ar:Lays.n104 P ρ)(hc:dM P (ρ.f 104)=true)(s p:al):aR P (ρ.f 104) [enc s,enc p] (.tuple [enc (al.of (Lib.trimSuffix s.l p.l)),enc (Lib.hasSuffix s.l p.l)]):=by
 refine ⟨hc,fun w D vs hl hD hv =>?_⟩;have hsz:s.b.size≤maxLen:=by
  have hv':ak w D cd [.aj s.b,.aj p.b] vs:=hv;simp only[ak] at hv';obtain ⟨v,rest,cs,rfl,h1,h2,_⟩:=hv';exact (fM (fm h1 h2)).2
 rw[Gf hv];refine (Any.strings_CutSuffix ar s.b p.b w (by unfold maxLen at hsz;omega)).mono ?_;rintro e w' ⟨rfl,rfl⟩;refine ⟨_,D,rfl,⟨[_,_],rfl,?_⟩,Go.RowKit.Below.refl _ w',hD,fun _ _ h _=>h⟩;simp only[ak];refine ⟨_,_,[_],rfl,by simp[aY,I.isAgg,enc];rfl,?_,_,_,[_],rfl,by simp[aY,I.isAgg,enc];rfl,?_,rfl⟩
 ·show ae _ _ _ (.aj _) _
  simp only[ae];refine ⟨rfl,?_⟩
  show (Lib.trimSuffix s.l p.l).toArray.size≤maxLen
  have h1:(Lib.trimSuffix s.l p.l).length≤s.l.length:=by unfold Lib.trimSuffix;split <;>simp
  rw[al.size] at hsz;simp only[List.size_toArray];omega
 ·show ae _ _ _ (.bool _) _
  simp only[ae];rfl
def gx(T:TypeId)(l:List UInt8):I:=match Lib.atoiAll l with
 | .ok v=>.tuple [enc v,.cL]
 | .range=>.tuple [enc (Lib.atoiSat l),.iface T .any]
 | _ =>.tuple [enc (0:Int),.iface T .any]
theorem KA {P : Program} {ρ : Ren} (ar : LaysC.n172 P ρ) (hc : dM P (ρ.f 172) = true) (g1 : P.globalNamed "strconv.ErrSyntax" = some (ρ.g 15)) (g2 : P.globalNamed "strconv.ErrRange" = some (ρ.g 16)) {T : TypeId} (hT : ρ.t 168 = T) (s : al) (hs : s.l.length ≤ 281474976710656) : aR P (ρ.f 172) [enc s] (gx T s.l) := by
 refine ⟨hc,fun w D vs hl hD hv =>?_⟩;subst hT;have hv':ak w D cd [.aj s.b] vs:=hv;simp only[ak] at hv';obtain ⟨v,rest,cs,rfl,h1,h2,rfl⟩:=hv';rw[(fM (fm h1 h2)).1];rw[←al.size] at hs;obtain ⟨_, hv1, t1, p1, rfl⟩ := hl.rC (n := "strconv.ErrSyntax") (k := .nN) (by simp [mC]) g1
 obtain ⟨_, hv2, t2, p2, rfl⟩ := hl.rC (n := "strconv.ErrRange") (k := .nN) (by simp [mC]) g2
 have fail:∀ (n:Int) (w':World) (N:Nat),IntKind.i64.min≤n∧n≤IntKind.i64.max→Go.RowKit.Below w.heap.size w w' →
   ∃ v D',(Ending.returned (.tuple #[.int .i64 n,.iface (ρ.t 168) (.pointer (some ⟨N,0,none⟩))])=.returned v)∧aP w' D' cd (.tuple [enc n,.iface (ρ.t 168) .any]) v∧Go.RowKit.Below w.heap.size w w'∧(∀ b o,D' b o→b<w'.heap.size)∧∀ b o,D' b o→b<w.heap.size→D b o:=by
  intro n w' N hn hb;refine ⟨_,D,rfl,⟨[_,_],rfl,?_⟩,hb,fun b o hd=>zy7 (hD b o hd) hb.size,fun _ _ h _=>h⟩;simp only[ak];refine ⟨_,_,[_],rfl,by simp[aY,I.isAgg,enc];rfl,?_,_,_,[_],rfl,by simp[aY,I.isAgg];rfl,?_,rfl⟩
  ·show ae _ _ _ (.int .i64 n) _
   simp only[ae,true_and];exact hn
  ·simp only[ae];exact ⟨_,[_],rfl,by simp[aY,I.isAgg];rfl,_,rfl,rfl⟩
 have hmin:IntKind.i64.min=-9223372036854775808:=by decide
 have hmax:IntKind.i64.max=9223372036854775807:=by decide
 cases hr:Lib.atoiAll s.b.data.toList with
 |ok n =>
  refine (Any.strconv_Atoi_ok ar s.b (by omega) n hr w).mono ?_;rintro e w' ⟨rfl,hw⟩;have hb:Go.RowKit.Below w.heap.size w w':=by
   rcases hw with rfl | ⟨t,rfl⟩
   ·exact Go.RowKit.Below.refl _ _
   ·exact Lib.bytesWorld_below _ _ _
  have hn:=Lib.atoiAll_bounds hr;have e0:gx (ρ.t 168) s.l=.tuple [enc n,.cL]:=by
   show gx (ρ.t 168) s.b.data.toList=_
   simp only[gx,hr]
  rw[e0];refine ⟨_,D,rfl,⟨[_,_],rfl,?_⟩,hb,fun b o hd=>zy7 (hD b o hd) hb.size,fun _ _ h _=>h⟩;simp only[ak];refine ⟨_,_,[_],rfl,by simp[aY,I.isAgg,enc];rfl,?_,_,_,[_],rfl,by simp[aY,I.isAgg];rfl,?_,rfl⟩
  ·show ae _ _ _ (.int .i64 n) _
   simp only[ae,true_and];rw[hmin,hmax];omega
  ·simp only[ae]
 |range =>
  have e0:gx (ρ.t 168) s.l=.tuple [enc (Lib.atoiSat s.l),.iface (ρ.t 168) .any]:=by
   show gx (ρ.t 168) s.b.data.toList=_
   simp only[gx,hr];rfl
  rw[e0];refine (Any.strconv_Atoi_range_var ar s.b hs hr t2 p2 w hv2).mono ?_;rintro e w' ⟨N,rfl,_,_,hb⟩;have hn:=Lib.atoiSat_bounds s.b.data.toList;exact fail _ w' N (by rw[hmin,hmax];exact hn) hb
 | _ =>
  have e0:gx (ρ.t 168) s.l=.tuple [enc (0:Int),.iface (ρ.t 168) .any]:=by
   show gx (ρ.t 168) s.b.data.toList=_
   simp only[gx,hr]
  rw[e0];refine (Any.strconv_Atoi_syntax_var ar s.b hs hr t1 p1 w hv1).mono ?_;rintro e w' ⟨N,rfl,_,_,hb⟩;exact fail 0 w' N (by rw[hmin,hmax];omega) hb
end Go.Abs
namespace Go.Abs
open Go Go.Shelf Go.Proofs
open Enc (enc)
def vb(n:Int):al:=al.of (Lib.itoa n)
open Go.Sort Go.RowKit in
theorem tT(w:World)(k:Nat)(os:Array Obj):Go.RowKit.Below w.heap.size w (grow (w.drewN k) os) :=
 ⟨rfl,rfl,rfl,by simp,fun i hi=>by rw[heap_grow_old _ _ (by simpa using hi)];rfl⟩
theorem KE{P:Program}{ρ:Ren}(ar:LaysM.n171 P ρ)(hc:dM P (ρ.f 171)=true){g:Nat}(hg:P.globalNamed rS=some g)(n:Int):aR P (ρ.f 171) [enc n] (enc (vb n)):=by
 refine ⟨hc,fun w D vs hl hD hv =>?_⟩;have hv':ak w D cd [.int .i64 n] vs:=hv;simp only[ak] at hv';obtain ⟨v,rest,cs,rfl,h1,h2,rfl⟩:=hv';obtain ⟨rfl,h3,h4⟩:=dc (fm h1 h2);have h3':-9223372036854775808≤n:=h3;have h4':n≤9223372036854775807:=h4;obtain ⟨_,htab,rfl⟩:=hl.rC (n:=rS) (k:=.sF) (by simp[mC]) hg;refine (Any.strconv_Itoa ar n h3' h4' w htab).mono ?_;rintro e w' ⟨rfl,k,os,rfl⟩;refine ⟨_,D,rfl,⟨[.string ⟨(Lib.itoa n).toArray⟩],by simp[aY,I.isAgg,enc],?_⟩,tT w k os,fun b o hd=>zy7 (hD b o hd) (tT w k os).size,fun _ _ h _=>h⟩;have hlen:=Lib.itoa_length_le n h3' h4'
 show ae _ _ _ (.aj _) _
 simp only[ae];refine ⟨rfl,?_⟩
 show (Lib.itoa n).toArray.size≤maxLen
 simp only[List.size_toArray,maxLen];omega
theorem wG{w:World}{D:aJ}{s:al}{p:List I}{vs:List Value}(hv:ak w D cd (enc s::p) vs):∃ rest,vs=.string s.b::rest∧s.b.size≤maxLen∧ak w D cd p rest:=by
 have hv':ak w D cd (.aj s.b::p) vs:=hv;simp only[ak] at hv';obtain ⟨v,rest,cs,rfl,h1,h2,h3⟩:=hv';obtain ⟨rfl,h4⟩:=fM (fm h1 h2);exact ⟨rest,rfl,h4,h3⟩
theorem DG{w:World}{D:aJ}{E:aM}{l:List UInt8}(h:l.length≤maxLen):aP w D E (enc (al.of l)) (.string ⟨l.toArray⟩):=by
 refine ⟨[.string ⟨l.toArray⟩],by simp[aY,I.isAgg,enc,al.of],?_⟩
 show ae _ _ _ (.aj _) _
 simp only[ae];exact ⟨rfl,by show l.toArray.size≤maxLen;simpa using h⟩
theorem KD{P:Program}{ρ:Ren}(ar:Lays.n137 P ρ)(hc:dM P (ρ.f 137)=true)(s:al)(c:UInt8):aR P (ρ.f 137) [enc s,.int .u8 c.toNat] (enc (Lib.indexByte s.l c)):=by
 refine ⟨hc,fun w D vs hl hD hv =>?_⟩;obtain ⟨rest,rfl,hsz,hv2⟩:=wG hv;simp only[ak] at hv2;obtain ⟨v,rest2,cs,rfl,h1,h2,rfl⟩:=hv2;obtain ⟨rfl,_⟩:=dc (fm h1 h2);have key:=Any.strings_IndexByte ar s.b (c.toNat:Int) w;have hcc:((c.toNat:Int)).toNat.toUInt8=c:=by simp
 rw[hcc] at key;refine Calls.mono key ?_;rintro e w' ⟨rfl,rfl⟩;refine ⟨_,D,rfl,⟨[_],by simp[aY,I.isAgg,enc];rfl,?_⟩,Go.RowKit.Below.refl _ w',hD,fun _ _ h _=>h⟩
 show ae _ _ _ (.int .i64 (Lib.indexByte s.l c)) _
 simp only[ae];refine ⟨rfl,?_⟩;have g1:=Lib.indexByte_ge s.l c;have g2:∀ l:List UInt8,Lib.indexByte l c≤l.length:=by
  intro l
  induction l with
  |nil=>simp[Lib.indexByte]
  |cons b l ih =>
   unfold Lib.indexByte
   (repeat' split) <;>simp only[zy1] <;>omega
 have g3:=g2 s.l;rw[al.size] at hsz;have hmin:IntKind.i64.min=-9223372036854775808:=by decide
 have hmax:IntKind.i64.max=9223372036854775807:=by decide
 unfold maxLen at hsz;rw[hmin,hmax];omega
theorem KB{P:Program}{ρ:Ren}(ar:LaysM.n316 P ρ)(hc:dM P (ρ.f 316)=true)(s:al)(hs:s.l.length≤281474976710656):aR P (ρ.f 316) [enc s] (enc s):=by
 refine ⟨hc,fun w D vs hl hD hv =>?_⟩;obtain ⟨rest,rfl,hsz,hv2⟩:=wG hv;simp only[ak] at hv2;subst hv2;refine (Any.stringslite_Clone ar s.b w (by rw[al.size];exact hs)).mono ?_;rintro e w' ⟨rfl,hb⟩;refine ⟨_,D,rfl,⟨[_],by simp[aY,I.isAgg,enc];rfl,?_⟩,hb,fun b o hd=>zy7 (hD b o hd) hb.size,fun _ _ h _=>h⟩
 show ae _ _ _ (.aj s.b) _
 simp only[ae,true_and];exact hsz
end Go.Abs
namespace Go.Abs
open Go
theorem zy:∀ (k n:Nat),n<10^(k+1)→(Lib.decDigits n).length≤k+1
 |0,n,h=>by rw[Lib.decDigits_one (by omega)];simp
 |k+1,n,h=>by
  by_cases q:n<10
  ·rw[Lib.decDigits_one q];simp
  ·rw[zx q,Z1];have:=zy k (n / 10) (by rw[Nat.pow_succ] at h;omega);simp only[zy1,zz8];omega
theorem pD{k:Nat}{n:Int}(h:0≤n∧n<((10^(k+1):Nat):Int)):(Lib.itoa n).length≤k+1:=by
 obtain ⟨m,rfl⟩:=Y9 h.1;rw[Lib.itoa_nonneg];exact zy k m (by omega)
end Go.Abs
namespace Go.Abs
open Go Go.RowKit
open Enc (enc)
def rR:Option Nat→Code
 |none=>.ret
 |some id=>.exit id
def uC:Option Nat→Exit
 |none=>.ret
 |some id=>.exit id
def oH(o:Obj)(A:ab)(os:List (Nat×ai)):Prop:=∀ n x,aD (bO o os) n=some x→A.o n=some x∧x.only (aI (bO o os))=true∧x.ed=true
def Dy(o:Obj)(In:List (Nat×ai)→Prop)(Ix:Option Nat→List (Nat×ai)→Prop):Exit→ab→Prop
 | .normal,A=>∃ os,oH o A os∧In os
 | .ret,A=>∃ os,oH o A os∧Ix none os
 | .exit id,A=>∃ os,oH o A os∧Ix (some id) os
 |_,_=>False
section
variable {c:b9} {Q:Exit→ab→Prop}
theorem UD{o:Obj}{A:ab}{os:List (Nat×ai)}(h:oH o A os)(o':Obj):∀ n x,aD (bO o' os) n=some x→(A.aQ 1999999 (.c6 o')).o n=some x∧x.only (aI (bO o' os))=true∧x.ed=true:=fun n x hx=>by
 have e:aI (bO o' os)=aI (bO o os):=by funext m;rw[jE,jE]
 rw[e];by_cases hn:n=1999999
 ·subst hn;rw[oa,if_pos rfl,v6] at hx;subst hx;exact ⟨by simp[ab.aQ],rfl,rfl⟩
 ·rw[oa,if_neg hn] at hx;obtain ⟨h1,h2⟩:=h n x (by rw[oa,if_neg hn];exact hx);exact ⟨by simp only[ab.aQ,if_neg hn];exact h1,h2⟩
end
mutual
theorem mQ{ρ:Nat→Nat}(h:∀ n,ρ n=n):∀ x:I,x.aS ρ=x
 | .agg fs | .tuple fs=>by simp only[I.aS];rw[lq h fs]
 | .slice _ es=>by simp only[I.aS];rw[lq h es]
 | .ref x=>by simp only[I.aS];rw[mQ h x]
 | .func _ caps=>by simp only[I.aS];rw[lq h caps]
 | .iface _ v=>by simp only[I.aS];rw[mQ h v]
 | .ptr _ _ | .own _ _ | .view _ _ _ _ _ | .mref _ | .cR _=>by simp only[I.aS,h]
 | .cW ks vs=>by simp only[I.aS];rw[lq h ks,lq h vs]
 | .bool _ | .int _ _ | .aj _ | .nilp | .cZ | .cL | .any | .raw _ | .nils _ | .c0 _ | .undef | .cU=>by simp only[I.aS]
theorem lq{ρ:Nat→Nat}(h:∀ n,ρ n=n):∀ xs:List I,I.cT ρ xs=xs
 | []=>rfl
 |x::xs=>by simp only[I.cT];rw[mQ h x,lq h xs]
end
theorem ai.mQ{ρ:Nat→Nat}(h:∀ n,ρ n=n):∀ x:ai,x.aS ρ=x
 | .box x=>by simp only[ai.aS,Abs.mQ h]
 | .bJ _ _ es=>by simp only[ai.aS,lq h]
 | .c6 _=>rfl
 | .dJ _ _=>rfl
 | .bZ _ _=>by simp only[ai.aS,lq h]
 | .it _ _ _ _=>by simp only[ai.aS,lq h]
theorem Xt(os:List (Nat×ai)):cX [] os=os:=by
 simp only[cX];have:(fun q:Nat×ai=>(bq [] q.1,q.2.aS (bq [])))=id:=by
  funext q
  rw[ai.mQ (ρ:=bq []) (fun n=>rfl)];rfl
 rw[this,List.map_id]
theorem Bi(a b:List (Nat×ai))(n:Nat):aD (a++b) n=match aD a n with
  |some x=>some x
  |none=>aD b n:=by
 induction a with
 |nil=>rfl
 |cons q a ih =>
  obtain ⟨k,v⟩:=q;simp only[Y3,aD];split
  ·rfl
  ·exact ih
theorem ff.none{os os':List (Nat×ai)}(h:ff os os'){n:Nat}(hn:n<1000000):aD os' n=none:=by
 cases hx:aD os' n with
 |none=>rfl
 |some x =>
  have h1:aI os' n=true:=by simp[aI,hx]
  rw[h.same] at h1;exact absurd (h.lP n h1) (by omega)
theorem bC.slots{ts ts':List (Nat×I)}{os os':List (Nat×ai)}(h1:cm ts ts')(h2:∀ n,aD os n=aD os' n):bC (aw ts os) (aw ts' os'):=by
 have e:aw ts os=aw ts os':=by
  simp only[aw];congr 1;funext n;exact h2 n
 rw[e];rintro c a w ⟨D,E,hs⟩;refine ⟨D,E,hs.sz,hs.ec,fun t =>?_,hs.de,hs.cI,hs.cK,hs.bx,hs.cu,hs.dx,hs.eJ,hs.cw,hs.eQ,hs.fq⟩;rcases wI h1 t with h | h
 ·simp only[aw];rw[h];simp[aP]
 ·have:=hs.dB t;simp only[aw] at *;rw[h];exact this
theorem xD{os osk os2 ow:List (Nat×ai)}{ts:List (Nat×I)}(h1:ff os osk)(h2:ff os os2)(how:∀ m,aI ow m=true→m<1000000):aw ts (cX [] os2++(ow++osk))=aw ts (ow++os2):=by
 simp only[aw,Xt]
 congr 1
 funext n
 simp only[Bi];cases hw:aD ow n with
 |none =>
  simp only;cases h3:aD os2 n with
  |some x=>rfl
  |none =>
   simp only;cases h4:aD osk n with
   |none=>rfl
   |some x =>
    have h5:aI osk n=true:=by simp[aI,h4]
    rw[h1.same,←h2.same] at h5;simp[aI,h3] at h5
 |some x =>
  simp only;rw[h2.none (how n (by simp[aI,hw]))]
theorem eM.jB{os osk ow:List (Nat×ai)}(h1:ff os osk)(how:∀ m,aI ow m=true→m<1000000):eM [] osk (ow++osk):=by
 refine ⟨fun m x hx =>?_,fun m m' _ _ h=>h⟩;have hm:aI osk m=true:=by simp[aI,hx]
 have hg:=h1.lP m (by rw[←h1.same];exact hm);obtain ⟨k1,k2⟩:=h1.ok m x hx;refine ⟨?_,k1,k2⟩;rw[ai.mQ (ρ:=bq []) (fun n=>rfl)];simp only[bq,Bi];cases hw:aD ow m with
 |none=>exact hx
 |some y=>have:=how m (by simp[aI,hw]);omega
theorem dv.jB{os osk os2 os0:List (Nat×ai)}{r:I}(h1:ff os osk)(h2:ff os os2)(hr:r.bw=true):dv false [] osk os0 r os2:=by
 refine ⟨fun m x hx=>⟨(h2.ok m x hx).1,(h2.ok m x hx).2,fun h=>by cases h⟩,fun m m' _ _ h=>h,fun m hm=>by rw[h2.same,←h1.same];exact hm,fun m h3 h4 =>?_,lX _ r hr,fun h=>by cases h⟩;rw[h2.same,←h1.same,h4] at h3;cases h3
theorem aX.Yw{P:Program}{Y:Value→List I→List (Nat×ai)→bX→Prop}{K:ab→Prop}{v:Value}{vs:List I}{dst:Option Nat}{rest:List au}{ts:List (Nat×I)}{os osk ow:List (Nat×ai)}{In Ix:List (Nat×ai)→Prop}
  (hY:Y v vs osk (fun r os2=>(r=.bool true∧In os2)∨(r=.bool false∧Ix os2))) (hk:ff os osk) (hi:∀ os',In os'→ff os os') (hx:∀ os',Ix os'→ff os os') (hcl:I.b7 vs=true) (how:∀ m,aI ow m=true→m<1000000)
  (h1:∀ os2,In os2→aX P Y false K (ao rest ((aw ts (ow++os2)).aN dst (.bool true)))) (h2:∀ os2,Ix os2→aX P Y false K (ao rest ((aw ts (ow++os2)).aN dst (.bool false)))) :
  aX P Y false K (.kS v vs dst rest (aw ts (ow++osk))):=by
 refine .tn osk vs _ rfl hY (eM.jB hk how) (xw vs hcl) ?_ ?_
 ·rintro r os' (⟨rfl,h⟩ | ⟨rfl,h⟩)
  ·exact dv.jB hk (hi _ h) rfl
  ·exact dv.jB hk (hx _ h) rfl
 ·rintro r os' (⟨rfl,h⟩ | ⟨rfl,h⟩)
  ·rw[xD hk (hi _ h) how];exact h1 os' h
  ·rw[xD hk (hx _ h) how];exact h2 os' h
theorem H8(A:ab)(d:Option Nat)(args:List I)(rest:List au)(v:Value):o8 A d args rest (.raw v)=.kS v args d rest A:=rfl
end Go.Abs
namespace Go.Proofs.YtoffnnjbplgnaaaGreatDoor
open Go Go.Abs
open Go.Abs.Enc (enc)
structure Item where
 aO:Int
 no:Int
 deriving DecidableEq,Inhabited
instance:Enc Item where
 enc x:=.agg [.int .i64 x.aO,.int .i64 x.no]
 sz:=2
 aK:=.eC [.one,.one]
 gi:=true
 done _:=rfl
 size _:=by simp[I.size,I.sizes]
 iz _:=by simp[I.aK,I.cE]
 agg _:=rfl
structure ah where
 aO:Int
 no:Int
 kind:Int
 dW:Int
 known:Int
 e9:Int
 fo:Int
 text:List UInt8
 deriving DecidableEq,Inhabited
def ah.bg(r:ah):Item:=⟨r.aO,r.no⟩
def ah.fW(r:ah):Item:=⟨r.e9,r.fo⟩
instance:Enc ah where
 enc r:=.agg [enc r.bg,.int .i64 r.kind,.int .i64 r.dW,.int .i64 r.known,enc r.fW,enc (al.of r.text)]
 sz:=8
 aK:=.eC [.eC [.one,.one],.one,.one,.one,.eC [.one,.one],.one]
 gi:=true
 done e:=by simp only[I.done,I.iI,Enc.done,Bool.and_self]
 size e:=by simp only[I.size,I.sizes,lM];rfl
 iz e:=by simp only[I.aK,I.cE,eB];rfl
 agg _:=rfl
structure cN where
 bD:List UInt8
 dh:List UInt8
 deriving DecidableEq,Inhabited
instance:Enc cN where
 enc r:=.agg [enc (al.of r.bD),enc (al.of r.dh)]
 sz:=2
 aK:=.eC [.one,.one]
 gi:=true
 done e:=by simp only[I.done,I.iI,Enc.done,Bool.and_self]
 size e:=by simp only[I.size,I.sizes,lM];rfl
 iz e:=by simp only[I.aK,I.cE,eB];rfl
 agg _:=rfl
structure cz where
 cq:cN
 copy:cN
 deriving DecidableEq,Inhabited
instance:Enc cz where
 enc r:=.agg [enc r.cq,enc r.copy]
 sz:=4
 aK:=.eC [.eC [.one,.one],.eC [.one,.one]]
 gi:=true
 done e:=by simp only[I.done,I.iI,Enc.done,Bool.and_self]
 size e:=by simp only[I.size,I.sizes,lM];rfl
 iz e:=by simp only[I.aK,I.cE,eB];rfl
 agg _:=rfl
structure iD where
 l:List ah
 deriving DecidableEq,Inhabited
instance:Enc iD where
 enc b:=.agg [enc b.l]
 sz:=1
 aK:=.eC [.one]
 gi:=true
 done e:=by simp only[I.done,I.iI,Enc.done,Bool.and_self]
 size e:=by simp only[I.size,I.sizes,lM];rfl
 iz e:=by simp only[I.aK,I.cE,eB];rfl
 agg _:=rfl
theorem pQ{fs:List I}{f off:Nat}{v:I}(h1:f<fs.length)(h:I.sizes (fs.take f)=off):fL fs f off v=some v:=by simp[fL,h,h1]
theorem LF:Enc.sz Item=2:=rfl
theorem LI:Enc.sz al=1:=rfl
theorem LH:Enc.sz cN=2:=rfl
theorem BJ(x:I)(fs:List I)(v:I):fL (x::fs) 0 0 v=some v:=pQ (by simp) (by simp[I.sizes])
theorem BG(a b:Item)(n1 n2 n3:Int)(s:al)(v:I) :
  (fL [enc a,.int .i64 n1,.int .i64 n2,.int .i64 n3,enc b,enc s] 1 2 v=some v)∧(fL [enc a,.int .i64 n1,.int .i64 n2,.int .i64 n3,enc b,enc s] 2 3 v=some v)∧(fL [enc a,.int .i64 n1,.int .i64 n2,.int .i64 n3,enc b,enc s] 3 4 v=some v) ∧
  (fL [enc a,.int .i64 n1,.int .i64 n2,.int .i64 n3,enc b,enc s] 4 5 v=some v)∧(fL [enc a,.int .i64 n1,.int .i64 n2,.int .i64 n3,enc b,enc s] 5 7 v=some v):=by
 refine ⟨?_,?_,?_,?_,?_⟩ <;>refine pQ (t8 rfl) ?_ <;>simp[I.sizes,I.size,lM,LF]
theorem BF(n1 n2:Int)(v:I):fL [.int .i64 n1,.int .i64 n2] 1 1 v=some v:=pQ (t8 rfl) (by simp[I.sizes,I.size])
theorem BI(a b:al)(v:I):fL [enc a,enc b] 1 1 v=some v:=pQ (t8 rfl) (by simp[I.sizes,lM,LI])
theorem BH(a b:cN)(v:I):fL [enc a,enc b] 1 2 v=some v:=pQ (t8 rfl) (by simp[I.sizes,lM,LH])
theorem EB :
  (∀ x:Item,(enc x).c7=some [.int .i64 x.aO,.int .i64 x.no])∧(∀ r:ah,(enc r).c7=some [enc r.bg,.int .i64 r.kind,.int .i64 r.dW,.int .i64 r.known,enc r.fW,enc (al.of r.text)])∧(∀ r:cN,(enc r).c7=some [enc (al.of r.bD),enc (al.of r.dh)]) ∧
  (∀ r:cz,(enc r).c7=some [enc r.cq,enc r.copy])∧(∀ b:iD,(enc b).c7=some [enc b.l])∧(type_of% @BJ)∧(type_of% @BG)∧(type_of% @BF)∧(type_of% @BI)∧(type_of% @BH) ∧
  (∀ x:Item,bU (some 2) (enc x)=true)∧(∀ x:ah,bU (some 8) (enc x)=true)∧(∀ x:cN,bU (some 2) (enc x)=true)∧(∀ x:cz,bU (some 4) (enc x)=true)∧(∀ x:iD,bU (some 1) (enc x)=true)∧(∀ x:al,bU none (enc x)=true)∧(∀ x:List ah,bU none (enc x)=true) ∧
  (∀ r:ah,r.bg.aO=r.aO)∧(∀ r:ah,r.bg.no=r.no)∧(∀ r:ah,r.fW.aO=r.e9)∧(∀ r:ah,r.fW.no=r.fo) ∧
  (∀ (fs:List I) x,(x::fs)[0]?=some x)∧(∀ (fs:List I) x n,(x::fs)[n+1]?=fs[n]?)∧(∀ (fs:List I) x,(x::fs)[1]?=fs[0]?)∧(∀ (fs:List I) x,(x::fs)[2]?=fs[1]?)∧(∀ (fs:List I) x,(x::fs)[3]?=fs[2]?)∧(∀ (fs:List I) x,(x::fs)[4]?=fs[3]?)∧(∀ (fs:List I) x,(x::fs)[5]?=fs[4]?) :=
 ⟨fun _=>rfl,fun _=>rfl,fun _=>rfl,fun _=>rfl,fun _=>rfl,BJ,BG,BF,BI,BH,fun _=>by rw[ik];rfl,fun _=>by rw[ik];rfl,fun _=>by rw[ik];rfl,fun _=>by rw[ik];rfl,fun _=>by rw[ik];rfl,fun _=>rfl,fun _=>rfl,
  fun _=>rfl,fun _=>rfl,fun _=>rfl,fun _=>rfl,fun _ _=>rfl,fun _ _ _=>rfl,fun _ _=>rfl,fun _ _=>rfl,fun _ _=>rfl,fun _ _=>rfl,fun _ _=>rfl⟩
theorem uz(x y:Item):bT (.aV [.i .i64,.i .i64]) (enc x) (enc y)=some (decide (x=y)):=by
 show bT (.aV [.i .i64,.i .i64]) (.agg [.int .i64 x.aO,.int .i64 x.no]) (.agg [.int .i64 y.aO,.int .i64 y.no])=_
 have:x=y↔x.aO=y.aO∧x.no=y.no:=by cases x;cases y;simp
 simp[bT,gh,ic,this];rfl
theorem zI(x y:al):bT .s (enc x) (enc y)=some (decide (x=y)):=by
 show bT .s (.aj x.b) (.aj y.b)=_
 simp only[bT];exact congrArg some (wH _ _)
theorem zG(x y:ah):bT (.aV [.aV [.i .i64,.i .i64],.i .i64,.i .i64,.i .i64,.aV [.i .i64,.i .i64],.s]) (enc x) (enc y)=some (decide (x=y)):=by
 show bT (.aV [.aV [.i .i64,.i .i64],.i .i64,.i .i64,.i .i64,.aV [.i .i64,.i .i64],.s]) (.agg [enc x.bg,.int .i64 x.kind,.int .i64 x.dW,.int .i64 x.known,enc x.fW,enc (al.of x.text)]) (.agg [enc y.bg,.int .i64 y.kind,.int .i64 y.dW,.int .i64 y.known,enc y.fW,enc (al.of y.text)])=_
 have:x=y↔x.bg=y.bg∧x.kind=y.kind∧x.dW=y.dW∧x.known=y.known∧x.fW=y.fW∧x.text=y.text:=by cases x;cases y;simp[ah.bg,ah.fW,and_assoc]
 rw[bT];simp only[gh,uz,zI,al.sr];simp[bT,ic,this];rfl
theorem uA(x y:cN):bT (.aV [.s,.s]) (enc x) (enc y)=some (decide (x=y)):=by
 show bT (.aV [.s,.s]) (.agg [enc (al.of x.bD),enc (al.of x.dh)]) (.agg [enc (al.of y.bD),enc (al.of y.dh)])=_
 have:x=y↔x.bD=y.bD∧x.dh=y.dh:=by cases x;cases y;simp
 rw[bT];simp only[gh,zI,al.sr];simp[ic,this]
theorem zH(x y:cz):bT (.aV [.aV [.s,.s],.aV [.s,.s]]) (enc x) (enc y)=some (decide (x=y)):=by
 show bT (.aV [.aV [.s,.s],.aV [.s,.s]]) (.agg [enc x.cq,enc x.copy]) (.agg [enc y.cq,enc y.copy])=_
 have:x=y↔x.cq=y.cq∧x.copy=y.copy:=by cases x;cases y;simp
 rw[bT];simp only[gh,uA];simp[ic,this]
theorem B3:(∀ r:ah,(enc r).at [0,0]=some (.int .i64 r.aO))∧(∀ r:ah,(enc r).at [0,1]=some (.int .i64 r.no))∧(∀ r:ah,(enc r).at [4,0]=some (.int .i64 r.e9))∧(∀ r:ah,(enc r).at [4,1]=some (.int .i64 r.fo))∧(∀ zs,fB zs []=some zs) ∧
  (∀ (a b:Nat) (l:List Nat),[a]++(b::l)=a::b::l)∧(∀ (a b c:Nat) (l:List Nat),[a,b]++(c::l)=a::b::c::l) :=
 ⟨fun _=>rfl,fun _=>rfl,fun _=>rfl,fun _=>rfl,fun _=>rfl,fun _ _ _=>rfl,fun _ _ _ _=>rfl⟩
theorem aC:(type_of% @B3)∧(type_of% @EB)∧(∀ {α:Type} [Enc α] (aB:Bool) (A:ab) (x:α),ba aB A (enc x)=some (enc x))∧(∀ {α:Type} [Enc α] (x:α),(enc x).cC=true)∧(type_of% @uz)∧(type_of% @zG)∧(type_of% @uA)∧(type_of% @zH)∧(type_of% @zg)∧(type_of% @iU)∧(type_of% @aZ) :=
 ⟨B3,EB,@iJ,@eZ,uz,zG,uA,zH,zg,iU,aZ⟩
theorem fj{i n:Nat}(h:i<n):decide ((i:Int)<(n:Int))=true:=by simp;omega
theorem fH{i n:Nat}(h:¬ i<n):decide ((i:Int)<(n:Int))=false:=by simp;omega
theorem eP{i:Nat}(h:i<9223372036854775807):IntKind.i64.wrap ((i:Int)+1)=((i+1:Nat):Int):=by rw[ea _ (by omega) (by omega)];rfl
def ee(lo hi n:Int):Bool:=decide (lo≤n)&&decide (n≤hi)
theorem me(n lo hi:Int):aR Tryz.prog 128 [enc n,enc lo,enc hi] (enc (ee lo hi n)):=by
 refine aR.bK Tryz.func128 G1 Ii JE (t8 rfl) (fun hwf W0 bB E1 =>?_);simp only[xV,Ck,bA,Z4,Nat.reduceAdd];have R:=aC
 repeat' ((first |(with_reducible refine .guard (fun hb =>?_) (fun hb =>?_) <;>try simp only[hb])|refine U.aG (by decide +kernel) rfl fun K hK =>?_|(refine .aE [0,1,2,6] hK ?_;clear hK K)|(with_reducible refine .done (hK _ ?_);clear hK K)|refine U.of rfl ?_|(with_reducible refine av.aF (fun h =>?_) (fun h =>?_) <;>try simp only[h])) <;>try simp only[aH,R,simprocAttr])
 all_goals clear R
 all_goals (simp at *;simp_all[ee])
 all_goals omega
theorem mg(n lo hi:Int):aR Tryz.prog 82 [enc n,enc lo,enc hi] (enc (ee lo hi n)):=by
 refine aR.bK Tryz.func82 HP I3 Km (t8 rfl) (fun hwf W0 bB E1 =>?_);simp only[yK,C1,bA,Z4,Nat.reduceAdd];have R:=aC
 repeat' ((first |(with_reducible refine .guard (fun hb =>?_) (fun hb =>?_) <;>try simp only[hb])|refine U.aG (by decide +kernel) rfl fun K hK =>?_|(refine .aE [0,1,2,6] hK ?_;clear hK K)|(with_reducible refine .done (hK _ ?_);clear hK K)|refine U.of rfl ?_|(with_reducible refine av.aF (fun h =>?_) (fun h =>?_) <;>try simp only[h])) <;>try simp only[aH,R,simprocAttr])
 all_goals clear R
 all_goals (simp at *;simp_all[ee])
 all_goals omega
theorem wS(n:Int):aR Tryz.prog 105 [enc n] (enc (ee 0 100000 n)):=by
 refine aR.bK Tryz.func105 GW If JA (t8 rfl) (fun hwf W0 bB E1 =>?_);simp only[xS,Cg,bA];have R:=aC
 repeat' ((first |refine U.aG (by decide +kernel) rfl fun K hK =>?_|refine .flat _ (me n 0 100000) rfl ?_|(refine .aE [0,2] hK ?_;clear hK K)|(with_reducible refine .done (hK _ ?_);clear hK K)|refine U.of rfl ?_|(with_reducible refine av.aF (fun h =>?_) (fun h =>?_) <;>try simp only[h])) <;>try simp only[aH,R,simprocAttr])
 all_goals clear R
theorem xd(n:Int):aR Tryz.prog 79 [enc n] (enc (ee 0 1000002 n)):=by
 refine aR.bK Tryz.func79 HM I0 Kj (t8 rfl) (fun hwf W0 bB E1 =>?_);simp only[yI,CY,bA];have R:=aC
 repeat' ((first |refine U.aG (by decide +kernel) rfl fun K hK =>?_|refine .flat _ (me n 0 1000002) rfl ?_|(refine .aE [0,2] hK ?_;clear hK K)|(with_reducible refine .done (hK _ ?_);clear hK K)|refine U.of rfl ?_|(with_reducible refine av.aF (fun h =>?_) (fun h =>?_) <;>try simp only[h])) <;>try simp only[aH,R,simprocAttr])
 all_goals clear R
def iu(x:Item):Bool:=ee 0 5 x.aO&&ee 0 9999 x.no
theorem wU(x:Item):aR Tryz.prog 129 [enc x] (enc (iu x)):=by
 refine aR.bK Tryz.func129 G2 Ij JF (t8 rfl) (fun hwf W0 bB E1 =>?_);simp only[xW,Cl,bA];cases q:ee 0 5 x.aO
 ·simp only[iu,q,Bool.false_and];have R:=y6 @q aC
  repeat' ((first |(with_reducible refine .guard (fun hb =>?_) (fun hb =>?_) <;>try simp only[hb])|refine U.aG (by decide +kernel) rfl fun K hK =>?_|refine .flat _ (me x.aO 0 5) rfl ?_|refine .flat _ (me x.no 0 9999) rfl ?_|(refine .aE [0,1,2] hK ?_;clear hK K)|(with_reducible refine .done (hK _ ?_);clear hK K)|refine U.of rfl ?_|(with_reducible refine av.aF (fun h =>?_) (fun h =>?_) <;>try simp only[h])) <;>try simp only[aH,R,simprocAttr])
  all_goals clear R
 ·simp only[iu,q,Bool.true_and];have R:=y6 @q aC
  repeat' ((first |(with_reducible refine .guard (fun hb =>?_) (fun hb =>?_) <;>try simp only[hb])|refine U.aG (by decide +kernel) rfl fun K hK =>?_|refine .flat _ (me x.aO 0 5) rfl ?_|refine .flat _ (me x.no 0 9999) rfl ?_|(refine .aE [0,1,2] hK ?_;clear hK K)|(with_reducible refine .done (hK _ ?_);clear hK K)|refine U.of rfl ?_|(with_reducible refine av.aF (fun h =>?_) (fun h =>?_) <;>try simp only[h])) <;>try simp only[aH,R,simprocAttr])
  all_goals clear R
theorem xe(x:Item):aR Tryz.prog 85 [enc x] (enc (iu x)):=by
 refine aR.bK Tryz.func85 HR I5 Ko (t8 rfl) (fun hwf W0 bB E1 =>?_);simp only[c85,C3,bA];cases q:ee 0 5 x.aO
 ·simp only[iu,q,Bool.false_and];have R:=y6 @q aC
  repeat' ((first |(with_reducible refine .guard (fun hb =>?_) (fun hb =>?_) <;>try simp only[hb])|refine U.aG (by decide +kernel) rfl fun K hK =>?_|refine .flat _ (mg x.aO 0 5) rfl ?_|refine .flat _ (mg x.no 0 9999) rfl ?_|(refine .aE [0,1,2] hK ?_;clear hK K)|(with_reducible refine .done (hK _ ?_);clear hK K)|refine U.of rfl ?_|(with_reducible refine av.aF (fun h =>?_) (fun h =>?_) <;>try simp only[h])) <;>try simp only[aH,R,simprocAttr])
  all_goals clear R
 ·simp only[iu,q,Bool.true_and];have R:=y6 @q aC
  repeat' ((first |(with_reducible refine .guard (fun hb =>?_) (fun hb =>?_) <;>try simp only[hb])|refine U.aG (by decide +kernel) rfl fun K hK =>?_|refine .flat _ (mg x.aO 0 5) rfl ?_|refine .flat _ (mg x.no 0 9999) rfl ?_|(refine .aE [0,1,2] hK ?_;clear hK K)|(with_reducible refine .done (hK _ ?_);clear hK K)|refine U.of rfl ?_|(with_reducible refine av.aF (fun h =>?_) (fun h =>?_) <;>try simp only[h])) <;>try simp only[aH,R,simprocAttr])
  all_goals clear R
end Go.Proofs.YtoffnnjbplgnaaaGreatDoor
namespace Go.Proofs.YtoffnnjbplgnaaaGreatDoor
open Go Go.Abs Go.Shelf
open Go.Abs.Enc (enc)
def Vb:Go.Shelf.Ren:=⟨fun | 104=>125 | 211=>153 | 207=>169 | n=>n,fun | 9=>9 | 4=>4 | 24=>42 | 3=>3 | n=>n,fun | n=>n⟩
theorem Va:Go.Proofs.Lays.n104 Tryz.prog Vb := {
 mixed:=by kernel_rfl
 f104:=Tryz.func125.trans (congrArg some (by kernel_rfl))
 f207:=Tryz.func169.trans (congrArg some (by kernel_rfl))
 f211:=Tryz.func153.trans (congrArg some (by kernel_rfl))
 t3:=Tryz.underlying3
 a3:=Tryz.isAgg3
 z3:=Tryz.sizeOf3
 v3:=Tryz.zeroValue3
 t4:=Tryz.underlying4
 a4:=Tryz.isAgg4
 z4:=Tryz.sizeOf4
 v4:=Tryz.zeroValue4
 t9:=Tryz.underlying9
 a9:=Tryz.isAgg9
 z9:=Tryz.sizeOf9
 v9:=Tryz.zeroValue9
 t24:=Tryz.underlying42
 a24:=Tryz.isAgg42
 z24:=Tryz.sizeOf42
 v24:=Tryz.zeroValue42 }
def A8:Go.Shelf.Ren:=⟨fun | 137=>123 | 217=>152 | 266=>168 | n=>n,fun | 9=>9 | 5=>5 | 3=>3 | n=>n,fun | n=>n⟩
theorem A7:Go.Proofs.Lays.n137 Tryz.prog A8 := {
 mixed:=by kernel_rfl
 f137:=Tryz.func123.trans (congrArg some (by kernel_rfl))
 f217:=Tryz.func152.trans (congrArg some (by kernel_rfl))
 f266:=Tryz.func168.trans (congrArg some (by kernel_rfl))
 t3:=Tryz.underlying3
 a3:=Tryz.isAgg3
 z3:=Tryz.sizeOf3
 v3:=Tryz.zeroValue3
 t5:=Tryz.underlying5
 a5:=Tryz.isAgg5
 z5:=Tryz.sizeOf5
 v5:=Tryz.zeroValue5
 t9:=Tryz.underlying9
 a9:=Tryz.isAgg9
 z9:=Tryz.sizeOf9
 v9:=Tryz.zeroValue9 }
def U6:Go.Shelf.Ren:=⟨fun | 172=>155 | 244=>171 | 245=>172 | 247=>189 | 279=>190 | 280=>191 | 281=>192 | 282=>193 | 287=>207 | 316=>127 | 171=>132 | 205=>208 | 321=>215 | 322=>216 | 243=>158 | 246=>174 | 283=>195 | 284=>196 | 285=>197 | 286=>198 | 129=>185 | 317=>209 | 318=>210 | 319=>211 | 320=>212 | 337=>217 | 338=>218 | n=>n,fun | 9=>9 | 3=>3 | 75=>199 | 76=>200 | 4=>4 | 5=>5 | 167=>231 | 37=>45 | 0=>0 | 85=>232 | 2=>2 | 168=>234 | 53=>227 | 175=>250 | 46=>208 | 210=>253 | 127=>202 | 145=>266 | 143=>264 | 21=>21 | 171=>239 | 173=>241 | 212=>256 | 51=>225 | 20=>20 | 213=>257 | 232=>267 | 233=>268 | 80=>206 | n=>n,fun | 15=>1 | 16=>2 | 17=>3 | 18=>4 | 19=>5 | n=>n⟩
theorem U5:Go.Proofs.LaysC.n172 Tryz.prog U6 := {
 mixed:=by kernel_rfl
 f129:=Tryz.func185.trans (congrArg some (by kernel_rfl))
 f171:=Tryz.func132.trans (congrArg some (by kernel_rfl))
 f172:=Tryz.func155.trans (congrArg some (by kernel_rfl))
 f205:=Tryz.func208.trans (congrArg some (by kernel_rfl))
 f243:=Tryz.func158.trans (congrArg some (by kernel_rfl))
 f244:=Tryz.func171.trans (congrArg some (by kernel_rfl))
 f245:=Tryz.func172.trans (congrArg some (by kernel_rfl))
 f246:=Tryz.func174.trans (congrArg some (by kernel_rfl))
 f247:=Tryz.func189.trans (congrArg some (by kernel_rfl))
 f279:=Tryz.func190.trans (congrArg some (by kernel_rfl))
 f280:=Tryz.func191.trans (congrArg some (by kernel_rfl))
 f281:=Tryz.func192.trans (congrArg some (by kernel_rfl))
 f282:=Tryz.func193.trans (congrArg some (by kernel_rfl))
 f283:=Tryz.func195.trans (congrArg some (by kernel_rfl))
 f284:=Tryz.func196.trans (congrArg some (by kernel_rfl))
 f285:=Tryz.func197.trans (congrArg some (by kernel_rfl))
 f286:=Tryz.func198.trans (congrArg some (by kernel_rfl))
 f287:=Tryz.func207.trans (congrArg some (by kernel_rfl))
 f316:=Tryz.func127.trans (congrArg some (by kernel_rfl))
 f317:=Tryz.func209.trans (congrArg some (by kernel_rfl))
 f318:=Tryz.func210.trans (congrArg some (by kernel_rfl))
 f319:=Tryz.func211.trans (congrArg some (by kernel_rfl))
 f320:=Tryz.func212.trans (congrArg some (by kernel_rfl))
 f321:=Tryz.func215.trans (congrArg some (by kernel_rfl))
 f322:=Tryz.func216.trans (congrArg some (by kernel_rfl))
 f337:=Tryz.func217.trans (congrArg some (by kernel_rfl))
 f338:=Tryz.func218.trans (congrArg some (by kernel_rfl))
 t0:=Tryz.underlying0
 a0:=Tryz.isAgg0
 z0:=Tryz.sizeOf0
 v0:=Tryz.zeroValue0
 t2:=Tryz.underlying2
 a2:=Tryz.isAgg2
 z2:=Tryz.sizeOf2
 v2:=Tryz.zeroValue2
 t3:=Tryz.underlying3
 a3:=Tryz.isAgg3
 z3:=Tryz.sizeOf3
 v3:=Tryz.zeroValue3
 t4:=Tryz.underlying4
 a4:=Tryz.isAgg4
 z4:=Tryz.sizeOf4
 v4:=Tryz.zeroValue4
 t5:=Tryz.underlying5
 a5:=Tryz.isAgg5
 z5:=Tryz.sizeOf5
 v5:=Tryz.zeroValue5
 t9:=Tryz.underlying9
 a9:=Tryz.isAgg9
 z9:=Tryz.sizeOf9
 v9:=Tryz.zeroValue9
 t20:=Tryz.underlying20
 a20:=Tryz.isAgg20
 z20:=Tryz.sizeOf20
 v20:=Tryz.zeroValue20
 t21:=Tryz.underlying21
 a21:=Tryz.isAgg21
 z21:=Tryz.sizeOf21
 v21:=Tryz.zeroValue21
 t37:=Tryz.underlying45
 a37:=Tryz.isAgg45
 z37:=Tryz.sizeOf45
 v37:=Tryz.zeroValue45
 t46:=Tryz.underlying208
 a46:=Tryz.isAgg208
 z46:=Tryz.sizeOf208
 v46:=Tryz.zeroValue208
 t51:=Tryz.underlying225
 a51:=Tryz.isAgg225
 z51:=Tryz.sizeOf225
 v51:=Tryz.zeroValue225
 t53:=Tryz.underlying227
 a53:=Tryz.isAgg227
 z53:=Tryz.sizeOf227
 v53:=Tryz.zeroValue227
 t75:=Tryz.underlying199
 a75:=Tryz.isAgg199
 z75:=Tryz.sizeOf199
 v75:=Tryz.zeroValue199
 t76:=Tryz.underlying200
 a76:=Tryz.isAgg200
 z76:=Tryz.sizeOf200
 v76:=Tryz.zeroValue200
 t85:=Tryz.underlying232
 a85:=Tryz.isAgg232
 z85:=Tryz.sizeOf232
 v85:=Tryz.zeroValue232
 t127:=Tryz.underlying202
 a127:=Tryz.isAgg202
 z127:=Tryz.sizeOf202
 v127:=Tryz.zeroValue202
 t143:=Tryz.underlying264
 a143:=Tryz.isAgg264
 z143:=Tryz.sizeOf264
 v143:=Tryz.zeroValue264
 t145:=Tryz.underlying266
 a145:=Tryz.isAgg266
 z145:=Tryz.sizeOf266
 v145:=Tryz.zeroValue266
 t167:=Tryz.underlying231
 a167:=Tryz.isAgg231
 z167:=Tryz.sizeOf231
 v167:=Tryz.zeroValue231
 t168:=Tryz.underlying234
 a168:=Tryz.isAgg234
 z168:=Tryz.sizeOf234
 v168:=Tryz.zeroValue234
 t171:=Tryz.underlying239
 a171:=Tryz.isAgg239
 z171:=Tryz.sizeOf239
 v171:=Tryz.zeroValue239
 t173:=Tryz.underlying241
 a173:=Tryz.isAgg241
 z173:=Tryz.sizeOf241
 v173:=Tryz.zeroValue241
 t175:=Tryz.underlying250
 a175:=Tryz.isAgg250
 z175:=Tryz.sizeOf250
 v175:=Tryz.zeroValue250
 t210:=Tryz.underlying253
 a210:=Tryz.isAgg253
 z210:=Tryz.sizeOf253
 v210:=Tryz.zeroValue253
 t212:=Tryz.underlying256
 a212:=Tryz.isAgg256
 z212:=Tryz.sizeOf256
 v212:=Tryz.zeroValue256
 t213:=Tryz.underlying257
 a213:=Tryz.isAgg257
 z213:=Tryz.sizeOf257
 t232:=Tryz.underlying267
 a232:=Tryz.isAgg267
 z232:=Tryz.sizeOf267
 v232:=Tryz.zeroValue267
 t233:=Tryz.underlying268
 a233:=Tryz.isAgg268
 z233:=Tryz.sizeOf268
 v233:=Tryz.zeroValue268
 g15:=by kernel_rfl
 g16:=by kernel_rfl
 g17:=by kernel_rfl
 g18:=by kernel_rfl
 g19:=by kernel_rfl
 t80:=Tryz.underlying206
 a80:=Tryz.isAgg206
 z80:=Tryz.sizeOf206
 v80:=Tryz.zeroValue206
 i0:=by kernel_rfl
 i2:=by kernel_rfl
 i3:=by kernel_rfl
 i4:=by kernel_rfl
 i5:=by kernel_rfl
 i9:=by kernel_rfl
 i20:=by kernel_rfl
 i21:=by kernel_rfl
 i37:=by kernel_rfl
 i46:=by kernel_rfl
 i51:=by kernel_rfl
 i53:=by kernel_rfl
 i75:=by kernel_rfl
 i76:=by kernel_rfl
 i80:=by kernel_rfl
 i85:=by kernel_rfl
 i127:=by kernel_rfl
 i143:=by kernel_rfl
 i145:=by kernel_rfl
 i167:=by kernel_rfl
 i168:=by kernel_rfl
 i171:=by kernel_rfl
 i173:=by kernel_rfl
 i175:=by kernel_rfl
 i210:=by kernel_rfl
 i212:=by kernel_rfl
 i232:=by kernel_rfl
 i233:=by kernel_rfl
 m15:=by kernel_rfl
 m16:=by kernel_rfl
 m17:=by kernel_rfl
 m18:=by kernel_rfl
 m19:=by kernel_rfl
 c0:=by kernel_rfl
 c2:=by kernel_rfl
 c3:=by kernel_rfl
 c4:=by kernel_rfl
 c5:=by kernel_rfl
 c9:=by kernel_rfl
 c20:=by kernel_rfl
 c21:=by kernel_rfl
 c37:=by kernel_rfl
 c46:=by kernel_rfl
 c51:=by kernel_rfl
 c53:=by kernel_rfl
 c75:=by kernel_rfl
 c76:=by kernel_rfl
 c80:=by kernel_rfl
 c85:=by kernel_rfl
 c127:=by kernel_rfl
 c143:=by kernel_rfl
 c145:=by kernel_rfl
 c167:=by kernel_rfl
 c168:=by kernel_rfl
 c171:=by kernel_rfl
 c173:=by kernel_rfl
 c175:=by kernel_rfl
 c210:=by kernel_rfl
 c212:=by kernel_rfl
 c213:=by kernel_rfl
 c232:=by kernel_rfl
 c233:=by kernel_rfl }
def U7:Go.Shelf.Ren:=⟨fun | 171=>132 | 243=>158 | 246=>174 | 283=>195 | 284=>196 | 285=>197 | 286=>198 | 129=>185 | 317=>209 | 318=>210 | 319=>211 | 320=>212 | 337=>217 | 338=>218 | n=>n,fun | 3=>3 | 9=>9 | 2=>2 | 4=>4 | 171=>239 | 0=>0 | 53=>227 | 37=>45 | 5=>5 | 173=>241 | 212=>256 | 51=>225 | 20=>20 | 213=>257 | 46=>208 | 232=>267 | 233=>268 | n=>n,fun | 17=>3 | 18=>4 | 19=>5 | n=>n⟩
theorem A6:Go.Proofs.LaysM.n171 Tryz.prog U7 := {
 mixed:=by kernel_rfl
 f129:=Tryz.func185.trans (congrArg some (by kernel_rfl))
 f171:=Tryz.func132.trans (congrArg some (by kernel_rfl))
 f243:=Tryz.func158.trans (congrArg some (by kernel_rfl))
 f246:=Tryz.func174.trans (congrArg some (by kernel_rfl))
 f283:=Tryz.func195.trans (congrArg some (by kernel_rfl))
 f284:=Tryz.func196.trans (congrArg some (by kernel_rfl))
 f285:=Tryz.func197.trans (congrArg some (by kernel_rfl))
 f286:=Tryz.func198.trans (congrArg some (by kernel_rfl))
 f317:=Tryz.func209.trans (congrArg some (by kernel_rfl))
 f318:=Tryz.func210.trans (congrArg some (by kernel_rfl))
 f319:=Tryz.func211.trans (congrArg some (by kernel_rfl))
 f320:=Tryz.func212.trans (congrArg some (by kernel_rfl))
 f337:=Tryz.func217.trans (congrArg some (by kernel_rfl))
 f338:=Tryz.func218.trans (congrArg some (by kernel_rfl))
 t0:=Tryz.underlying0
 a0:=Tryz.isAgg0
 z0:=Tryz.sizeOf0
 v0:=Tryz.zeroValue0
 t2:=Tryz.underlying2
 a2:=Tryz.isAgg2
 z2:=Tryz.sizeOf2
 v2:=Tryz.zeroValue2
 t3:=Tryz.underlying3
 a3:=Tryz.isAgg3
 z3:=Tryz.sizeOf3
 v3:=Tryz.zeroValue3
 t4:=Tryz.underlying4
 a4:=Tryz.isAgg4
 z4:=Tryz.sizeOf4
 v4:=Tryz.zeroValue4
 t5:=Tryz.underlying5
 a5:=Tryz.isAgg5
 z5:=Tryz.sizeOf5
 v5:=Tryz.zeroValue5
 t9:=Tryz.underlying9
 a9:=Tryz.isAgg9
 z9:=Tryz.sizeOf9
 v9:=Tryz.zeroValue9
 t20:=Tryz.underlying20
 a20:=Tryz.isAgg20
 z20:=Tryz.sizeOf20
 v20:=Tryz.zeroValue20
 t37:=Tryz.underlying45
 a37:=Tryz.isAgg45
 z37:=Tryz.sizeOf45
 v37:=Tryz.zeroValue45
 t46:=Tryz.underlying208
 a46:=Tryz.isAgg208
 z46:=Tryz.sizeOf208
 v46:=Tryz.zeroValue208
 t51:=Tryz.underlying225
 a51:=Tryz.isAgg225
 z51:=Tryz.sizeOf225
 v51:=Tryz.zeroValue225
 t53:=Tryz.underlying227
 a53:=Tryz.isAgg227
 z53:=Tryz.sizeOf227
 v53:=Tryz.zeroValue227
 t171:=Tryz.underlying239
 a171:=Tryz.isAgg239
 z171:=Tryz.sizeOf239
 v171:=Tryz.zeroValue239
 t173:=Tryz.underlying241
 a173:=Tryz.isAgg241
 z173:=Tryz.sizeOf241
 v173:=Tryz.zeroValue241
 t212:=Tryz.underlying256
 a212:=Tryz.isAgg256
 z212:=Tryz.sizeOf256
 v212:=Tryz.zeroValue256
 t213:=Tryz.underlying257
 a213:=Tryz.isAgg257
 z213:=Tryz.sizeOf257
 t232:=Tryz.underlying267
 a232:=Tryz.isAgg267
 z232:=Tryz.sizeOf267
 v232:=Tryz.zeroValue267
 t233:=Tryz.underlying268
 a233:=Tryz.isAgg268
 z233:=Tryz.sizeOf268
 v233:=Tryz.zeroValue268
 g17:=by kernel_rfl
 g18:=by kernel_rfl
 g19:=by kernel_rfl
 i0:=by kernel_rfl
 i2:=by kernel_rfl
 i3:=by kernel_rfl
 i4:=by kernel_rfl
 i5:=by kernel_rfl
 i9:=by kernel_rfl
 i20:=by kernel_rfl
 i37:=by kernel_rfl
 i46:=by kernel_rfl
 i51:=by kernel_rfl
 i53:=by kernel_rfl
 i171:=by kernel_rfl
 i173:=by kernel_rfl
 i212:=by kernel_rfl
 i232:=by kernel_rfl
 i233:=by kernel_rfl
 m17:=by kernel_rfl
 m18:=by kernel_rfl
 m19:=by kernel_rfl }
def U9:Go.Shelf.Ren:=⟨fun | 316=>127 | n=>n,fun | 9=>9 | 3=>3 | 4=>4 | 37=>45 | 0=>0 | 127=>202 | 5=>5 | n=>n,fun | n=>n⟩
theorem U8:Go.Proofs.LaysM.n316 Tryz.prog U9 := {
 mixed:=by kernel_rfl
 f316:=Tryz.func127.trans (congrArg some (by kernel_rfl))
 t0:=Tryz.underlying0
 a0:=Tryz.isAgg0
 z0:=Tryz.sizeOf0
 v0:=Tryz.zeroValue0
 t3:=Tryz.underlying3
 a3:=Tryz.isAgg3
 z3:=Tryz.sizeOf3
 v3:=Tryz.zeroValue3
 t4:=Tryz.underlying4
 a4:=Tryz.isAgg4
 z4:=Tryz.sizeOf4
 v4:=Tryz.zeroValue4
 t9:=Tryz.underlying9
 a9:=Tryz.isAgg9
 z9:=Tryz.sizeOf9
 v9:=Tryz.zeroValue9
 t37:=Tryz.underlying45
 a37:=Tryz.isAgg45
 z37:=Tryz.sizeOf45
 v37:=Tryz.zeroValue45
 t127:=Tryz.underlying202
 a127:=Tryz.isAgg202
 z127:=Tryz.sizeOf202
 v127:=Tryz.zeroValue202
 t5:=Tryz.underlying5
 a5:=Tryz.isAgg5
 z5:=Tryz.sizeOf5
 v5:=Tryz.zeroValue5
 i0:=by kernel_rfl
 i3:=by kernel_rfl
 i4:=by kernel_rfl
 i5:=by kernel_rfl
 i9:=by kernel_rfl
 i37:=by kernel_rfl
 i127:=by kernel_rfl }
theorem ER(s p:al):aR Tryz.prog 125 [enc s,enc p] (.tuple [enc (al.of (Lib.trimSuffix s.l p.l)),enc (Lib.hasSuffix s.l p.l)]):=KC Va GZ s p
theorem EP(s:al)(c:UInt8):aR Tryz.prog 123 [enc s,.int .u8 c.toNat] (enc (Lib.indexByte s.l c)):=KD A7 GY s c
theorem tv(s:al)(hs:s.l.length≤281474976710656):aR Tryz.prog 155 [enc s] (gx 234 s.l):=KA U5 Hj (by kernel_rfl) (by kernel_rfl) rfl s hs
theorem EW(n:Int):aR Tryz.prog 132 [enc n] (enc (vb n)):=KE A6 G5 (g:=3) (by kernel_rfl) n
theorem ET(s:al)(hs:s.l.length≤281474976710656):aR Tryz.prog 127 [enc s] (enc s):=KB U8 G0 s hs
theorem U4:Go.Proofs.Lays.n217 Tryz.prog A8 := { A7 with }
theorem UG(l:List UInt8)(c:UInt8):-1≤Lib.indexByte l c∧Lib.indexByte l c≤l.length:=by
 refine ⟨Lib.indexByte_ge l c,?_⟩
 induction l with
 |nil=>simp[Lib.indexByte]
 |cons b l ih =>
  unfold Lib.indexByte
  (repeat' split) <;>simp only[zy1] <;>omega
theorem E9(s:al)(c:UInt8):aR Tryz.prog 152 [enc s,.int .u8 c.toNat] (enc (Lib.indexByte s.l c)):=by
 refine ⟨Hh,fun w D vs hl hD hv =>?_⟩;obtain ⟨rest,rfl,hsz,hv2⟩:=wG hv;simp only[ak] at hv2;obtain ⟨v,rest2,cs,rfl,h1,h2,rfl⟩:=hv2;obtain ⟨rfl,_⟩:=dc (fm h1 h2);have key:=Any.stringslite_IndexByte U4 s.b (c.toNat:Int) w;have hcc:((c.toNat:Int)).toNat.toUInt8=c:=by simp
 rw[hcc] at key;refine Calls.mono key ?_;rintro e w' ⟨rfl,rfl⟩;refine ⟨_,D,rfl,⟨[_],by simp[aY,I.isAgg,enc];rfl,?_⟩,Go.RowKit.Below.refl _ w',hD,fun _ _ h _=>h⟩
 show ae _ _ _ (.int .i64 (Lib.indexByte s.l c)) _
 simp only[ae];refine ⟨rfl,?_⟩;have g:=UG s.l c;rw[al.size] at hsz;have hmin:IntKind.i64.min=-9223372036854775808:=by decide
 have hmax:IntKind.i64.max=9223372036854775807:=by decide
 unfold maxLen at hsz;rw[hmin,hmax];omega
theorem Ff(s:al)(c:UInt8):aR Tryz.prog 188 [enc s,enc (al.of [c])] (enc (Lib.indexByte s.l c)):=by
 refine aR.bK Tryz.func188 Hq IE JY (t8 rfl) (fun hwf W0 bB E1 =>?_);simp only[yn,CE,bA,Z4];have hsi:=DS (al.of [c]) (i:=0) (by rw[al.dn];exact Nat.zero_lt_one);have hl1:lR (enc (al.of [c]))=some (.int .i64 1):=by rw[qf];rfl
 have hsi':ef .dN [enc (al.of [c]),.int .i64 0]=some (.int .u8 (c.toNat:Int)):=hsi;cases q:decide (al.of [c]=s)
 ·have R:=y6 @hsi' (y6 @hl1 (y6 @q (y6 @bm aC)))
  repeat' ((first |(with_reducible refine .guard (fun hb =>?_) (fun hb =>?_) <;>try simp only[hb])|refine U.aG (by decide +kernel) rfl fun K hK =>?_|refine .flat _ (E9 s c) rfl ?_|(refine .aE [0,1,4,5,6,7,8,9,10,11,12,13,16,24,31,36,59,64,73,93,107,114,132,139] hK ?_;clear hK K)|(with_reducible refine .done (hK _ ?_);clear hK K)|refine U.of rfl ?_|(with_reducible refine av.aF (fun h =>?_) (fun h =>?_) <;>try simp only[h])) <;>try simp only[aH,R,simprocAttr])
  all_goals clear R
 ·have e:=of_decide_eq_true q;subst e;have R:=y6 @hl1 (y6 @bm aC)
  repeat' ((first |(with_reducible refine .guard (fun hb =>?_) (fun hb =>?_) <;>try simp only[hb])|refine U.aG (by decide +kernel) rfl fun K hK =>?_|(refine .aE [0,1,4,5,6,7,8,9,10,11,12,13,16,24,31,36,59,64,73,93,107,114,132,139] hK ?_;clear hK K)|(with_reducible refine .done (hK _ ?_);clear hK K)|refine U.of rfl ?_|(with_reducible refine av.aF (fun h =>?_) (fun h =>?_) <;>try simp only[h])) <;>try simp only[aH,R,eq_self,decide_true,simprocAttr])
  all_goals clear R
  show I.int .i64 0=I.int .i64 (Lib.indexByte [c] c)
  simp[Lib.indexByte]
def dw(c:UInt8):List UInt8→Option (List UInt8×List UInt8)
 | []=>none
 |b::l=>if b=c then some ([],l) else (dw c l).map fun p=>(b::p.1,p.2)
def jw(c:UInt8)(l:List UInt8):List UInt8×List UInt8×Bool:=match dw c l with
 |some p=>(p.1,p.2,true)
 |none=>(l,[],false)
theorem qY(c:UInt8):∀ l:List UInt8,(dw c l=none∧Lib.indexByte l c=-1)∨∃ i:Nat,i<l.length∧Lib.indexByte l c=i∧dw c l=some (l.take i,l.drop (i+1))
 | []=>.inl ⟨rfl,rfl⟩
 |b::l=>by
  by_cases h:b=c
  ·refine .inr ⟨0,by simp,by simp[Lib.indexByte,h],by simp[dw,h]⟩
  ·rcases qY c l with ⟨h1,h2⟩ | ⟨i,h0,h1,h2⟩
   ·refine .inl ⟨by simp[dw,h,h1],by simp[Lib.indexByte,h,h2]⟩
   ·refine .inr ⟨i+1,by simpa using h0,?_,by simp[dw,h,h2]⟩;simp only[Lib.indexByte,h1];simp[h]
    try omega
theorem Fe(s:al)(c:UInt8):aR Tryz.prog 170 [enc s,enc (al.of [c])] (.tuple [enc (al.of (jw c s.l).1),enc (al.of (jw c s.l).2.1),enc (jw c s.l).2.2]):=by
 refine aR.wf y7 fun hwf0 =>?_;have hlen:s.l.length≤maxLen:=by
  have:=hwf0.1;rw[←al.size];exact this
 simp only[maxLen] at hlen;refine aR.bK Tryz.func170 y7 IB JV (t8 rfl) (fun hwf W0 bB E1 =>?_);simp only[yl,CB,bA,Z4];clear hwf;have hF:=Ff s c;have hl1:lR (enc (al.of [c]))=some (.int .i64 1):=by rw[qf];rfl
 rcases qY c s.l with ⟨h1,h2⟩ | ⟨i,h0,h1,h2⟩
 ·rw[h2] at hF;simp only[jw,h1];have R:=y6 @hl1 (y6 @bm aC)
  repeat' ((first |refine U.aG (by decide +kernel) rfl fun K hK =>?_|refine .flat _ (hF) rfl ?_|(refine .aE [0,1,4,5,6,7,12] hK ?_;clear hK K)|(with_reducible refine .done (hK _ ?_);clear hK K)|refine U.of rfl ?_|(with_reducible refine av.aF (fun h =>?_) (fun h =>?_) <;>try simp only[h])) <;>try simp only[aH,R,decide_false,simprocAttr])
  all_goals clear R
  rw[al.vz];rfl
 ·rw[h1] at hF;simp only[jw,h2];have g1:=qg s (j:=i) (by omega);have g2:=sY s (i:=i+1) (by omega);have hw:=eP (i:=i) (by omega);have hd:decide ((i:Int)≥0)=true:=decide_eq_true (by omega);have R:=y6 @hd (y6 @hl1 (y6 @hw (y6 @g1 (y6 @g2 (y6 @bm aC)))))
  repeat' ((first |refine U.aG (by decide +kernel) rfl fun K hK =>?_|refine .flat _ (hF) rfl ?_|(refine .aE [0,1,4,5,6,7,12] hK ?_;clear hK K)|(with_reducible refine .done (hK _ ?_);clear hK K)|refine U.of rfl ?_|(with_reducible refine av.aF (fun h =>?_) (fun h =>?_) <;>try simp only[h])) <;>try simp only[aH,R,decide_true,simprocAttr])
  all_goals clear R
  trace_state
  all_goals rfl
theorem wZ(s:al)(c:UInt8):aR Tryz.prog 154 [enc s,enc (al.of [c])] (.tuple [enc (al.of (jw c s.l).1),enc (al.of (jw c s.l).2.1),enc (jw c s.l).2.2]):=by
 refine aR.bK Tryz.func154 Hi Iv JQ (t8 rfl) (fun hwf W0 bB E1 =>?_);simp only[yg,Cw,bA,Z4];have R:=y6 @bm aC
 repeat' ((first |refine U.aG (by decide +kernel) rfl fun K hK =>?_|refine .flat _ (Fe s c) rfl ?_|(refine .aE [0,1,4,5,6] hK ?_;clear hK K)|(with_reducible refine .done (hK _ ?_);clear hK K)|refine U.of rfl ?_|(with_reducible refine av.aF (fun h =>?_) (fun h =>?_) <;>try simp only[h])) <;>try simp only[aH,R,simprocAttr])
 all_goals clear R
 all_goals rfl
theorem Fs(s:al)(hs:s.l.length≤281474976710656):aR Tryz.prog 74 [enc s] (enc s):=by
 refine aR.bK Tryz.func74 HK IY Kh (t8 rfl) (fun hwf W0 bB E1 =>?_);simp only[yH,CW,bA];have R:=y6 @bm aC
 repeat' ((first |refine U.aG (by decide +kernel) rfl fun K hK =>?_|refine .flat _ (ET s hs) rfl ?_|(refine .aE [0,2] hK ?_;clear hK K)|(with_reducible refine .done (hK _ ?_);clear hK K)|refine U.of rfl ?_|(with_reducible refine av.aF (fun h =>?_) (fun h =>?_) <;>try simp only[h])) <;>try simp only[aH,R,simprocAttr])
 all_goals clear R
 all_goals rfl
end Go.Proofs.YtoffnnjbplgnaaaGreatDoor
namespace Go.Proofs.YtoffnnjbplgnaaaGreatDoor
open Go Go.Abs
open Go.Abs.Enc (enc)
def dA(l:List Int):List UInt8:=l.flatMap fun n=>Lib.itoa n++[32]
def iS(f:List UInt8→Option Int):Nat→List UInt8→Option (List Int×List UInt8)
 |0,s=>some ([],s)
 |k+1,s=>match dw 32 s with
  |none=>none
  |some (w,t)=>match f w with
   |none=>none
   |some n=>(iS f k t).map fun p=>(n::p.1,p.2)
def gl(w:List UInt8):Option Int:=match Lib.atoiAll w with
 | .ok n=>some n
 |_=>none
def eD(r:ah):List Int:=[r.aO,r.no,r.kind,r.dW,r.known,r.e9,r.fo]
def jk(n:List Int)(t:List UInt8):ah:=⟨n.getD 1 0,n.getD 2 0,n.getD 3 0,n.getD 4 0,n.getD 5 0,n.getD 6 0,n.getD 7 0,t⟩
def da(r:ah):List UInt8:=dA (eD r)++r.text
def du(s:Int)(l:List UInt8):Int:=l.foldl (fun s c=>(257*s+c.toNat+1)%1000003) s
theorem oB{s:Int}(h:0≤s∧s<1000003):∀ l,0≤du s l∧du s l<1000003:=by
 intro l
 induction l generalizing s with
 |nil=>exact h
 |cons c l ih =>
  rw[du,List.foldl_cons];exact ih (by omega)
def dy(s:Int)(r:ah):List UInt8:=dA [du s (da r)]++da r++[10]
section
variable (ok:ah→Bool)
def nL(s:Int)(t:List UInt8)(r:ah):Option (ah×Int):=if ok r=true∧dy s r=t then some (r,du s (da r)) else none
def dY(s:Int)(t:List UInt8):Option (ah×Int):=if t.getLast?=some 10 then
  (iS gl 8 t.dropLast).bind fun p=>(nL ok s t (jk p.1 p.2)).bind fun q=>if p.1.headD 0=q.2 then some q else none
 else none
theorem LJ{s:Int}{t:List UInt8}{r:ah}{q:ah×Int}(h:nL ok s t r=some q):ok q.1=true∧dy s q.1=t∧q.2=du s (da q.1):=by
 rw[nL] at h;by_cases c:ok r=true∧dy s r=t
 ·rw[if_pos c] at h;cases h;exact ⟨c.1,c.2,rfl⟩
 ·rw[if_neg c] at h;cases h
theorem Xk{s:Int}{t:List UInt8}{q:ah×Int}(h:dY ok s t=some q):ok q.1=true∧dy s q.1=t∧q.2=du s (da q.1):=by
 rw[dY] at h;by_cases c:t.getLast?=some 10
 ·rw[if_pos c] at h;cases hp:iS gl 8 t.dropLast with
  |none=>rw[hp] at h;cases h
  |some p =>
   rw[hp,Option.bind_some] at h;cases he:nL ok s t (jk p.1 p.2) with
   |none=>rw[he] at h;cases h
   |some q' =>
    rw[he,Option.bind_some] at h;by_cases k:p.1.headD 0=q'.2
    ·rw[if_pos k] at h;cases h;exact LJ ok he
    ·rw[if_neg k] at h;cases h
 ·rw[if_neg c] at h;cases h
end
def ju:List PanicEntry:=[{ v:=.iface 176 (.agg #[]),recovered:=false }]
theorem mL{Q:Exit→ab→Prop}{x:ay}{A:ab}(h:af A x=.iface 176 (.agg []))(hq:Q (.panic ju) A):lG Tryz.prog Q (.prim .kj [x]) A:=.kj h hq
theorem jG:(∀ T:TypeId,ef (.lT T) [.agg []]=some (.iface T (.agg [])))∧fB [] []=some []:=⟨fun _=>rfl,rfl⟩
theorem vI{A:ab} : vJ ju (fun os'=>os'=[]) (.panic ju) A:=⟨rfl,[],[],u3,trivial,rfl,rfl⟩
theorem mu:(I.aj ⟨#[32]⟩)=enc (al.of [32]):=rfl
theorem pd:(I.aj ⟨#[10]⟩)=enc (al.of [10]):=rfl
theorem BP{w:List UInt8}{n:Int}(h:gl w=some n):gx 234 w=.tuple [enc n,.cL]:=by
 unfold gl at h;split at h
 ·rename_i m hm;cases h;simp only[gx,hm]
 ·cases h
theorem BO{w:List UInt8}(h:gl w=none):∃ n:Int,gx 234 w=.tuple [enc n,.iface 234 .any]:=by
 unfold gl at h;split at h
 ·cases h
 ·rename_i hm;cases hr:Lib.atoiAll w with
  |ok n=>exact absurd hr (hm n)
  |range=>exact ⟨_,by simp only[gx,hr];rfl⟩
  | _ =>exact ⟨0,by simp only[gx,hr]⟩
theorem re{c:UInt8}{l:List UInt8}{p:List UInt8×List UInt8}(h:dw c l=some p):p.1.length+p.2.length<l.length:=by
 rcases qY c l with ⟨h1,_⟩ | ⟨i,h0,_,h2⟩
 ·rw[h1] at h;cases h
 ·rw[h2] at h;cases h;simp only[Y0,List.length_drop];omega
theorem wT(s:al)(hlen:s.l.length≤281474976710656)(w t:List UInt8)(n:Int)(h1:dw 32 s.l=some (w,t))(h2:gl w=some n):aR Tryz.prog 126 [enc s] (.tuple [enc n,enc (al.of t)]):=by
 refine aR.bK Tryz.func126 y5 zd JD (t8 rfl) (fun hwf W0 bB E1 =>?_);simp only[tX,Cj,bA];clear hwf;have hc:=wZ s 32;simp only[jw,h1] at hc;have hl:=re h1;simp only at hl;have ha:=tv (al.of w) (by rw[al.dn];omega);rw[al.dn,BP h2] at ha;have R:=y6 @mu (y6 @bm aC)
 repeat' ((first |(with_reducible refine .guard (fun hb =>?_) (fun hb =>?_) <;>try simp only[hb])|refine U.aG (by decide +kernel) rfl fun K hK =>?_|refine .flat _ (hc) rfl ?_|refine .lead _ (ha) ?_|(refine .aE [0,2,3,4,5,6,7,8,25] hK ?_;clear hK K)|(with_reducible refine .done (hK _ ?_);clear hK K)|refine U.of rfl ?_|(with_reducible refine av.aF (fun h =>?_) (fun h =>?_) <;>try simp only[h])) <;>try simp only[aH,R,simprocAttr])
 all_goals clear R
 all_goals rfl
theorem ES(s:al)(hlen:s.l.length≤281474976710656)(h:∀ w t,dw 32 s.l=some (w,t)→gl w=none):oI Tryz.prog 126 ju [enc s] [] (fun os'=>os'=[]):=by
 refine oI.mk Tryz.func126 y5 zd (t8 rfl) (t8 rfl) (fun m hm=>by simp[aI,aD] at hm) (fun hwf W0 bB E1 =>?_);simp only[tX,bA];clear hwf;have hc:=wZ s 32;cases h1:dw 32 s.l with
 |none =>
  simp only[jw,h1] at hc;have ha:=tv (al.of s.l) (by rw[al.dn];omega);rw[al.dn] at ha;cases ho:gl s.l with
  |some n =>
   rw[BP ho] at ha;have R:=y6 @mu (y6 @jG (y6 @bm aC))
   repeat' ((first |(with_reducible refine .guard (fun hb =>?_) (fun hb =>?_) <;>try simp only[hb])|(refine U.lp (gs:=rA) (gs1:=[_,_]) rfl fun K hK =>?_)|refine U.aG (by decide +kernel) rfl fun K hK =>?_|refine .flat _ (hc) rfl ?_|refine .lead _ (ha) ?_|(refine .aE [0,2,3,4,5,6,7,8,25] hK ?_;clear hK K)|(with_reducible refine .done (hK _ ?_);clear hK K)|refine U.of rfl ?_|(with_reducible refine av.aF (fun h =>?_) (fun h =>?_) <;>try simp only[h])) <;>try simp only[aH,R,simprocAttr])
   all_goals clear R
   refine mL ?_ vI;rfl
  |none =>
   obtain ⟨n,hn⟩:=BO ho;rw[hn] at ha;have R:=y6 @mu (y6 @jG (y6 @bm aC))
   repeat' ((first |(with_reducible refine .guard (fun hb =>?_) (fun hb =>?_) <;>try simp only[hb])|(refine U.lp (gs:=rA) (gs1:=[_,_]) rfl fun K hK =>?_)|refine U.aG (by decide +kernel) rfl fun K hK =>?_|refine .flat _ (hc) rfl ?_|refine .lead _ (ha) ?_|(refine .aE [0,2,3,4,5,6,7,8,25] hK ?_;clear hK K)|(with_reducible refine .done (hK _ ?_);clear hK K)|refine U.of rfl ?_|(with_reducible refine av.aF (fun h =>?_) (fun h =>?_) <;>try simp only[h])) <;>try simp only[aH,R,simprocAttr])
   all_goals clear R
   refine mL ?_ vI;rfl
 |some p =>
  obtain ⟨w,t⟩:=p;simp only[jw,h1] at hc;have hl:=re h1;simp only at hl;have ha:=tv (al.of w) (by rw[al.dn];omega);obtain ⟨n,hn⟩:=BO (h w t h1);rw[al.dn,hn] at ha;have R:=y6 @mu (y6 @jG (y6 @bm aC))
  repeat' ((first |(with_reducible refine .guard (fun hb =>?_) (fun hb =>?_) <;>try simp only[hb])|(refine U.lp (gs:=rA) (gs1:=[_,_]) rfl fun K hK =>?_)|refine U.aG (by decide +kernel) rfl fun K hK =>?_|refine .flat _ (hc) rfl ?_|refine .lead _ (ha) ?_|(refine .aE [0,2,3,4,5,6,7,8,25] hK ?_;clear hK K)|(with_reducible refine .done (hK _ ?_);clear hK K)|refine U.of rfl ?_|(with_reducible refine av.aF (fun h =>?_) (fun h =>?_) <;>try simp only[h])) <;>try simp only[aH,R,simprocAttr])
  all_goals clear R
  refine mL ?_ vI;rfl
theorem UE:qA Tryz.prog 124 3:=⟨yZ,fun bs w hb=>by
 obtain ⟨b1,b2,b3,rfl⟩:∃ b1 b2 b3,bs=[b1,b2,b3]:=by
  match bs,hb with
  | [a,b,c],_=>exact ⟨a,b,c,rfl⟩
 refine callsDIn_of_wpSIn Tryz.func124 rfl trivial fun c₀ cs hu =>?_;apply wpSIn_seq;apply wpSIn_region;simp[wpOpsSIn,go_sem,recoverD,hu,Tryz.ntmps124,Exit.thenS];refine wpSIn_of_wpIn rfl (wpIn_block (wpIn_seq (wpIn_region_list ?_)));simp[wpListIn,go_sem];refine wpIn_cond (t:=true) (by simp[Act.eval,Array.replicate]) ?_;simp only[if_true];refine wpIn_region_list ?_;simp[wpListIn,go_sem,Exit.inBlock];cases c₀
 simp_all[bodyPostS,results,Tryz.results124]⟩
theorem vF{P:Program}{o:Oper}{a:Act}{w w':World}{Kw:Act→World→Prop}{Q:Exit→Act→World→Prop}{n:Nat}(h:(execOp a.eval o).run P w=.ok .skip w')(hK:Kw (a.put o.dst undef) w'):o.wpIn Fence.wide n P a w Kw Q:=by
 refine ⟨fun _ _=>trivial,?_⟩
 show o.uponIn _ _ _ _ _ _ ((execOp a.eval o).run P w)
 rw[h,Oper.uponIn_skip];exact hK
theorem WC{P:Program}{o:Oper}{a:Act}{w w':World}{v:Value}{Kw:Act→World→Prop}{Q:Exit→Act→World→Prop}{n:Nat}(h:(execOp a.eval o).run P w=.ok (.value v) w')(hK:Kw (a.put o.dst v) w'):o.wpIn Fence.wide n P a w Kw Q:=by
 refine ⟨fun _ _=>trivial,?_⟩
 show o.uponIn _ _ _ _ _ _ ((execOp a.eval o).run P w)
 rw[h,Oper.uponIn_value];exact hK
theorem wD{P:Program}{o:Oper}{ρ:Operand→Value}{t:TypeId}{x y:Operand}{p v:Value}{w w':World}(ho:o.op=.store t x y)(hx:ρ x=p)(hy:ρ y=v)(h:(Instr.storeAt t p v).run P w=.ok () w'):(execOp ρ o).run P w=.ok .skip w':=by
 simp only[execOp,ho,hx,hy,Sem.run_bind,h];rfl
theorem wF{c:b9}{A:ab}{a:Act}{w:World}{D:aJ}{E:aM}{P:Program}(hs:aL c A a w D E){N b:Nat}{x z:I}{v:Value}{ds:List Value}{t:TypeId}{i:TypeInfo}(hn:A.o N=some (.box x))(aq:E N=some (.aB b z.aK))(hsh:x.aK=z.aK)
  (hz:ae w D E z ds) (hv:v.cells.toList=ds) (hi:P.info? t=some i) (hsz:i.size=ds.length) :
  ∃ w',(Instr.storeAt t (jM b) v).run P w=.ok () w'∧aL c (A.aQ N (.box z)) a w' D E:=by
 obtain ⟨b',cs,T,k1,k2,k3,k4,k5⟩:=hs.box hn;rw[aq] at k1;simp only[v6,bu.aB.injEq] at k1;obtain ⟨rfl,_⟩:=k1;have l1:=ae.length _ _ k4;have l2:=ae.length _ _ hz;have l3:x.size=z.size:=by rw[←I.hJ x,←I.hJ z,hsh]
 have hcl:cs.size=ds.length:=by rw[←zz5,l1,l2,l3]
 have hrun:=sW P b 0 T ds 0 cs w k3 (by omega) (ae.kh _ _ hz);simp only[Nat.add_zero] at hrun;have e:(cs.toList.take 0++ds++cs.toList.drop (0+ds.length))=ds:=by
  rw[List.take_zero,Y6,Z4,List.drop_eq_nil_of_le (by rw[zz5];omega),List.append_nil]
 rw[e] at hrun;have hs2:=hs.wj (y:=z) (cs':=ds.toArray) hn (hsh▸aq) hsh.symm (by simpa using hz);refine ⟨w.setRow b ds.toArray,?_,hs2⟩;have hg:¬ v.cells.size≠i.size:=by rw[hsz,←hv];simp
 have e2:P.cellsOf t=i.size:=by simp[Program.cellsOf,hi]
 simp only[jM,Instr.storeAt,Instr.sureAddr,storeVar,Sem.run_bind,Sem.run_pure,Result.andThen_ok,gq hi,Sem.run_ite,e2,if_neg hg,hv,hrun]
theorem Ib:qw Tryz.prog 124 ju [enc (default:ah),.int .i64 0,.bool false]:=⟨yZ,fun c A a w D E Ns bs hP hs aq hA=>by
 have hta:∀ W,(Instr.typeAssert (.iface 176 (.agg #[])) 20 176 true).run Tryz.prog W=.ok (.tuple #[.agg #[],.bool true]) W:=fun W=>by
  simp[Instr.typeAssert,run_underlying Tryz.underlying176]
 obtain ⟨N1,N2,N3,rfl⟩:∃ a b c,Ns=[a,b,c]:=by
  match Ns,aq.len.2 with
  | [a,b,c],_=>exact ⟨a,b,c,rfl⟩
 obtain ⟨b1,b2,b3,rfl⟩:∃ a b c,bs=[a,b,c]:=by
  match bs,aq.len.1 with
  | [a,b,c],_=>exact ⟨a,b,c,rfl⟩
 obtain ⟨hE1,hE2,hE3,_⟩:=aq;obtain ⟨⟨x1,hx1,hsh1⟩,⟨x2,hx2,hsh2⟩,⟨x3,hx3,hsh3⟩,_⟩:=hA;refine callsDIn_of_wpSIn Tryz.func124 rfl trivial fun c₀ cs hu =>?_;apply wpSIn_seq;apply wpSIn_region;simp[wpOpsSIn,go_sem,recoverD,hu,Tryz.ntmps124,Exit.thenS,ju];refine wpSIn_of_wpIn rfl (wpIn_block (wpIn_seq (wpIn_region_list ?_)));simp[wpListIn,go_sem];refine wpIn_cond (t:=false) (by simp[Act.eval,Array.replicate]) ?_;simp only[Z5,if_false];refine wpIn_seq (wpIn_region_list ?_);simp[wpListIn,go_sem,hta];refine wpIn_cond (t:=true) (by simp[Act.eval,Array.replicate]) ?_;simp only[if_true];refine wpIn_seq (wpIn_region_list ?_);simp[wpListIn,go_sem];refine wpIn_region_list ?_;have hb:Go.RowKit.Below w.heap.size w (w.alloc (Obj.cells #[] 176)):=ja _ _;have hs1:=hs.grow (D':=D) hb (fun _ _ h=>h) (fun _ _ h _=>h) (fun b o hd=>zy7 (hs.cK b o hd) hb.size);generalize w.alloc (Obj.cells #[] 176)=W1 at *;have nx:∀ {A:ab} {N M b d:Nat} {z y:I},E N=some (.aB b z.aK)→E M=some (.aB d y.aK)→(∃ x,A.o M=some (.box x)∧x.aK=y.aK)→∃ x,(A.aQ N (.box z)).o M=some (.box x)∧x.aK=y.aK:=by
  intro A N M b d z y h1 h2 ⟨x,h3,h4⟩;by_cases e:M=N
  ·subst e;rw[h1] at h2;simp only[v6,bu.aB.injEq] at h2;exact ⟨z,by simp[ab.aQ],h2.2⟩
  ·exact ⟨x,by simp[ab.aQ,e,h3],h4⟩
 obtain ⟨i50,hi50,hz50⟩:∃ i,Tryz.prog.info? 50=some i∧i.size=8:=by
  have h:(Tryz.prog.info? 50).map (·.size)=some 8:=by kernel_rfl
  obtain ⟨i,h1,h2⟩:=t7.1 h;exact ⟨i,h1,h2⟩
 obtain ⟨i3,hi3,hz3⟩:∃ i,Tryz.prog.info? 3=some i∧i.size=1:=by
  have h:(Tryz.prog.info? 3).map (·.size)=some 1:=by kernel_rfl
  obtain ⟨i,h1,h2⟩:=t7.1 h;exact ⟨i,h1,h2⟩
 obtain ⟨i4,hi4,hz4⟩:∃ i,Tryz.prog.info? 4=some i∧i.size=1:=by
  have h:(Tryz.prog.info? 4).map (·.size)=some 1:=by kernel_rfl
  obtain ⟨i,h1,h2⟩:=t7.1 h;exact ⟨i,h1,h2⟩
 obtain ⟨W2,hst1,hs2⟩:=wF (P:=Tryz.prog) (t:=50) (z:=enc (default:ah)) (v:=.agg #[.int .i64 0,.int .i64 0,.int .i64 0,.int .i64 0,.int .i64 0,.int .i64 0,.int .i64 0,.string ⟨#[]⟩]) hs1 hx1 hE1 hsh1
  (ds:=[.int .i64 0,.int .i64 0,.int .i64 0,.int .i64 0,.int .i64 0,.int .i64 0,.int .i64 0,.string ⟨#[]⟩]) (by
   show ae _ _ _ (.agg [.agg [.int .i64 0,.int .i64 0],.int .i64 0,.int .i64 0,.int .i64 0,.agg [.int .i64 0,.int .i64 0],.aj ⟨#[]⟩]) _
   simp only[ae,az];refine ⟨[.int .i64 0,.int .i64 0],_,rfl,⟨[.int .i64 0],_,rfl,⟨rfl,by decide⟩,[.int .i64 0],_,rfl,⟨rfl,by decide⟩,rfl⟩,[.int .i64 0],_,rfl,⟨rfl,by decide⟩,[.int .i64 0],_,rfl,⟨rfl,by decide⟩,[.int .i64 0],_,rfl,⟨rfl,by decide⟩,[.int .i64 0,.int .i64 0],_,rfl,⟨[.int .i64 0],_,rfl,⟨rfl,by decide⟩,[.int .i64 0],_,rfl,⟨rfl,by decide⟩,rfl⟩,[.string ⟨#[]⟩],[],rfl,⟨rfl,by decide⟩,rfl⟩) rfl hi50 hz50
 obtain ⟨y2,hy2,hsh2'⟩:=nx hE1 hE2 ⟨x2,hx2,hsh2⟩;obtain ⟨W3,hst2,hs3⟩:=wF (P:=Tryz.prog) (t:=3) (z:=.int .i64 0) (v:=.int .i64 0) hs2 hy2 hE2 hsh2' (ds:=[.int .i64 0]) (by simp only[ae];exact ⟨trivial,by decide⟩) rfl hi3 hz3;obtain ⟨y3,hy3,hsh3'⟩:=nx hE2 hE3 (nx hE1 hE3 ⟨x3,hx3,hsh3⟩);obtain ⟨W4,hst3,hs4⟩:=wF (P:=Tryz.prog) (t:=4) (z:=.bool false) (v:=.bool false) hs3 hy3 hE3 hsh3' (ds:=[.bool false]) (by simp only[ae]) rfl hi4 hz4;have hbl:∀ W,(Instr.build 50 #[]).run Tryz.prog W=.ok (.agg #[.int .i64 0,.int .i64 0,.int .i64 0,.int .i64 0,.int .i64 0,.int .i64 0,.int .i64 0,.string ⟨#[]⟩]) W:=fun W=>by
  simp[Instr.build,Tryz.zeroValue50,Instr.fill,Value.cells]
 simp only[wpListIn,Region.wanted,if_true];refine WC (v:=.agg #[.int .i64 0,.int .i64 0,.int .i64 0,.int .i64 0,.int .i64 0,.int .i64 0,.int .i64 0,.string ⟨#[]⟩]) (by simp only[execOp,Array.map_empty,Sem.run_bind,hbl];rfl) ?_;refine vF (wD rfl (by simp[Act.eval,Act.put]) (by simp[Act.eval,Act.put]) hst1) ?_;refine vF (wD rfl (by simp[Act.eval,Act.put]) (by simp[Act.eval]) hst2) ?_;refine vF (wD rfl (by simp[Act.eval,Act.put]) (by simp[Act.eval]) hst3) ?_;simp[Exit.inBlock,bodyPostS,results,Tryz.results124,settle];exact ⟨rfl,hs4⟩⟩
end Go.Proofs.YtoffnnjbplgnaaaGreatDoor
namespace Go.Proofs.YtoffnnjbplgnaaaGreatDoor
open Go Go.Abs Go.Shelf Go.RowKit
open Go.Abs.Enc (enc)
def A9:Go.Shelf.Ren:=⟨fun | 166=>156 | 240=>173 | 276=>194 | n=>n,fun | 70=>203 | 9=>9 | 3=>3 | 75=>199 | 0=>0 | 72=>205 | 37=>45 | 4=>4 | 164=>237 | 80=>206 | 5=>5 | n=>n,fun | n=>n⟩
theorem Ve:Go.Proofs.Lays.n166 Tryz.prog A9 := {
 mixed:=by kernel_rfl
 f166:=Tryz.func156.trans (congrArg some (by kernel_rfl))
 f240:=Tryz.func173.trans (congrArg some (by kernel_rfl))
 f276:=Tryz.func194.trans (congrArg some (by kernel_rfl))
 t0:=Tryz.underlying0
 a0:=Tryz.isAgg0
 z0:=Tryz.sizeOf0
 v0:=Tryz.zeroValue0
 t3:=Tryz.underlying3
 a3:=Tryz.isAgg3
 z3:=Tryz.sizeOf3
 v3:=Tryz.zeroValue3
 t4:=Tryz.underlying4
 a4:=Tryz.isAgg4
 z4:=Tryz.sizeOf4
 v4:=Tryz.zeroValue4
 t9:=Tryz.underlying9
 a9:=Tryz.isAgg9
 z9:=Tryz.sizeOf9
 v9:=Tryz.zeroValue9
 t20:=Tryz.underlying20
 a20:=Tryz.isAgg20
 z20:=Tryz.sizeOf20
 v20:=Tryz.zeroValue20
 t37:=Tryz.underlying45
 a37:=Tryz.isAgg45
 z37:=Tryz.sizeOf45
 v37:=Tryz.zeroValue45
 t70:=Tryz.underlying203
 a70:=Tryz.isAgg203
 z70:=Tryz.sizeOf203
 v70:=Tryz.zeroValue203
 t72:=Tryz.underlying205
 a72:=Tryz.isAgg205
 z72:=Tryz.sizeOf205
 v72:=Tryz.zeroValue205
 t75:=Tryz.underlying199
 a75:=Tryz.isAgg199
 z75:=Tryz.sizeOf199
 v75:=Tryz.zeroValue199
 t164:=Tryz.underlying237
 a164:=Tryz.isAgg237
 z164:=Tryz.sizeOf237
 v164:=Tryz.zeroValue237 }
def Ba:Go.Shelf.Ren:=⟨fun | 169=>157 | n=>n,fun | 70=>203 | 9=>9 | 0=>0 | 72=>205 | 37=>45 | 127=>202 | 3=>3 | 5=>5 | n=>n,fun | n=>n⟩
theorem Vf:Go.Proofs.Lays.n169 Tryz.prog Ba := {
 mixed:=by kernel_rfl
 f169:=Tryz.func157.trans (congrArg some (by kernel_rfl))
 t0:=Tryz.underlying0
 a0:=Tryz.isAgg0
 z0:=Tryz.sizeOf0
 v0:=Tryz.zeroValue0
 t3:=Tryz.underlying3
 a3:=Tryz.isAgg3
 z3:=Tryz.sizeOf3
 v3:=Tryz.zeroValue3
 t9:=Tryz.underlying9
 a9:=Tryz.isAgg9
 z9:=Tryz.sizeOf9
 v9:=Tryz.zeroValue9
 t37:=Tryz.underlying45
 a37:=Tryz.isAgg45
 z37:=Tryz.sizeOf45
 v37:=Tryz.zeroValue45
 t70:=Tryz.underlying203
 a70:=Tryz.isAgg203
 z70:=Tryz.sizeOf203
 v70:=Tryz.zeroValue203
 t72:=Tryz.underlying205
 a72:=Tryz.isAgg205
 z72:=Tryz.sizeOf205
 v72:=Tryz.zeroValue205
 t127:=Tryz.underlying202
 a127:=Tryz.isAgg202
 z127:=Tryz.sizeOf202
 v127:=Tryz.zeroValue202 }
theorem LX:Builder.Extra Tryz.prog A9 where
 sizeBuilder:=by kernel_rfl
 liesBuilder:=by kernel_rfl
 t5:=Tryz.underlying5
 a5:=Tryz.isAgg5
 z5:=Tryz.sizeOf5
 v5:=Tryz.zeroValue5
 infoByte:=by kernel_rfl
 cellsByte:=by kernel_rfl
 sizeByte:=by kernel_rfl
 neB5:=by decide
theorem LY:Builder.Extra Tryz.prog Ba where
 sizeBuilder:=by kernel_rfl
 liesBuilder:=by kernel_rfl
 t5:=Tryz.underlying5
 a5:=Tryz.isAgg5
 z5:=Tryz.sizeOf5
 v5:=Tryz.zeroValue5
 infoByte:=by kernel_rfl
 cellsByte:=by kernel_rfl
 sizeByte:=by kernel_rfl
 neB5:=by decide
abbrev kI(B b:Nat)(l:List UInt8)(w:World):Prop:=Lib.IsBuilderF 205 5 B b (Lib.byteCells l) w
abbrev tE(b:Nat)(w w':World):Prop:=Lib.OthersKept 5 (some b) w w'
theorem EG(B b:Nat)(l:List UInt8)(s:ByteArray)(w:World)(h:kI B b l w)(hlen:l.length+s.size≤140737488355328)(hB:B≤w.heap.size) :
  Calls Tryz.prog 156 #[.pointer (some ⟨b,0,none⟩),.string s] w fun e w'=>e=.returned (.tuple #[.int .i64 s.size,.nilIface])∧(kI B b (l++s.data.toList) w'∧Below B w w'∧tE b w w'):=by
 refine (Any.Builder_WriteString_k Ve LX B b (Lib.byteCells l) s w h (by rw[Lib.byteCells_length];exact hlen) hB).mono ?_;rintro e w' ⟨rfl,h1,h2,h3⟩;refine ⟨rfl,.inr ?_,h2,h3⟩;rw[Lib.byteCells_append];exact h1
theorem xI(B b:Nat)(l:List UInt8)(w:World)(h:kI B b l w)(hB:B≤w.heap.size) :
  Calls Tryz.prog 157 #[.pointer (some ⟨b,0,none⟩)] w fun e w'=>e=.returned (.string ⟨l.toArray⟩)∧(kI B b l w'∧Below B w w'∧tE b w w'):=Any.Builder_String_any_k Vf LY B b l w h hB
theorem US(n:Int)(h:IntKind.i64.min≤n∧n≤IntKind.i64.max)(W:World)(hl:ew Tryz.prog W (fun _=>False)):Calls Tryz.prog 132 #[.int .i64 n] W fun e w'=>e=.returned (.string ⟨(Lib.itoa n).toArray⟩)∧Below W.heap.size W w':=by
 have h3':-9223372036854775808≤n:=h.1;have h4':n≤9223372036854775807:=h.2;obtain ⟨_,htab,rfl⟩:=hl.rC (n:=rS) (k:=.sF) (g:=3) (by simp[mC]) (by kernel_rfl);refine (Any.strconv_Itoa A6 n h3' h4' W htab).mono ?_;rintro e w' ⟨rfl,k,os,rfl⟩;exact ⟨rfl,tT W k os⟩
theorem A5{w wr:World}(hl:ew Tryz.prog w (fun _=>False))(h:Below w.heap.size w wr):ew Tryz.prog wr (fun _=>False) :=
 hl.A2 (M:=fun b=>w.heap.size≤b) ⟨h.os,h.tape,h.output,h.size,fun k hk=>h.block k (by omega)⟩ (fun b hb=>.inl hb) (fun b hb=>hb.elim)
theorem rO{B b:Nat}{l:List UInt8}{w w':World}(hI:kI B b l w)(h:Below w.heap.size w w'):kI B b l w':=by
 have key:∀ p,Lib.BuilderAtF 205 5 B b p (Lib.byteCells l) w→Lib.BuilderAtF 205 5 B b p (Lib.byteCells l) w':=by
  rintro p ⟨h1,v,h2,⟨h3,h4⟩,h5⟩;refine ⟨h1,v,(h.block b (eI h2)).trans h2,⟨h3,?_⟩,h5⟩;rcases h4 with h4 | ⟨g,cap,cur,fz,k1,k2,k3,k4⟩
  ·exact .inl h4
  ·exact .inr ⟨g,cap,cur,fz,k1,k2,(h.block g (eI k3)).trans k3,k4⟩
 exact hI.imp (key _) (key _)
theorem Ia(a:List UInt8)(t:ByteArray):((⟨a.toArray⟩:ByteArray)++t)=⟨(a++t.data.toList).toArray⟩:=by
 apply ByteArray.ext;simp[ByteArray.data_append]
theorem XL(l:List Int)(n:Int):dA (l++[n])=dA l++(Lib.itoa n++[32]):=by simp[dA]
theorem GL(m n k d kn om on:Int)(t:ByteArray)(w:World)(hl:ew Tryz.prog w (fun _=>False))(hbd:∀ x∈[m,n,k,d,kn,om,on],IntKind.i64.min≤x∧x≤IntKind.i64.max)(ht:t.size≤1000000000000) :
  Calls Tryz.prog 131 #[.agg #[.int .i64 m,.int .i64 n,.int .i64 k,.int .i64 d,.int .i64 kn,.int .i64 om,.int .i64 on,.string t]] w fun e w'=>e=.returned (.string ⟨(dA [m,n,k,d,kn,om,on]++t.data.toList).toArray⟩)∧Below w.heap.size w w':=by
 obtain ⟨vs,hvs⟩:∃ vs:List Int,vs=[m,n,k,d,kn,om,on]:=⟨_,rfl⟩
 have hvl:vs.length=7:=by rw[hvs];rfl
 rw[←hvs] at hbd;have hlen:∀ j,(dA (vs.take j)).length≤22*j:=by
  intro j;have:∀ l:List Int,(∀ x∈l,IntKind.i64.min≤x∧x≤IntKind.i64.max)→(dA l).length≤22*l.length:=by
   intro l
   induction l with
   |nil=>intro _;simp[dA]
   |cons x l ih =>
    intro h;have h1:=ih fun y hy=>h y (by simp[hy]);have h2:=Lib.itoa_length_le x (h x (by simp)).1 (h x (by simp)).2;simp only[dA] at h1;simp only[dA,List.flatMap_cons,Z1,zy1,zz8];omega
  have h3:=this (vs.take j) fun x hx=>hbd x (zy8 hx);have h4:(vs.take j).length≤j:=by rw[Y0];omega
  omega
 go_enter Tryz.func131,Tryz.ntmps131
 go_wp2
 go_loopw [26] (fun i wr=>∃ j:Nat,j≤7∧i=.int .i64 j∧kI w.heap.size (w.heap.size+1) (dA (vs.take j)) wr∧wr.heap[w.heap.size]?=some (.cells #[.int .i64 m,.int .i64 n,.int .i64 k,.int .i64 d,.int .i64 kn,.int .i64 om,.int .i64 on,.string t] 50) ∧
  wr.heap[w.heap.size+1+1]?=some (.cells (vs.map (Value.int .i64)).toArray 3)∧Below w.heap.size w wr) (fun i _=>7-(RowKit.intOf i).toNat)
 case atStart =>
  obtain ⟨c1,hc1⟩:∃ c1,c1=Obj.cells #[.int .i64 m,.int .i64 n,.int .i64 k,.int .i64 d,.int .i64 kn,.int .i64 om,.int .i64 on,.string t] 50:=⟨_,rfl⟩
  have hv0:(#[.int .i64 m,.int .i64 n,.int .i64 k,.int .i64 d,.int .i64 kn,.int .i64 om,.int .i64 on]:Array Value)=(vs.map (Value.int .i64)).toArray:=by rw[hvs];rfl
  rw[←hc1,hv0];obtain ⟨w1,hw1⟩:∃ w1,w1=w.alloc c1:=⟨_,rfl⟩
  obtain ⟨w2,hw2⟩:∃ w2,w2=w1.alloc (Obj.cells #[Value.pointer none,Value.slice none 0 0] 205):=⟨_,rfl⟩
  obtain ⟨w3,hw3⟩:∃ w3,w3=w2.alloc (Obj.cells (vs.map (Value.int .i64)).toArray 3):=⟨_,rfl⟩
  have s1:w1.heap.size=w.heap.size+1:=by rw[hw1];simp
  have s2:w2.heap.size=w.heap.size+1+1:=by rw[hw2];simp[s1]
  have b1:Below w.heap.size w w1:=hw1▸ja w c1;have b2:Below w1.heap.size w1 w2:=hw2▸ja w1 _;have b3:Below w2.heap.size w2 w3:=hw3▸ja w2 _;have e1:w1.heap[w.heap.size]?=some c1:=hw1▸heap_alloc_new w c1;have e2:w2.heap[w1.heap.size]?=some (Obj.cells #[Value.pointer none,Value.slice none 0 0] 205):=hw2▸heap_alloc_new w1 _;have e3:w3.heap[w2.heap.size]?=some (Obj.cells (vs.map (Value.int .i64)).toArray 3):=hw3▸heap_alloc_new w2 _;rw[←hw1,←hw2,←hw3];refine ⟨0,by omega,rfl,.inl ⟨by omega,.slice none 0 0,?_,⟨rfl,.inl ⟨rfl,rfl⟩⟩,by simp[Value.ownBlock]⟩,?_,?_,?_⟩
  ·rw[b3.block _ (by omega),←s1];exact e2
  ·rw[b3.block _ (by omega),b2.block _ (by omega)];exact e1
  ·rw[←s2];exact e3
  ·exact (b1.trans (b2.mono (by omega))).trans (b3.mono (by omega))
 case round =>
  obtain ⟨j,hj,rfl,hI,hr,hv,hbw⟩:=hrel;have hB1:w.heap.size≤wr.heap.size:=hbw.size;by_cases hlt:j<7
  ·have hjv:j<vs.length:=by omega
   have hc:wr.cell? ⟨w.heap.size+1+1,j,none⟩=some (.int .i64 vs[j]):=by
    simp[World.cell?,hv,hjv]
   have hbx:=hbd vs[j] (List.getElem_mem hjv);have jC:=Lib.itoa_length_le vs[j] hbx.1 hbx.2;have hj2:=hlen j;have htk:dA (vs.take (j+1))=dA (vs.take j)++(Lib.itoa vs[j]++[32]):=by rw[List.take_succ_eq_append_getElem hjv,XL]
   generalize vs[j]=x at *;have hsz:((⟨(Lib.itoa x).toArray⟩:ByteArray)++⟨#[32]⟩).size=(Lib.itoa x).length+1:=by rw[ByteArray.size_append];rfl
   have hdat:((⟨(Lib.itoa x).toArray⟩:ByteArray)++⟨#[32]⟩).data.toList=Lib.itoa x++[32]:=by simp
   have hlt':decide ((j:Int)<7)=true:=by simp;omega
   have hw:=eP (i:=j) (by omega)
   go_wp2_with (first | (go_at_call 132;refine (US x hbx _ (A5 hl hbw)).mono ?_;rintro e W1 ⟨rfl,hb1⟩) | (go_at_call 156;refine (EG w.heap.size (w.heap.size+1) _ _ _ (rO hI hb1) (by rw[hsz];omega) (by have:=hb1.size;omega)).mono ?_;rintro e W2 ⟨rfl,hI2,hb2,hk2⟩))
   have q1:w.heap.size<wr.heap.size:=eI hr;have q2:w.heap.size+1+1<wr.heap.size:=eI hv;refine ⟨⟨j+1,by omega,rfl,?_,?_,?_,?_⟩,by simp only[RowKit.intOf];omega⟩
   ·rw[htk];rw[hdat] at hI2;exact hI2
   ·exact hk2 _ _ ((hb1.block _ q1).trans hr) (by simp) (fun c fz e=>by cases e)
   ·exact hk2 _ _ ((hb1.block _ q2).trans hv) (by simp) (fun c fz e=>by cases e)
   ·exact (hbw.trans (hb1.mono hB1)).trans hb2
  ·have hj7:j=7:=by omega
   subst hj7;have hlt':decide (((7:Nat):Int)<7)=false:=by decide
   rw[List.take_of_length_le (by omega)] at hI;have hcr:wr.cell? ⟨w.heap.size,7,none⟩=some (.string t):=by simp[World.cell?,hr]
   have q1:w.heap.size<wr.heap.size:=eI hr
   go_wp2
   have hI1:kI w.heap.size (w.heap.size+1) (dA vs) wr.drew:=rO hI ⟨rfl,rfl,rfl,Z7 _,fun _ _=>rfl⟩;have hcd:wr.drew.cell? ⟨w.heap.size,7,none⟩=some (.string t):=hcr;have ba:∀ W2,tE (w.heap.size+1) wr.drew W2→W2.cell? ⟨w.heap.size,7,none⟩=some (.string t):=fun W2 hk=>by
    have:=hk _ _ hr (by simp) (fun c fz e=>by cases e);simp[World.cell?,this]
   have hl7:=hlen 7;rw[List.take_of_length_le (by omega)] at hl7;have hsum:¬ (9223372036854775807<(⟨(dA vs).toArray⟩:ByteArray).size+t.size):=by
    have e1:(⟨(dA vs).toArray⟩:ByteArray).size=(dA vs).length:=by show (dA vs).toArray.size=_;simp
    rw[e1];omega
   have hdr:Below w.heap.size wr wr.drew:=⟨rfl,rfl,rfl,Z7 _,fun _ _=>rfl⟩
   have hcall:=xI w.heap.size (w.heap.size+1) _ _ hI1 (by show _≤wr.heap.size;omega);generalize hS:(⟨(dA vs).toArray⟩:ByteArray)=S at *
   go_region_with (go_at_call 157;refine (hcall).mono ?_;rintro e W2 ⟨rfl,hI2,hb2,hk2⟩;have hc2:=ba W2 hk2)
   all_goals go_wp2
   all_goals go_ret
   all_goals refine ⟨?_,(hbw.trans hdr).trans hb2⟩
   all_goals rw[←hvs,←hS,Ia]
   all_goals rfl
theorem Dn{w:World}{D:aJ}{E:aM}{r:ah}{v:Value}(h:aP w D E (enc r) v):v=.agg #[.int .i64 r.aO,.int .i64 r.no,.int .i64 r.kind,.int .i64 r.dW,.int .i64 r.known,.int .i64 r.e9,.int .i64 r.fo,.string ⟨r.text.toArray⟩] ∧
  (∀ x∈eD r,IntKind.i64.min≤x∧x≤IntKind.i64.max)∧r.text.length≤maxLen:=by
 obtain ⟨cs,h1,h2⟩:=h;have h2':ae w D E (.agg [.agg [.int .i64 r.aO,.int .i64 r.no],.int .i64 r.kind,.int .i64 r.dW,.int .i64 r.known,.agg [.int .i64 r.e9,.int .i64 r.fo],.aj ⟨r.text.toArray⟩]) cs:=h2;simp only[ae,az] at h2';obtain ⟨_,_,rfl,⟨_,_,rfl,⟨rfl,a1⟩,_,_,rfl,⟨rfl,a2⟩,rfl⟩,_,_,rfl,⟨rfl,a3⟩,_,_,rfl,⟨rfl,a4⟩,_,_,rfl,⟨rfl,a5⟩,_,_,rfl,⟨_,_,rfl,⟨rfl,a6⟩,_,_,rfl,⟨rfl,a7⟩,rfl⟩,_,_,rfl,⟨rfl,a8⟩,rfl⟩:=h2';refine ⟨h1,?_,by simpa[ByteArray.size] using a8⟩;intro x hx;simp only[eD,zy0,List.not_mem_nil,or_false] at hx;rcases hx with rfl | rfl | rfl | rfl | rfl | rfl | rfl <;>assumption
theorem EV(r:ah)(hs:r.text.length≤1000000000000):aR Tryz.prog 131 [enc r] (enc (al.of (da r))):=by
 refine ⟨G4,fun w D vs hl hD hv =>?_⟩;have hv':=hv;simp only[ak] at hv';obtain ⟨v,rest,cs,rfl,h1,h2,rfl⟩:=hv';obtain ⟨rfl,hb,_⟩:=Dn (fm h1 h2);refine (GL _ _ _ _ _ _ _ ⟨r.text.toArray⟩ w hl hb (by show r.text.toArray.size≤_;simpa using hs)).mono ?_;rintro e w' ⟨rfl,hbl⟩;have hlen:(da r).length≤1000000001000:=by
  have:∀ l:List Int,(∀ x∈l,IntKind.i64.min≤x∧x≤IntKind.i64.max)→(dA l).length≤22*l.length:=by
   intro l
   induction l with
   |nil=>intro _;simp[dA]
   |cons x l ih =>
    intro h;have h1:=ih fun y hy=>h y (by simp[hy]);have h2:=Lib.itoa_length_le x (h x (by simp)).1 (h x (by simp)).2;simp only[dA] at h1;simp only[dA,List.flatMap_cons,Z1,zy1,zz8];omega
  have h3:=this (eD r) hb;have h4:(eD r).length=7:=rfl;rw[da,Z1];omega
 exact ⟨_,D,rfl,DG (l:=da r) (by unfold maxLen;omega),hbl,fun b o hd=>zy7 (hD b o hd) hbl.size,fun _ _ h _=>h⟩
end Go.Proofs.YtoffnnjbplgnaaaGreatDoor
namespace Go.Proofs.YtoffnnjbplgnaaaGreatDoor
open Go Go.Abs
open Go.Abs.Enc (enc)
def fX(c:UInt8):Bool := !(decide ((c.toNat:Int)<32)||(decide ((c.toNat:Int)>126)||((c.toNat:Int)==63)))
def gG(t:List UInt8):Bool:=decide (t.length≤160)&&t.all fX
theorem BM{t:List UInt8}{i:Nat}(h:i<t.length)(h1:(t.take i).all fX=true):(fX t[i]=true→(t.take (i+1)).all fX=true)∧(fX t[i]=false→t.all fX=false):=by
 refine ⟨fun h2 =>?_,fun h2 =>?_⟩
 ·rw[List.take_succ_eq_append_getElem h,List.all_append,h1];simp[h2]
 ·rw[List.all_eq_false];exact ⟨t[i],List.getElem_mem h,by simp[h2]⟩
theorem mY(t:List UInt8):lR (enc (al.of t))=some (.int .i64 (t.length:Int)):=by rw[qf,al.dn]
theorem DT(t:List UInt8){i:Nat}(h:i<t.length):ef .dN [enc (al.of t),.int .i64 (i:Int)]=some (.int .u8 (t[i].toNat:Int)):=DS (al.of t) h
theorem wg(t:List UInt8):lv (enc (al.of t))=some (t.map enc):=rfl
theorem EU(t:List UInt8):aR Tryz.prog 130 [enc (al.of t)] (enc (gG t)):=by
 refine aR.bK Tryz.func130 G3 Ik JG (t8 rfl) (fun hwf W0 bB E1 =>?_);simp only[xX,Cm,bA];clear hwf;have hl:=mY t;have hsb:=wg t;rcases q:decide ((t.length:Int)>160)
 rotate_left
 ·have h1:(t.length:Int)>160:=of_decide_eq_true q;rw[show gG t=false by simp only[gG];rw[decide_eq_false (by omega)];rfl];have R:=y6 @hl (y6 @q (y6 @bm aC))
  repeat' ((first |(with_reducible refine .guard (fun hb =>?_) (fun hb =>?_) <;>try simp only[hb])|refine U.aG (by decide +kernel) rfl fun K hK =>?_|(refine .aE [0,2,4,7,9,10,11,12,24] hK ?_;clear hK K)|(with_reducible refine .done (hK _ ?_);clear hK K)|refine U.of rfl ?_|(with_reducible refine av.aF (fun h =>?_) (fun h =>?_) <;>try simp only[h])) <;>try simp only[aH,R,simprocAttr])
  all_goals clear R
  all_goals rfl
 have h1:¬ (t.length:Int)>160:=of_decide_eq_false q;rw[show gG t=t.all fX by simp only[gG];rw[decide_eq_true (by omega)];rfl];have R:=y6 @hl (y6 @hsb (y6 @q (y6 @bm (y6 @gr aC))))
 repeat' ((first |(with_reducible refine .guard (fun hb =>?_) (fun hb =>?_) <;>try simp only[hb])|refine aX.eE rfl fun m =>?_|refine U.aG (by decide +kernel) rfl fun K hK =>?_|(refine .aE [0,2,4,7,9,10,11,12,24] hK ?_;clear hK K)|(with_reducible refine .done (hK _ ?_);clear hK K)|refine U.of rfl ?_|(with_reducible refine av.aF (fun h =>?_) (fun h =>?_) <;>try simp only[h])) <;>try simp only[aH,R,simprocAttr])
 all_goals clear R
 refine U.loop (fun i:Nat=>aw [(0,enc (al.of t)),(9,enc t),(10,.int .i64 t.length),(11,.int .i64 i)] []) (fun i=>i≤t.length∧(t.take i).all fX=true) (fun i=>t.length-i) 0 ⟨zy9 _,rfl⟩ ?_ ?_
 ·refine bC.rp [9] 9 (x:=.view 9 [] 1 0 t.length) (y:=enc t) rfl (zV rfl) ?_ ?_ ?_ ?_ ?_ <;>simp[dO,bW,cm,cv,ct,je,cj,I.only,bI]
 rintro i ⟨hi,hok⟩;by_cases hlt:i<t.length
 ·have hlc:=fj hlt;have he:=fun A=>fi (A:=A) 1 hlt rfl;have hw:=eP (i:=i) (by omega);obtain ⟨h2,h3⟩:=BM hlt hok;generalize t[i]=c at *;rcases q1:decide ((c.toNat:Int)<32)
  rotate_left
  ·rw[h3 (by simp[fX,q1])];have R:=y6 @hl (y6 @hlc (y6 @he (y6 @hw (y6 @q1 (y6 @qh (y6 @bm aC))))))
   repeat' ((first |(with_reducible refine .guard (fun hb =>?_) (fun hb =>?_) <;>try simp only[hb])|refine U.aG (by decide +kernel) rfl fun K hK =>?_|(refine .aE [0,2,4,7,9,10,11,12,24] hK ?_;clear hK K)|(with_reducible refine .done (hK _ ?_);clear hK K)|refine U.of rfl ?_|(with_reducible refine av.aF (fun h =>?_) (fun h =>?_) <;>try simp only[h])) <;>try simp only[aH,R,simprocAttr])
   all_goals clear R
   all_goals rfl
  rcases q2:decide ((c.toNat:Int)>126)
  rotate_left
  ·rw[h3 (by simp only[fX,q1,q2];rfl)];have R:=y6 @hl (y6 @hlc (y6 @he (y6 @hw (y6 @q1 (y6 @q2 (y6 @qh (y6 @bm aC)))))))
   repeat' ((first |(with_reducible refine .guard (fun hb =>?_) (fun hb =>?_) <;>try simp only[hb])|refine U.aG (by decide +kernel) rfl fun K hK =>?_|(refine .aE [0,2,4,7,9,10,11,12,24] hK ?_;clear hK K)|(with_reducible refine .done (hK _ ?_);clear hK K)|refine U.of rfl ?_|(with_reducible refine av.aF (fun h =>?_) (fun h =>?_) <;>try simp only[h])) <;>try simp only[aH,R,simprocAttr])
   all_goals clear R
   all_goals rfl
  rcases q3:((c.toNat:Int)==63)
  rotate_left
  ·rw[h3 (by simp only[fX,q1,q2,q3];rfl)];have R:=y6 @hl (y6 @hlc (y6 @he (y6 @hw (y6 @q1 (y6 @q2 (y6 @q3 (y6 @qh (y6 @bm aC))))))))
   repeat' ((first |(with_reducible refine .guard (fun hb =>?_) (fun hb =>?_) <;>try simp only[hb])|refine U.aG (by decide +kernel) rfl fun K hK =>?_|(refine .aE [0,2,4,7,9,10,11,12,24] hK ?_;clear hK K)|(with_reducible refine .done (hK _ ?_);clear hK K)|refine U.of rfl ?_|(with_reducible refine av.aF (fun h =>?_) (fun h =>?_) <;>try simp only[h])) <;>try simp only[aH,R,simprocAttr])
   all_goals clear R
   all_goals rfl
  have h4:=h2 (by simp only[fX,q1,q2,q3];rfl);have R:=y6 @hl (y6 @hlc (y6 @he (y6 @hw (y6 @q1 (y6 @q2 (y6 @q3 (y6 @qh (y6 @bm aC))))))))
  repeat' ((first |(with_reducible refine .guard (fun hb =>?_) (fun hb =>?_) <;>try simp only[hb])|refine U.aG (by decide +kernel) rfl fun K hK =>?_|(refine .aE [0,2,4,7,9,10,11,12,24] hK ?_;clear hK K)|(with_reducible refine .done (hK _ ?_);clear hK K)|refine U.of rfl ?_|(with_reducible refine av.aF (fun h =>?_) (fun h =>?_) <;>try simp only[h])) <;>try simp only[aH,R,simprocAttr])
  all_goals clear R
  refine ⟨i+1,⟨by omega,h4⟩,by omega,?_⟩;clear h2 h3 h4 hok;refine bC.cO ?_ ?_ ?_ ?_ <;>simp[cm,cv,ct,bW,cj,I.only,bI]
 ·have hlc:=fH hlt;have hge:i=t.length:=by omega
  rw[hge,List.take_length] at hok;rw[hok];have R:=y6 @hl (y6 @hlc (y6 @bm aC))
  repeat' ((first |(with_reducible refine .guard (fun hb =>?_) (fun hb =>?_) <;>try simp only[hb])|refine U.aG (by decide +kernel) rfl fun K hK =>?_|(refine .aE [0,2,4,7,9,10,11,12,24] hK ?_;clear hK K)|(with_reducible refine .done (hK _ ?_);clear hK K)|refine U.of rfl ?_|(with_reducible refine av.aF (fun h =>?_) (fun h =>?_) <;>try simp only[h])) <;>try simp only[aH,R,simprocAttr])
  all_goals clear R
  all_goals rfl
theorem Fu(t:List UInt8):aR Tryz.prog 86 [enc (al.of t)] (enc (gG t)):=by
 refine aR.bK Tryz.func86 HS I6 Kp (t8 rfl) (fun hwf W0 bB E1 =>?_);simp only[yM,C4,bA];clear hwf;have hl:=mY t;rcases q:decide ((t.length:Int)>160)
 rotate_left
 ·have h1:(t.length:Int)>160:=of_decide_eq_true q;rw[show gG t=false by simp only[gG];rw[decide_eq_false (by omega)];rfl];have R:=y6 @hl (y6 @q (y6 @bm aC))
  repeat' ((first |(with_reducible refine .guard (fun hb =>?_) (fun hb =>?_) <;>try simp only[hb])|refine U.aG (by decide +kernel) rfl fun K hK =>?_|(refine .aE [0,2,3,6,10,28] hK ?_;clear hK K)|(with_reducible refine .done (hK _ ?_);clear hK K)|refine U.of rfl ?_|(with_reducible refine av.aF (fun h =>?_) (fun h =>?_) <;>try simp only[h])) <;>try simp only[aH,R,simprocAttr])
  all_goals clear R
  all_goals rfl
 have h1:¬ (t.length:Int)>160:=of_decide_eq_false q;rw[show gG t=t.all fX by simp only[gG];rw[decide_eq_true (by omega)];rfl];have R:=y6 @hl (y6 @q (y6 @bm aC))
 repeat' ((first |(with_reducible refine .guard (fun hb =>?_) (fun hb =>?_) <;>try simp only[hb])|refine U.aG (by decide +kernel) rfl fun K hK =>?_|(refine .aE [0,2,3,6,10,28] hK ?_;clear hK K)|(with_reducible refine .done (hK _ ?_);clear hK K)|refine U.of rfl ?_|(with_reducible refine av.aF (fun h =>?_) (fun h =>?_) <;>try simp only[h])) <;>try simp only[aH,R,simprocAttr])
 all_goals clear R
 refine U.loop (fun i:Nat=>aw [(0,enc (al.of t)),(3,.int .i64 i)] []) (fun i=>i≤t.length∧(t.take i).all fX=true) (fun i=>t.length-i) 0 ⟨zy9 _,rfl⟩ ?_ ?_
 ·refine bC.cO ?_ ?_ ?_ ?_ <;>simp[cm,cv,ct,bW,cj,I.only,bI]
 rintro i ⟨hi,hok⟩;by_cases hlt:i<t.length
 ·have hlc:=fj hlt;have he:=DT t hlt;have hw:=eP (i:=i) (by omega);obtain ⟨h2,h3⟩:=BM hlt hok;generalize t[i]=c at *;rcases q1:decide ((c.toNat:Int)<32)
  rotate_left
  ·rw[h3 (by simp[fX,q1])];have R:=y6 @hl (y6 @hlc (y6 @he (y6 @hw (y6 @q1 (y6 @bm aC)))))
   repeat' ((first |(with_reducible refine .guard (fun hb =>?_) (fun hb =>?_) <;>try simp only[hb])|refine U.aG (by decide +kernel) rfl fun K hK =>?_|(refine .aE [0,2,3,6,10,28] hK ?_;clear hK K)|(with_reducible refine .done (hK _ ?_);clear hK K)|refine U.of rfl ?_|(with_reducible refine av.aF (fun h =>?_) (fun h =>?_) <;>try simp only[h])) <;>try simp only[aH,R,simprocAttr])
   all_goals clear R
   all_goals rfl
  rcases q2:decide ((c.toNat:Int)>126)
  rotate_left
  ·rw[h3 (by simp only[fX,q1,q2];rfl)];have R:=y6 @hl (y6 @hlc (y6 @he (y6 @hw (y6 @q1 (y6 @q2 (y6 @bm aC))))))
   repeat' ((first |(with_reducible refine .guard (fun hb =>?_) (fun hb =>?_) <;>try simp only[hb])|refine U.aG (by decide +kernel) rfl fun K hK =>?_|(refine .aE [0,2,3,6,10,28] hK ?_;clear hK K)|(with_reducible refine .done (hK _ ?_);clear hK K)|refine U.of rfl ?_|(with_reducible refine av.aF (fun h =>?_) (fun h =>?_) <;>try simp only[h])) <;>try simp only[aH,R,simprocAttr])
   all_goals clear R
   all_goals rfl
  rcases q3:((c.toNat:Int)==63)
  rotate_left
  ·rw[h3 (by simp only[fX,q1,q2,q3];rfl)];have R:=y6 @hl (y6 @hlc (y6 @he (y6 @hw (y6 @q1 (y6 @q2 (y6 @q3 (y6 @bm aC)))))))
   repeat' ((first |(with_reducible refine .guard (fun hb =>?_) (fun hb =>?_) <;>try simp only[hb])|refine U.aG (by decide +kernel) rfl fun K hK =>?_|(refine .aE [0,2,3,6,10,28] hK ?_;clear hK K)|(with_reducible refine .done (hK _ ?_);clear hK K)|refine U.of rfl ?_|(with_reducible refine av.aF (fun h =>?_) (fun h =>?_) <;>try simp only[h])) <;>try simp only[aH,R,simprocAttr])
   all_goals clear R
   all_goals rfl
  have h4:=h2 (by simp only[fX,q1,q2,q3];rfl);have R:=y6 @hl (y6 @hlc (y6 @he (y6 @hw (y6 @q1 (y6 @q2 (y6 @q3 (y6 @bm aC)))))))
  repeat' ((first |(with_reducible refine .guard (fun hb =>?_) (fun hb =>?_) <;>try simp only[hb])|refine U.aG (by decide +kernel) rfl fun K hK =>?_|(refine .aE [0,2,3,6,10,28] hK ?_;clear hK K)|(with_reducible refine .done (hK _ ?_);clear hK K)|refine U.of rfl ?_|(with_reducible refine av.aF (fun h =>?_) (fun h =>?_) <;>try simp only[h])) <;>try simp only[aH,R,simprocAttr])
  all_goals clear R
  refine ⟨i+1,⟨by omega,h4⟩,by omega,?_⟩;clear h2 h3 h4 hok;refine bC.cO ?_ ?_ ?_ ?_ <;>simp[cm,cv,ct,bW,cj,I.only,bI]
 ·have hlc:=fH hlt;have hge:i=t.length:=by omega
  rw[hge,List.take_length] at hok;rw[hok];have R:=y6 @hl (y6 @hlc (y6 @bm aC))
  repeat' ((first |(with_reducible refine .guard (fun hb =>?_) (fun hb =>?_) <;>try simp only[hb])|refine U.aG (by decide +kernel) rfl fun K hK =>?_|(refine .aE [0,2,3,6,10,28] hK ?_;clear hK K)|(with_reducible refine .done (hK _ ?_);clear hK K)|refine U.of rfl ?_|(with_reducible refine av.aF (fun h =>?_) (fun h =>?_) <;>try simp only[h])) <;>try simp only[aH,R,simprocAttr])
  all_goals clear R
  all_goals rfl
def oi(r:ah):Bool:=(r.dW==0)&&(decide (r.text=[])&&(iu r.fW&&((r.e9==r.aO)&&decide (r.fo<r.no))))
def fY(r:ah):Bool:=iu r.bg&&(ee 0 40 r.kind&&(ee 0 100000 r.dW&&(ee 0 100000 r.known&&gG r.text)))
def bd(r:ah):Bool:=fY r&&(if r.kind=0 then oi r else decide (r.fW=⟨0,0⟩))
theorem ij:(I.aj ⟨#[]⟩)=enc (al.of []):=rfl
theorem pc:(I.agg [.int .i64 0,.int .i64 0])=enc (⟨0,0⟩:Item):=rfl
theorem jQ(a b:List UInt8):bF .eql (enc (al.of a)) (enc (al.of b))=some (.bool (decide (a=b))):=by rw[wc];simp only[al.sr]
theorem gK(a b:List UInt8):bF .neq (enc (al.of a)) (enc (al.of b))=some (.bool (!decide (a=b))):=by rw[we];simp only[al.sr]
theorem oK(r:ah):aR Tryz.prog 80 [enc r] (enc (bd r)):=by
 refine aR.bK Tryz.func80 HN I1 Kk (t8 rfl) (fun hwf W0 bB E1 =>?_);simp only[c80,CZ,bA];clear hwf;have f1:=wU r.bg;have f2:=me r.kind 0 40;have f3:=wS r.dW;have f4:=wS r.known;have f5:=EU r.text;have f6:=wU r.fW;cases q1:iu r.bg
 ·rw[q1] at f1;rw[show bd r=false by simp only[bd,fY,q1,Bool.false_and]];have R:=y6 @q1 (y6 @bm aC)
  repeat' ((first |(with_reducible refine .guard (fun hb =>?_) (fun hb =>?_) <;>try simp only[hb])|refine U.aG (by decide +kernel) rfl fun K hK =>?_|refine .flat _ (f1) rfl ?_|refine .flat _ (f2) rfl ?_|refine .flat _ (f3) rfl ?_|refine .flat _ (f4) rfl ?_|refine .flat _ (f5) rfl ?_|(refine .aE [0,1,2,30,33] hK ?_;clear hK K)|(with_reducible refine .done (hK _ ?_);clear hK K)|refine U.of rfl ?_|(with_reducible refine av.aF (fun h =>?_) (fun h =>?_) <;>try simp only[h])) <;>try simp only[aH,R,simprocAttr])
  all_goals clear R
  all_goals rfl
 rw[q1] at f1;cases q2:ee 0 40 r.kind
 ·rw[q2] at f2;rw[show bd r=false by simp only[bd,fY,q1,q2,Bool.false_and,Bool.and_false]];have R:=y6 @bm aC
  repeat' ((first |(with_reducible refine .guard (fun hb =>?_) (fun hb =>?_) <;>try simp only[hb])|refine U.aG (by decide +kernel) rfl fun K hK =>?_|refine .flat _ (f1) rfl ?_|refine .flat _ (f2) rfl ?_|refine .flat _ (f3) rfl ?_|refine .flat _ (f4) rfl ?_|refine .flat _ (f5) rfl ?_|(refine .aE [0,1,2,30,33] hK ?_;clear hK K)|(with_reducible refine .done (hK _ ?_);clear hK K)|refine U.of rfl ?_|(with_reducible refine av.aF (fun h =>?_) (fun h =>?_) <;>try simp only[h])) <;>try simp only[aH,R,simprocAttr])
  all_goals clear R
  all_goals rfl
 rw[q2] at f2;cases q3:ee 0 100000 r.dW
 ·rw[q3] at f3;rw[show bd r=false by simp only[bd,fY,q1,q2,q3,Bool.false_and,Bool.and_false]];have R:=y6 @bm aC
  repeat' ((first |(with_reducible refine .guard (fun hb =>?_) (fun hb =>?_) <;>try simp only[hb])|refine U.aG (by decide +kernel) rfl fun K hK =>?_|refine .flat _ (f1) rfl ?_|refine .flat _ (f2) rfl ?_|refine .flat _ (f3) rfl ?_|refine .flat _ (f4) rfl ?_|refine .flat _ (f5) rfl ?_|(refine .aE [0,1,2,30,33] hK ?_;clear hK K)|(with_reducible refine .done (hK _ ?_);clear hK K)|refine U.of rfl ?_|(with_reducible refine av.aF (fun h =>?_) (fun h =>?_) <;>try simp only[h])) <;>try simp only[aH,R,simprocAttr])
  all_goals clear R
  all_goals rfl
 rw[q3] at f3;cases q4:ee 0 100000 r.known
 ·rw[q4] at f4;rw[show bd r=false by simp only[bd,fY,q1,q2,q3,q4,Bool.false_and,Bool.and_false]];have R:=y6 @bm aC
  repeat' ((first |(with_reducible refine .guard (fun hb =>?_) (fun hb =>?_) <;>try simp only[hb])|refine U.aG (by decide +kernel) rfl fun K hK =>?_|refine .flat _ (f1) rfl ?_|refine .flat _ (f2) rfl ?_|refine .flat _ (f3) rfl ?_|refine .flat _ (f4) rfl ?_|refine .flat _ (f5) rfl ?_|(refine .aE [0,1,2,30,33] hK ?_;clear hK K)|(with_reducible refine .done (hK _ ?_);clear hK K)|refine U.of rfl ?_|(with_reducible refine av.aF (fun h =>?_) (fun h =>?_) <;>try simp only[h])) <;>try simp only[aH,R,simprocAttr])
  all_goals clear R
  all_goals rfl
 rw[q4] at f4;cases q5:gG r.text
 ·rw[q5] at f5;rw[show bd r=false by simp only[bd,fY,q1,q2,q3,q4,q5,Bool.false_and,Bool.and_false]];have R:=y6 @bm aC
  repeat' ((first |(with_reducible refine .guard (fun hb =>?_) (fun hb =>?_) <;>try simp only[hb])|refine U.aG (by decide +kernel) rfl fun K hK =>?_|refine .flat _ (f1) rfl ?_|refine .flat _ (f2) rfl ?_|refine .flat _ (f3) rfl ?_|refine .flat _ (f4) rfl ?_|refine .flat _ (f5) rfl ?_|(refine .aE [0,1,2,30,33] hK ?_;clear hK K)|(with_reducible refine .done (hK _ ?_);clear hK K)|refine U.of rfl ?_|(with_reducible refine av.aF (fun h =>?_) (fun h =>?_) <;>try simp only[h])) <;>try simp only[aH,R,simprocAttr])
  all_goals clear R
  all_goals rfl
 rw[q5] at f5;have hH:fY r=true:=by simp only[fY,q1,q2,q3,q4,q5,Bool.and_self]
 cases k:(r.kind==0)
 ·rw[show bd r=decide (r.fW=⟨0,0⟩) by simp only[bd,hH,Bool.true_and];rw[if_neg (by simpa using k)]];have R:=y6 @k (y6 @pc (y6 @bm aC))
  repeat' ((first |(with_reducible refine .guard (fun hb =>?_) (fun hb =>?_) <;>try simp only[hb])|refine U.aG (by decide +kernel) rfl fun K hK =>?_|refine .flat _ (f1) rfl ?_|refine .flat _ (f2) rfl ?_|refine .flat _ (f3) rfl ?_|refine .flat _ (f4) rfl ?_|refine .flat _ (f5) rfl ?_|(refine .aE [0,1,2,30,33] hK ?_;clear hK K)|(with_reducible refine .done (hK _ ?_);clear hK K)|refine U.of rfl ?_|(with_reducible refine av.aF (fun h =>?_) (fun h =>?_) <;>try simp only[h])) <;>try simp only[aH,R,simprocAttr])
  all_goals clear R
  all_goals rfl
 rw[show bd r=oi r by simp only[bd,hH,Bool.true_and];rw[if_pos (by simpa using k)]];simp only[oi];cases w1:(r.dW==0)
 ·have R:=y6 @k (y6 @w1 (y6 @ij (y6 @jQ (y6 @bm aC))))
  repeat' ((first |(with_reducible refine .guard (fun hb =>?_) (fun hb =>?_) <;>try simp only[hb])|refine U.aG (by decide +kernel) rfl fun K hK =>?_|refine .flat _ (f1) rfl ?_|refine .flat _ (f2) rfl ?_|refine .flat _ (f3) rfl ?_|refine .flat _ (f4) rfl ?_|refine .flat _ (f5) rfl ?_|refine .flat _ (f6) rfl ?_|(refine .aE [0,1,2,30,33] hK ?_;clear hK K)|(with_reducible refine .done (hK _ ?_);clear hK K)|refine U.of rfl ?_|(with_reducible refine av.aF (fun h =>?_) (fun h =>?_) <;>try simp only[h])) <;>try simp only[aH,R,simprocAttr])
  all_goals clear R
  all_goals rfl
 cases w2:decide (r.text=[])
 ·have R:=y6 @k (y6 @w1 (y6 @w2 (y6 @ij (y6 @jQ (y6 @bm aC)))))
  repeat' ((first |(with_reducible refine .guard (fun hb =>?_) (fun hb =>?_) <;>try simp only[hb])|refine U.aG (by decide +kernel) rfl fun K hK =>?_|refine .flat _ (f1) rfl ?_|refine .flat _ (f2) rfl ?_|refine .flat _ (f3) rfl ?_|refine .flat _ (f4) rfl ?_|refine .flat _ (f5) rfl ?_|refine .flat _ (f6) rfl ?_|(refine .aE [0,1,2,30,33] hK ?_;clear hK K)|(with_reducible refine .done (hK _ ?_);clear hK K)|refine U.of rfl ?_|(with_reducible refine av.aF (fun h =>?_) (fun h =>?_) <;>try simp only[h])) <;>try simp only[aH,R,simprocAttr])
  all_goals clear R
  all_goals rfl
 cases w3:iu r.fW
 ·rw[w3] at f6;have R:=y6 @k (y6 @w1 (y6 @w2 (y6 @ij (y6 @jQ (y6 @bm aC)))))
  repeat' ((first |(with_reducible refine .guard (fun hb =>?_) (fun hb =>?_) <;>try simp only[hb])|refine U.aG (by decide +kernel) rfl fun K hK =>?_|refine .flat _ (f1) rfl ?_|refine .flat _ (f2) rfl ?_|refine .flat _ (f3) rfl ?_|refine .flat _ (f4) rfl ?_|refine .flat _ (f5) rfl ?_|refine .flat _ (f6) rfl ?_|(refine .aE [0,1,2,30,33] hK ?_;clear hK K)|(with_reducible refine .done (hK _ ?_);clear hK K)|refine U.of rfl ?_|(with_reducible refine av.aF (fun h =>?_) (fun h =>?_) <;>try simp only[h])) <;>try simp only[aH,R,simprocAttr])
  all_goals clear R
  all_goals rfl
 rw[w3] at f6;cases w4:(r.e9==r.aO)
 ·have R:=y6 @k (y6 @w1 (y6 @w2 (y6 @w4 (y6 @ij (y6 @jQ (y6 @bm aC))))))
  repeat' ((first |(with_reducible refine .guard (fun hb =>?_) (fun hb =>?_) <;>try simp only[hb])|refine U.aG (by decide +kernel) rfl fun K hK =>?_|refine .flat _ (f1) rfl ?_|refine .flat _ (f2) rfl ?_|refine .flat _ (f3) rfl ?_|refine .flat _ (f4) rfl ?_|refine .flat _ (f5) rfl ?_|refine .flat _ (f6) rfl ?_|(refine .aE [0,1,2,30,33] hK ?_;clear hK K)|(with_reducible refine .done (hK _ ?_);clear hK K)|refine U.of rfl ?_|(with_reducible refine av.aF (fun h =>?_) (fun h =>?_) <;>try simp only[h])) <;>try simp only[aH,R,simprocAttr])
  all_goals clear R
  all_goals rfl
 have R:=y6 @k (y6 @w1 (y6 @w2 (y6 @w4 (y6 @ij (y6 @jQ (y6 @bm aC))))))
 repeat' ((first |(with_reducible refine .guard (fun hb =>?_) (fun hb =>?_) <;>try simp only[hb])|refine U.aG (by decide +kernel) rfl fun K hK =>?_|refine .flat _ (f1) rfl ?_|refine .flat _ (f2) rfl ?_|refine .flat _ (f3) rfl ?_|refine .flat _ (f4) rfl ?_|refine .flat _ (f5) rfl ?_|refine .flat _ (f6) rfl ?_|(refine .aE [0,1,2,30,33] hK ?_;clear hK K)|(with_reducible refine .done (hK _ ?_);clear hK K)|refine U.of rfl ?_|(with_reducible refine av.aF (fun h =>?_) (fun h =>?_) <;>try simp only[h])) <;>try simp only[aH,R,simprocAttr])
 all_goals clear R
 all_goals rfl
def iH(r:ah):Int:=if bd r=true then 0 else 80
def dF(t:List UInt8):List (List UInt8):=(jc 10 true t).dropLast
theorem Bh{t:List UInt8}(h:∀ b∈t,b≠10):dF t=[]:=by rw[dF,zu h];rfl
theorem Vn{x:List UInt8}(y:List UInt8)(h:∀ b∈x,b≠10):dF (x++10::y)=(x++[10])::dF y:=by
 rw[dF,zt y h,if_pos rfl,List.dropLast_cons_of_ne_nil (KF 10 true y)];rfl
def iQ(cg:Int→List UInt8→Option (ah×Int))(nx:List ah→ah→Bool):List ah→Int→Nat→List (List UInt8)→List ah×Nat
 |out,_,size,[]=>(out,size)
 |out,s,size,x::t=>match cg s x with
  |none=>(out,size)
  |some q=>if nx out q.1=true then iQ cg nx (out++[q.1]) q.2 (size+x.length) t else (out,size)
def dZ:Int→List ah→List UInt8
 |_,[]=>[]
 |s,r::l=>dy s r++dZ (du s (da r)) l
def dR:Int→List ah→Int
 |s,[]=>s
 |s,r::l=>dR (du s (da r)) l
theorem Ey:∀ (a b:List ah) (s:Int),dZ s (a++b)=dZ s a++dZ (dR s a) b
 | [],_,_=>rfl
 |r::a,b,s=>by simp only[Y3,dZ,dR,Ey a b,Z8]
theorem Es:∀ (a b:List ah) (s:Int),dR s (a++b)=dR (dR s a) b
 | [],_,_=>rfl
 |r::a,b,s=>by simp only[Y3,dR,Es a b]
theorem Et:∀ (a:List ah) {s:Int},0≤s∧s<1000003→0≤dR s a∧dR s a<1000003
 | [],_,h=>h
 |_::a,_,h=>Et a (oB h _)
theorem tf(a:List ah)(r:ah)(s:Int):dZ s (a++[r])=dZ s a++dy (dR s a) r∧dR s (a++[r])=du (dR s a) (da r):=by
 rw[Ey,Es];simp only[dZ,dR,List.append_nil,and_self]
def eH(ok:ah→Bool)(nx:List ah→ah→Bool):List ah→List ah→Prop
 |_,[]=>True
 |out,r::l=>ok r=true∧nx out r=true∧eH ok nx (out++[r]) l
def jo(ok:ah→Bool)(nx:List ah→ah→Bool)(t:List UInt8):List ah×List UInt8:=((iQ (dY ok) nx [] 1 0 (dF t)).1,t.take (iQ (dY ok) nx [] 1 0 (dF t)).2)
def sB(ok:ah→Bool)(nx:List ah→ah→Bool)(a b:List UInt8):List ah×List UInt8 :=
 if (jo ok nx a).1.length<(jo ok nx b).1.length then jo ok nx b else jo ok nx a
def dm(l:List ah)(m:Int):Nat:=l.countP fun r=>decide (r.aO=m)
def dk(a b:ah):Bool:=decide (a.aO<b.aO∨(a.aO=b.aO∧a.no<b.no))
def ib(l:List ah)(r:ah):Bool:=match l.getLast? with
 |none=>decide ((r.aO=-1∧r.no=1)∨(-1<r.aO∧r.no=0))
 |some a=>decide ((r.aO=a.aO∧r.no=a.no+1)∨(a.aO<r.aO∧r.no=0))
def lC(l:List ah)(r:ah):Bool:=(match l.getLast? with
 |none=>true
 |some a=>dk a r)&&decide ((dm l r.aO:Int)=r.no)
def eR(aV:List ah→ah→Bool):List ah→List ah→Bool
 |_,[]=>true
 |out,r::l=>aV out r&&eR aV (out++[r]) l
def nw(l:List ah):Prop:=match l.getLast? with
 |none=>True
 |some a=>(dm l a.aO:Int)=a.no+1∧∀ m,a.aO<m→dm l m=0
theorem nH(l:List ah)(r:ah)(m:Int):dm (l++[r]) m=dm l m+if r.aO=m then 1 else 0:=by
 rw[dm,List.countP_append,←dm,List.countP_cons,List.countP_nil];simp
theorem En{l:List ah}(h:nw l){r:ah}(hr:0≤r.aO∧0≤r.no):ib l r=lC l r∧(ib l r=true→nw (l++[r])):=by
 rw[nw] at h;have hl:(l++[r]).getLast?=some r:=by rw[List.getLast?_append];rfl
 rw[nw,hl,ib,lC];cases e:l.getLast? with
 |none =>
  have hnil:l=[]:=List.getLast?_eq_none_iff.1 e;subst hnil;have c0:∀ m,dm [] m=0:=fun _=>rfl;have c1:=c0 r.aO;simp only[Bool.true_and];refine ⟨?_,?_⟩
  ·rw[Bool.eq_iff_iff,decide_eq_true_iff,decide_eq_true_iff];constructor
   ·intro h;rcases h with h | h <;>omega
   ·intro h;right;omega
  ·intro h;rw[decide_eq_true_eq] at h;refine ⟨by rw[nH,if_pos rfl];omega,fun m hm =>?_⟩;rw[nH,if_neg (by omega),c0]
 |some a =>
  rw[e] at h;obtain ⟨h1,h2⟩:=h;simp only;refine ⟨?_,?_⟩
  ·rw[dk,Bool.eq_iff_iff,Z0,decide_eq_true_eq,decide_eq_true_eq,decide_eq_true_eq];rcases Int.lt_trichotomy a.aO r.aO with c | c | c
   ·have:=h2 r.aO c;constructor
    ·intro k;exact ⟨.inl c,by omega⟩
    ·intro k;right;omega
   ·rw[←c];constructor
    ·intro k;exact ⟨.inr ⟨rfl,by omega⟩,by omega⟩
    ·intro k;left;omega
   ·constructor
    ·intro k;omega
    ·intro k;omega
  ·intro k;rw[decide_eq_true_eq] at k;rw[nH,if_pos rfl];refine ⟨?_,fun m hm =>?_⟩
   ·rcases k with k | k
    ·rw[k.1];omega
    ·have:=h2 r.aO k.1;omega
   ·rw[nH,if_neg (by omega),h2 m (by omega)]
theorem xp:∀ (l out:List ah),nw out→(∀ r∈l,0≤r.aO∧0≤r.no)→eR ib out l=eR lC out l
 | [],_,_,_=>rfl
 |r::l,out,h,hr=>by
  obtain ⟨e,k⟩:=En h (hr r (by simp));simp only[eR,←e];cases hs:ib out r with
  |false=>rfl
  |true=>rw[xp l (out++[r]) (k hs) fun x hx=>hr x (by simp[hx])]
theorem xJ{l:List ah}(hr:∀ r∈l,0≤r.aO∧0≤r.no):eR ib [] l=eR lC [] l:=xp l [] trivial hr
theorem xL:∀ (l out:List ah),nw out→(∀ r∈l,0≤r.aO∧0≤r.no)→eR ib out l=true→out.Pairwise (fun a b=>dk a b=true)→(out++l).Pairwise (fun a b=>dk a b=true)
 | [],out,_,_,_,h=>by simpa using h
 |r::l,out,h,hr,hb,hp=>by
  simp only[eR,Z0] at hb;obtain ⟨e,k⟩:=En h (hr r (by simp));have:=xL l (out++[r]) (k hb.1) (fun x hx=>hr x (by simp[hx])) hb.2 (by
   rw[List.pairwise_append];refine ⟨hp,by simp,fun a ha b hb' =>?_⟩;rw[zy2.1 hb'];have hs:=hb.1;rw[e,lC,Z0] at hs;have hne:out≠[]:=fun k=>by rw[k] at ha;cases ha
   have hlast:=List.getLast?_eq_some_getLast hne;rw[hlast] at hs;have h1:=hs.1;have hcat:=List.dropLast_concat_getLast hne;rw[←hcat] at ha hp;rcases zz7.1 ha with ha | ha
   ·have h2:=(List.pairwise_append.1 hp).2.2 a ha _ (zy2.2 rfl);simp only[dk,decide_eq_true_eq] at h1 h2 ⊢;omega
   ·rw[zy2.1 ha];exact h1)
  rwa [Z8,List.singleton_append] at this
def c8(out:List ah)(r:ah):Bool:=decide (out.length<60)&&decide ((dm out r.aO:Int)=r.no)
def kK(l:List ah)(r:ah):Nat:=l.countP fun q=>decide (q.aO=r.aO∧q.no<r.no)
structure gN (l:List ah):Prop where
 lt:∀ r∈l,0≤r.no∧r.no<dm l r.aO
 bg:∀ r∈l,(kK l r:Int)=r.no
theorem gN.nil:gN []:=⟨by simp,by simp⟩
theorem gN.Ec{l:List ah}(h:gN l){r:ah}(hn:(dm l r.aO:Int)=r.no):gN (l++[r]):=by
 have ha:∀ q,kK (l++[r]) q=kK l q+if r.aO=q.aO∧r.no<q.no then 1 else 0:=fun q=>by
  rw[kK,List.countP_append,←kK,List.countP_cons,List.countP_nil];simp
 refine ⟨fun q hq =>?_,fun q hq =>?_⟩
 ·rw[nH];rcases zz7.1 hq with hq | hq
  ·have:=h.lt q hq;split <;>omega
  ·rw[zy2.1 hq,if_pos rfl];omega
 ·rw[ha];rcases zz7.1 hq with hq | hq
  ·rw[if_neg,Nat.add_zero]
   ·exact h.bg q hq
   ·rintro ⟨k1,k2⟩;have:=(h.lt q hq).2;rw[←k1] at this;omega
  ·rw[zy2.1 hq,if_neg (by omega),Nat.add_zero,←hn,kK,dm]
   congr 1
   refine List.countP_congr fun x hx =>?_;rw[decide_eq_true_eq,decide_eq_true_eq];constructor
   ·exact fun k=>k.1
   ·intro k;refine ⟨k,?_⟩;have:=(h.lt x hx).2;rw[k] at this;omega
theorem eH.Bz{ok:ah→Bool} : ∀ {l out:List ah},gN out→eH ok c8 out l→gN (out++l)
 | [],out,h,_=>by simpa using h
 |r::l,out,h,hw=>by
  have hn:=hw.2.1;simp only[c8,Z0,decide_eq_true_eq] at hn;have:=eH.Bz (h.Ec hn.2) hw.2.2
  rwa [Z8,List.singleton_append] at this
theorem eH.len{ok:ah→Bool} : ∀ {l out:List ah},out.length≤60→eH ok c8 out l→out.length+l.length≤60
 | [],out,h,_=>by simpa using h
 |r::l,out,h,hw=>by
  have hn:=hw.2.1;simp only[c8,Z0,decide_eq_true_eq] at hn;have:=eH.len (out:=out++[r]) (by simp;omega) hw.2.2;simp only[Z1,zy1,zz8] at this ⊢;omega
theorem xK:∀ (b a l:List ah),l=a++b→l.Pairwise (fun x y=>dk x y=true)→gN l→eR lC a b=true
 | [],_,_,_,_,_=>rfl
 |r::b,a,l,e,hs,hn=>by
  subst e;have ih:=xK b (a++[r]) (a++r::b) (by simp) hs hn;have hp:=List.pairwise_append.1 hs;have hb:=List.pairwise_cons.1 hp.2.1;have hat:=hn.bg r (by simp);have hc:kK (a++r::b) r=dm a r.aO:=by
   rw[kK,List.countP_append,List.countP_cons,dm];have e1:a.countP (fun q=>decide (q.aO=r.aO∧q.no<r.no))=a.countP (fun q=>decide (q.aO=r.aO)):=by
    refine List.countP_congr fun x hx =>?_;rw[decide_eq_true_eq,decide_eq_true_eq];have:=hp.2.2 x hx r (by simp);simp only[dk,decide_eq_true_eq] at this;constructor
    ·exact fun k=>k.1
    ·intro k;exact ⟨k,by omega⟩
   have e2:b.countP (fun q=>decide (q.aO=r.aO∧q.no<r.no))=0:=by
    refine List.countP_eq_zero.2 fun x hx =>?_;rw[decide_eq_true_eq];have:=hb.1 x hx;simp only[dk,decide_eq_true_eq] at this;omega
   rw[e1,e2];simp
  rw[eR,ih,Bool.and_true,lC,Z0,decide_eq_true_eq];refine ⟨?_,by rw[←hc];exact hat⟩;cases hl:a.getLast? with
  |none=>rfl
  |some x =>
   have hx:x∈a:=List.mem_of_getLast? hl;exact hp.2.2 x hx r (by simp)
theorem gN.WO{l s:List ah}(h:gN l)(p:s.Perm l):gN s :=
 ⟨fun r hr=>by rw[dm,p.countP_eq];exact h.lt r (p.mem_iff.1 hr),fun r hr=>by rw[kK,p.countP_eq];exact h.bg r (p.mem_iff.1 hr)⟩
theorem eH.inj{ok:ah→Bool} : ∀ {l out:List ah},gN out→eH ok c8 out l→out.Pairwise (fun x y=>¬ (x.aO=y.aO∧x.no=y.no))→(out++l).Pairwise (fun x y=>¬ (x.aO=y.aO∧x.no=y.no))
 | [],out,_,_,hp=>by simpa using hp
 |r::l,out,h,hw,hp=>by
  have hn:=hw.2.1;simp only[c8,Z0,decide_eq_true_eq] at hn;have:=eH.inj (h.Ec hn.2) hw.2.2 (by
   rw[List.pairwise_append];refine ⟨hp,by simp,fun x hx y hy k =>?_⟩;rw[zy2.1 hy] at k;have:=(h.lt x hx).2;rw[k.1] at this;omega)
  rwa [Z8,List.singleton_append] at this
theorem X4{ok:ah→Bool}{l s:List ah}(hw:eH ok c8 [] l)(p:s.Perm l)(hs:s.Pairwise (fun x y=>dk x y=true)):eR lC [] s=true∧s.length≤60:=by
 have hn:=eH.Bz gN.nil hw;have hl:=eH.len (zy9 _) hw;rw[Y6] at hn;simp only[zz8,Z4] at hl;exact ⟨xK s [] s rfl hs (hn.WO p),by rw[p.length_eq];exact hl⟩
def hE(x r:ah):Bool:=decide (r.aO=x.aO∧r.no=x.no)
def lJ(ok:ah→Bool)(w s:List ah)(x:ah)(e1 e2 e3 e4:Int):Bool×Int :=
 if x∈w then (false,0) else if ok x=false then (false,e1) else if s.any (hE x)=true then (false,e2)
 else if (dm s x.aO:Int)<x.no then (false,e3) else if s.length=60 then (false,e4) else (true,0)
def iY(ok:ah→Bool)(w:List ah)(x:ah)(e1 e2 e3 e4:Int):Bool×Int :=
 if ok x=false then (false,e1) else match w.find? (hE x) with
  |some r=>if r=x then (false,0) else (false,e2)
  |none=>if x.no>(dm w x.aO:Int) then (false,e3) else if w.length=60 then (false,e4) else (true,0)
theorem eH.ok{ok:ah→Bool}{nx:List ah→ah→Bool} : ∀ {l out:List ah},eH ok nx out l→∀ r∈l,ok r=true
 | [],_,_,r,h=>by cases h
 |_::_,_,hw,r,h=>by
  rcases zy0.1 h with rfl | h
  ·exact hw.1
  ·exact eH.ok hw.2.2 r h
theorem WM{l:List ah}(h:l.Pairwise (fun x y=>¬ (x.aO=y.aO∧x.no=y.no))){a b:ah}(ha:a∈l)(hb:b∈l)(e:a.aO=b.aO∧a.no=b.no):a=b:=by
 obtain ⟨i,hi,rfl⟩:=List.getElem_of_mem ha;obtain ⟨j,hj,rfl⟩:=List.getElem_of_mem hb;rcases Nat.lt_trichotomy i j with c | c | c
 ·exact absurd e (List.pairwise_iff_getElem.1 h i j hi hj c)
 ·subst c;rfl
 ·exact absurd ⟨e.1.symm,e.2.symm⟩ (List.pairwise_iff_getElem.1 h j i hj hi c)
theorem FR{ok:ah→Bool}{w s:List ah}(hw:eH ok c8 [] w)(p:s.Perm w)(x:ah)(e1 e2 e3 e4:Int):lJ ok w s x e1 e2 e3 e4=iY ok w x e1 e2 e3 e4:=by
 have hp:=eH.inj gN.nil hw List.Pairwise.nil;rw[Y6] at hp;have hany:s.any (hE x)=w.any (hE x):=by
  rw[Bool.eq_iff_iff,List.any_eq_true,List.any_eq_true];constructor
  ·rintro ⟨r,h1,h2⟩;exact ⟨r,p.mem_iff.1 h1,h2⟩
  ·rintro ⟨r,h1,h2⟩;exact ⟨r,p.mem_iff.2 h1,h2⟩
 have hcnt:dm s x.aO=dm w x.aO:=by rw[dm,p.countP_eq];rfl
 rw[lJ,iY,hany,hcnt,p.length_eq];by_cases hx:x∈w
 ·have ho:=eH.ok hw x hx;rw[if_pos hx,ho,if_neg (by simp)];cases hf:w.find? (hE x) with
  |none=>exact absurd (List.find?_eq_none.1 hf x hx) (by simp[hE])
  |some r =>
   have h1:=List.find?_some hf;simp only[hE,decide_eq_true_eq] at h1;have:=WM hp (List.mem_of_find?_eq_some hf) hx h1;simp only[this,if_true]
 ·rw[if_neg hx];by_cases ho:ok x=false
  ·rw[if_pos ho,if_pos ho]
  ·rw[if_neg ho,if_neg ho];cases hf:w.find? (hE x) with
   |none =>
    have:w.any (hE x)=false:=by
     rw[List.any_eq_false];exact List.find?_eq_none.1 hf
    rw[this,if_neg (by simp)]
   |some r =>
    have hr:=List.mem_of_find?_eq_some hf;have:w.any (hE x)=true:=List.any_eq_true.2 ⟨r,hr,List.find?_some hf⟩;rw[this,if_pos rfl];have hne:r≠x:=fun k=>hx (k▸hr);simp only[if_neg hne]
theorem Gn{a b:ah}(h:dk a b=true)(k:dk b a=true):False:=by
 simp only[dk,decide_eq_true_eq] at h k;omega
theorem xF{a b c:ah}(h:dk a b=true)(k:dk b c=true):dk a c=true:=by
 simp only[dk,decide_eq_true_eq] at h k ⊢;omega
theorem Ek:∀ {a b:List ah},a.Pairwise (fun x y=>dk x y=true)→b.Pairwise (fun x y=>dk x y=true)→a.Perm b→a=b
 | [],b,_,_,p=>(List.nil_perm.1 p).symm
 |x::a,[],_,_,p=>absurd (List.perm_nil.1 p) (by simp)
 |x::a,y::b,ha,hb,p=>by
  obtain ⟨h1,h2⟩:=List.pairwise_cons.1 ha;obtain ⟨k1,k2⟩:=List.pairwise_cons.1 hb;by_cases e:x=y
  ·subst e;rw[Ek h2 k2 ((List.perm_cons x).1 p)]
  ·have hx:x∈b:=by
    rcases zy0.1 (p.mem_iff.1 (List.mem_cons_self (a:=x) (l:=a))) with h | h
    ·exact absurd h e
    ·exact h
   have hy:y∈a:=by
    rcases zy0.1 (p.mem_iff.2 (List.mem_cons_self (a:=y) (l:=b))) with h | h
    ·exact absurd h.symm e
    ·exact h
   exact (Gn (h1 y hy) (k1 x hx)).elim
def jn(l:List ah)(r:ah):List ah:=l.takeWhile (fun q=>dk q r)++r::l.dropWhile (fun q=>dk q r)
theorem Cc(l:List ah)(r:ah):(jn l r).Perm (r::l):=by
 have:=List.takeWhile_append_dropWhile (p:=fun q=>dk q r) (l:=l);refine List.perm_middle.trans ?_;rw[this]
theorem Xd{l:List ah}{r:ah}(h:l.Pairwise (fun x y=>dk x y=true))(hr:∀ q∈l,¬ (q.aO=r.aO∧q.no=r.no)):(jn l r).Pairwise (fun x y=>dk x y=true):=by
 induction l with
 |nil=>simp[jn]
 |cons q l ih =>
  obtain ⟨h1,h2⟩:=List.pairwise_cons.1 h;have ih:=ih h2 fun x hx=>hr x (by simp[hx]);by_cases c:dk q r=true
  ·have e:jn (q::l) r=q::jn l r:=by simp[jn,c]
   rw[e,List.pairwise_cons];refine ⟨fun x hx =>?_,ih⟩;rcases zy0.1 ((Cc l r).mem_iff.1 hx) with rfl | hx
   ·exact c
   ·exact h1 x hx
  ·have e:jn (q::l) r=r::q::l:=by simp[jn,c]
   have hq:=hr q (by simp);have hrq:dk r q=true:=by
    simp only[dk,decide_eq_true_eq] at c ⊢;omega
   rw[e,List.pairwise_cons];refine ⟨fun x hx =>?_,h⟩;rcases zy0.1 hx with rfl | hx
   ·exact hrq
   ·exact xF hrq (h1 x hx)
def eK(l:List ah):List ah:=l.foldl jn []
theorem Ee:∀ (l out:List ah),(out++l).Pairwise (fun x y=>¬ (x.aO=y.aO∧x.no=y.no))→∀ s:List ah,s.Perm out→s.Pairwise (fun x y=>dk x y=true) →
  (l.foldl jn s).Perm (out++l)∧(l.foldl jn s).Pairwise (fun x y=>dk x y=true)
 | [],out,_,s,p,hs=>by simpa using ⟨p,hs⟩
 |r::l,out,hp,s,p,hs=>by
  have hq:∀ q∈s,¬ (q.aO=r.aO∧q.no=r.no):=fun q hq=>(List.pairwise_append.1 hp).2.2 q (p.mem_iff.1 hq) r (by simp);have e:out++r::l=(out++[r])++l:=by simp
  rw[e] at hp ⊢;rw[List.foldl_cons];refine Ee l (out++[r]) hp (jn s r) ?_ (Xd hs hq);exact (Cc s r).trans ((List.Perm.cons r p).trans (List.perm_append_singleton r out).symm)
theorem oA{l:List ah}(hp:l.Pairwise (fun x y=>¬ (x.aO=y.aO∧x.no=y.no))):(eK l).Perm l∧(eK l).Pairwise (fun x y=>dk x y=true):=by
 have:=Ee l [] (by simpa using hp) [] (List.Perm.refl _) List.Pairwise.nil
 rwa [Y6] at this
theorem X3{l s:List ah}(hp:l.Pairwise (fun x y=>¬ (x.aO=y.aO∧x.no=y.no)))(p:s.Perm l)(hs:s.Pairwise (fun x y=>dk x y=true)):s=eK l :=
 Ek hs (oA hp).2 (p.trans (oA hp).1.symm)
theorem rK{lo hi n:Int} : ee lo hi n=true↔lo≤n∧n≤hi:=by simp[ee]
theorem BK{x:Item} : iu x=true↔(0≤x.aO∧x.aO≤5)∧0≤x.no∧x.no≤9999:=by simp[iu,rK]
theorem pS{r:ah}(h:bd r=true):fY r=true:=by
 simp only[bd,Z0] at h;exact h.1
theorem pR{r:ah}(h:fY r=true):(0≤r.aO∧r.aO≤5)∧(0≤r.no∧r.no≤9999)∧(0≤r.kind∧r.kind≤40)∧(0≤r.dW∧r.dW≤100000)∧(0≤r.known∧r.known≤100000)∧gG r.text=true:=by
 simp only[fY,BK,rK,Z0] at h;exact ⟨h.1.1,h.1.2,h.2.1,h.2.2.1,h.2.2.2.1,h.2.2.2.2⟩
theorem Wu{r:ah}(h:bd r=true):(0≤r.e9∧r.e9≤5)∧(0≤r.fo∧r.fo≤9999):=by
 simp only[bd,Z0] at h;obtain ⟨_,h⟩:=h;split at h
 ·simp only[oi,BK,Z0] at h;exact h.2.2.1
 ·simp only[decide_eq_true_eq,ah.fW,Item.mk.injEq] at h;omega
theorem sv{r:ah}(h:bd r=true):∀ n∈eD r,0≤n∧n<100000000:=by
 obtain ⟨a1,a2,a3,a4,a5,_⟩:=pR (pS h);obtain ⟨a6,a7⟩:=Wu h;intro n hn;simp only[eD,zy0,List.not_mem_nil,or_false] at hn;rcases hn with rfl | rfl | rfl | rfl | rfl | rfl | rfl <;>omega
theorem Wz{t:List UInt8}(h:gG t=true):t.length≤160:=by
 simp only[gG,Z0,decide_eq_true_eq] at h;exact h.1
theorem sw{r:ah}(h:bd r=true):r.text.length≤160:=Wz (pR (pS h)).2.2.2.2.2
theorem w7(r:ah):aR Tryz.prog 34 [enc r] (enc (iH r)):=by
 refine aR.bK Tryz.func34 Hx IL J5 (t8 rfl) (fun hwf W0 bB E1 =>?_);simp only[yx,CL,bA];clear hwf;have f1:=xe r.bg;have f2:=mg r.kind 0 40;have f3:=mg r.dW 0 100000;have f4:=mg r.known 0 100000;have f5:=Fu r.text;have f6:=xe r.fW;have no:bd r=false→iH r=80:=fun h=>by simp[iH,h]
 have ye:bd r=true→iH r=0:=fun h=>by simp[iH,h]
 cases q1:iu r.bg
 ·rw[q1] at f1;rw[no (by simp only[bd,fY,q1,Bool.false_and])];have R:=y6 @q1 (y6 @bm aC)
  repeat' ((first |(with_reducible refine .guard (fun hb =>?_) (fun hb =>?_) <;>try simp only[hb])|refine U.aG (by decide +kernel) rfl fun K hK =>?_|refine .flat _ (f1) rfl ?_|refine .flat _ (f2) rfl ?_|refine .flat _ (f3) rfl ?_|refine .flat _ (f4) rfl ?_|refine .flat _ (f5) rfl ?_|(refine .aE [0,1,2,30,33,65,69] hK ?_;clear hK K)|(with_reducible refine .done (hK _ ?_);clear hK K)|refine U.of rfl ?_|(with_reducible refine av.aF (fun h =>?_) (fun h =>?_) <;>try simp only[h])) <;>try simp only[aH,R,simprocAttr])
  all_goals clear R
  all_goals rfl
 rw[q1] at f1;cases q2:ee 0 40 r.kind
 ·rw[q2] at f2;rw[no (by simp only[bd,fY,q1,q2,Bool.false_and,Bool.and_false])];have R:=y6 @bm aC
  repeat' ((first |(with_reducible refine .guard (fun hb =>?_) (fun hb =>?_) <;>try simp only[hb])|refine U.aG (by decide +kernel) rfl fun K hK =>?_|refine .flat _ (f1) rfl ?_|refine .flat _ (f2) rfl ?_|refine .flat _ (f3) rfl ?_|refine .flat _ (f4) rfl ?_|refine .flat _ (f5) rfl ?_|(refine .aE [0,1,2,30,33,65,69] hK ?_;clear hK K)|(with_reducible refine .done (hK _ ?_);clear hK K)|refine U.of rfl ?_|(with_reducible refine av.aF (fun h =>?_) (fun h =>?_) <;>try simp only[h])) <;>try simp only[aH,R,simprocAttr])
  all_goals clear R
  all_goals rfl
 rw[q2] at f2;cases q3:ee 0 100000 r.dW
 ·rw[q3] at f3;rw[no (by simp only[bd,fY,q1,q2,q3,Bool.false_and,Bool.and_false])];have R:=y6 @bm aC
  repeat' ((first |(with_reducible refine .guard (fun hb =>?_) (fun hb =>?_) <;>try simp only[hb])|refine U.aG (by decide +kernel) rfl fun K hK =>?_|refine .flat _ (f1) rfl ?_|refine .flat _ (f2) rfl ?_|refine .flat _ (f3) rfl ?_|refine .flat _ (f4) rfl ?_|refine .flat _ (f5) rfl ?_|(refine .aE [0,1,2,30,33,65,69] hK ?_;clear hK K)|(with_reducible refine .done (hK _ ?_);clear hK K)|refine U.of rfl ?_|(with_reducible refine av.aF (fun h =>?_) (fun h =>?_) <;>try simp only[h])) <;>try simp only[aH,R,simprocAttr])
  all_goals clear R
  all_goals rfl
 rw[q3] at f3;cases q4:ee 0 100000 r.known
 ·rw[q4] at f4;rw[no (by simp only[bd,fY,q1,q2,q3,q4,Bool.false_and,Bool.and_false])];have R:=y6 @bm aC
  repeat' ((first |(with_reducible refine .guard (fun hb =>?_) (fun hb =>?_) <;>try simp only[hb])|refine U.aG (by decide +kernel) rfl fun K hK =>?_|refine .flat _ (f1) rfl ?_|refine .flat _ (f2) rfl ?_|refine .flat _ (f3) rfl ?_|refine .flat _ (f4) rfl ?_|refine .flat _ (f5) rfl ?_|(refine .aE [0,1,2,30,33,65,69] hK ?_;clear hK K)|(with_reducible refine .done (hK _ ?_);clear hK K)|refine U.of rfl ?_|(with_reducible refine av.aF (fun h =>?_) (fun h =>?_) <;>try simp only[h])) <;>try simp only[aH,R,simprocAttr])
  all_goals clear R
  all_goals rfl
 rw[q4] at f4;cases q5:gG r.text
 ·rw[q5] at f5;rw[no (by simp only[bd,fY,q1,q2,q3,q4,q5,Bool.false_and,Bool.and_false])];have R:=y6 @bm aC
  repeat' ((first |(with_reducible refine .guard (fun hb =>?_) (fun hb =>?_) <;>try simp only[hb])|refine U.aG (by decide +kernel) rfl fun K hK =>?_|refine .flat _ (f1) rfl ?_|refine .flat _ (f2) rfl ?_|refine .flat _ (f3) rfl ?_|refine .flat _ (f4) rfl ?_|refine .flat _ (f5) rfl ?_|(refine .aE [0,1,2,30,33,65,69] hK ?_;clear hK K)|(with_reducible refine .done (hK _ ?_);clear hK K)|refine U.of rfl ?_|(with_reducible refine av.aF (fun h =>?_) (fun h =>?_) <;>try simp only[h])) <;>try simp only[aH,R,simprocAttr])
  all_goals clear R
  all_goals rfl
 rw[q5] at f5;have hH:fY r=true:=by simp only[fY,q1,q2,q3,q4,q5,Bool.and_self]
 cases k:(r.kind==0)
 ·cases z:decide (r.fW=⟨0,0⟩)
  ·rw[no (by simp only[bd,hH,Bool.true_and];rw[if_neg (by simpa using k)];exact z)];have R:=y6 @k (y6 @z (y6 @pc (y6 @bm aC)))
   repeat' ((first |(with_reducible refine .guard (fun hb =>?_) (fun hb =>?_) <;>try simp only[hb])|refine U.aG (by decide +kernel) rfl fun K hK =>?_|refine .flat _ (f1) rfl ?_|refine .flat _ (f2) rfl ?_|refine .flat _ (f3) rfl ?_|refine .flat _ (f4) rfl ?_|refine .flat _ (f5) rfl ?_|(refine .aE [0,1,2,30,33,65,69] hK ?_;clear hK K)|(with_reducible refine .done (hK _ ?_);clear hK K)|refine U.of rfl ?_|(with_reducible refine av.aF (fun h =>?_) (fun h =>?_) <;>try simp only[h])) <;>try simp only[aH,R,simprocAttr])
   all_goals clear R
   all_goals rfl
  ·rw[ye (by simp only[bd,hH,Bool.true_and];rw[if_neg (by simpa using k)];exact z)];have R:=y6 @k (y6 @z (y6 @pc (y6 @bm aC)))
   repeat' ((first |(with_reducible refine .guard (fun hb =>?_) (fun hb =>?_) <;>try simp only[hb])|refine U.aG (by decide +kernel) rfl fun K hK =>?_|refine .flat _ (f1) rfl ?_|refine .flat _ (f2) rfl ?_|refine .flat _ (f3) rfl ?_|refine .flat _ (f4) rfl ?_|refine .flat _ (f5) rfl ?_|(refine .aE [0,1,2,30,33,65,69] hK ?_;clear hK K)|(with_reducible refine .done (hK _ ?_);clear hK K)|refine U.of rfl ?_|(with_reducible refine av.aF (fun h =>?_) (fun h =>?_) <;>try simp only[h])) <;>try simp only[aH,R,simprocAttr])
   all_goals clear R
   all_goals rfl
 have hK:bd r=oi r:=by simp only[bd,hH,Bool.true_and];rw[if_pos (by simpa using k)]
 simp only[oi] at hK;cases w1:(r.dW==0)
 ·have w1':(r.dW != 0)=true:=by simp[bne,w1]
  rw[no (by rw[hK,w1];rfl)];have R:=y6 @k (y6 @w1' (y6 @ij (y6 @gK (y6 @bm aC))))
  repeat' ((first |(with_reducible refine .guard (fun hb =>?_) (fun hb =>?_) <;>try simp only[hb])|refine U.aG (by decide +kernel) rfl fun K hK =>?_|refine .flat _ (f1) rfl ?_|refine .flat _ (f2) rfl ?_|refine .flat _ (f3) rfl ?_|refine .flat _ (f4) rfl ?_|refine .flat _ (f5) rfl ?_|refine .flat _ (f6) rfl ?_|(refine .aE [0,1,2,30,33,65,69] hK ?_;clear hK K)|(with_reducible refine .done (hK _ ?_);clear hK K)|refine U.of rfl ?_|(with_reducible refine av.aF (fun h =>?_) (fun h =>?_) <;>try simp only[h])) <;>try simp only[aH,R,simprocAttr])
  all_goals clear R
  all_goals rfl
 have w1':(r.dW != 0)=false:=by simp[bne,w1]
 cases w2:decide (r.text=[])
 ·rw[no (by rw[hK,w1,w2];rfl)];have R:=y6 @k (y6 @w1' (y6 @w2 (y6 @ij (y6 @gK (y6 @bm aC)))))
  repeat' ((first |(with_reducible refine .guard (fun hb =>?_) (fun hb =>?_) <;>try simp only[hb])|refine U.aG (by decide +kernel) rfl fun K hK =>?_|refine .flat _ (f1) rfl ?_|refine .flat _ (f2) rfl ?_|refine .flat _ (f3) rfl ?_|refine .flat _ (f4) rfl ?_|refine .flat _ (f5) rfl ?_|refine .flat _ (f6) rfl ?_|(refine .aE [0,1,2,30,33,65,69] hK ?_;clear hK K)|(with_reducible refine .done (hK _ ?_);clear hK K)|refine U.of rfl ?_|(with_reducible refine av.aF (fun h =>?_) (fun h =>?_) <;>try simp only[h])) <;>try simp only[aH,R,simprocAttr])
  all_goals clear R
  all_goals rfl
 cases w3:iu r.fW
 ·rw[w3] at f6;rw[no (by rw[hK,w1,w2,w3];rfl)];have R:=y6 @k (y6 @w1' (y6 @w2 (y6 @ij (y6 @gK (y6 @bm aC)))))
  repeat' ((first |(with_reducible refine .guard (fun hb =>?_) (fun hb =>?_) <;>try simp only[hb])|refine U.aG (by decide +kernel) rfl fun K hK =>?_|refine .flat _ (f1) rfl ?_|refine .flat _ (f2) rfl ?_|refine .flat _ (f3) rfl ?_|refine .flat _ (f4) rfl ?_|refine .flat _ (f5) rfl ?_|refine .flat _ (f6) rfl ?_|(refine .aE [0,1,2,30,33,65,69] hK ?_;clear hK K)|(with_reducible refine .done (hK _ ?_);clear hK K)|refine U.of rfl ?_|(with_reducible refine av.aF (fun h =>?_) (fun h =>?_) <;>try simp only[h])) <;>try simp only[aH,R,simprocAttr])
  all_goals clear R
  all_goals rfl
 rw[w3] at f6;cases w4:(r.e9==r.aO)
 ·have w4':(r.e9 != r.aO)=true:=by simp[bne,w4]
  rw[no (by rw[hK,w1,w2,w3,w4];rfl)];have R:=y6 @k (y6 @w1' (y6 @w2 (y6 @w4' (y6 @ij (y6 @gK (y6 @bm aC))))))
  repeat' ((first |(with_reducible refine .guard (fun hb =>?_) (fun hb =>?_) <;>try simp only[hb])|refine U.aG (by decide +kernel) rfl fun K hK =>?_|refine .flat _ (f1) rfl ?_|refine .flat _ (f2) rfl ?_|refine .flat _ (f3) rfl ?_|refine .flat _ (f4) rfl ?_|refine .flat _ (f5) rfl ?_|refine .flat _ (f6) rfl ?_|(refine .aE [0,1,2,30,33,65,69] hK ?_;clear hK K)|(with_reducible refine .done (hK _ ?_);clear hK K)|refine U.of rfl ?_|(with_reducible refine av.aF (fun h =>?_) (fun h =>?_) <;>try simp only[h])) <;>try simp only[aH,R,simprocAttr])
  all_goals clear R
  all_goals rfl
 have w4':(r.e9 != r.aO)=false:=by simp[bne,w4]
 cases w5:decide (r.fo<r.no)
 ·have w5':decide (r.fo≥r.no)=true:=by rw[decide_eq_false_iff_not] at w5;exact decide_eq_true (by omega)
  rw[no (by rw[hK,w1,w2,w3,w4,w5];rfl)];have R:=y6 @k (y6 @w1' (y6 @w2 (y6 @w4' (y6 @w5' (y6 @ij (y6 @gK (y6 @bm aC)))))))
  repeat' ((first |(with_reducible refine .guard (fun hb =>?_) (fun hb =>?_) <;>try simp only[hb])|refine U.aG (by decide +kernel) rfl fun K hK =>?_|refine .flat _ (f1) rfl ?_|refine .flat _ (f2) rfl ?_|refine .flat _ (f3) rfl ?_|refine .flat _ (f4) rfl ?_|refine .flat _ (f5) rfl ?_|refine .flat _ (f6) rfl ?_|(refine .aE [0,1,2,30,33,65,69] hK ?_;clear hK K)|(with_reducible refine .done (hK _ ?_);clear hK K)|refine U.of rfl ?_|(with_reducible refine av.aF (fun h =>?_) (fun h =>?_) <;>try simp only[h])) <;>try simp only[aH,R,simprocAttr])
  all_goals clear R
  all_goals rfl
 ·have w5':decide (r.fo≥r.no)=false:=by rw[decide_eq_true_eq] at w5;exact decide_eq_false (by omega)
  rw[ye (by rw[hK,w1,w2,w3,w4,w5];rfl)];have R:=y6 @k (y6 @w1' (y6 @w2 (y6 @w4' (y6 @w5' (y6 @ij (y6 @gK (y6 @bm aC)))))))
  repeat' ((first |(with_reducible refine .guard (fun hb =>?_) (fun hb =>?_) <;>try simp only[hb])|refine U.aG (by decide +kernel) rfl fun K hK =>?_|refine .flat _ (f1) rfl ?_|refine .flat _ (f2) rfl ?_|refine .flat _ (f3) rfl ?_|refine .flat _ (f4) rfl ?_|refine .flat _ (f5) rfl ?_|refine .flat _ (f6) rfl ?_|(refine .aE [0,1,2,30,33,65,69] hK ?_;clear hK K)|(with_reducible refine .done (hK _ ?_);clear hK K)|refine U.of rfl ?_|(with_reducible refine av.aF (fun h =>?_) (fun h =>?_) <;>try simp only[h])) <;>try simp only[aH,R,simprocAttr])
  all_goals clear R
  all_goals rfl
theorem Yl{n:Int}(h:0≤n∧n<256):IntKind.u8.wrap n=n:=by
 simp only[IntKind.wrap,IntKind.bits,IntKind.signed];simp;omega
theorem eF(a b:List UInt8)(h:a.length+b.length≤9223372036854775807):bF .add (enc (al.of a)) (enc (al.of b))=some (enc (al.of (a++b))):=by
 rw[XR _ _ (by rw[al.dn,al.dn];exact h)];rfl
def j2(m:Nat):UInt8:=UInt8.ofNat (48+m%10)
theorem UQ{m:Nat}(h:10≤m):Lib.itoa (m:Int)=Lib.itoa ((m / 10:Nat):Int)++[j2 m]:=by
 rw[Lib.itoa_nonneg,Lib.itoa_nonneg,zx (by omega)];rfl
theorem UR{m:Nat}(h:m<10):Lib.itoa (m:Int)=[j2 m]:=by
 rw[Lib.itoa_nonneg,Lib.decDigits_one (by omega),j2,Nat.mod_eq_of_lt h]
def tG(t:Nat×List UInt8):ab:=aw [(0,.int .i64 (t.1:Int)),(3,enc (al.of (j2 t.1::t.2)))] []
theorem wV(m:Nat)(hm:m≤9223372036854775807):aR Tryz.prog 134 [enc (m:Int)] (enc (al.of (Lib.itoa (m:Int)))):=by
 refine aR.bK Tryz.func134 G7 Im JI (t8 rfl) (fun hwf W0 bB E1 =>?_);simp only[xZ,Co,bA];clear hwf;have hd:∀ k:Nat,k≤9223372036854775807→IntKind.i64.wrap (48+(k:Int).tmod 10)=48+(k:Int).tmod 10∧IntKind.u8.wrap (48+(k:Int).tmod 10)=48+(k:Int).tmod 10∧al.of [UInt8.ofNat (48+(k:Int).tmod 10).toNat]=al.of [j2 k]:=fun k hk=>by
  have e:((k:Int)).tmod 10=((k%10:Nat):Int):=rfl;rw[e];refine ⟨ea _ (by omega) (by omega),Yl (by omega),?_⟩;rw[j2,show ((48:Int)+((k%10:Nat):Int)).toNat=48+k%10 by omega]
 obtain ⟨h1,h2,h3⟩:=hd m hm;have R:=y6 @h1 (y6 @h2 (y6 @h3 (y6 @bm aC)))
 repeat' ((first |refine U.aG (by decide +kernel) rfl fun K hK =>?_|(refine .aE [0,2,3,11] hK ?_;clear hK K)|(with_reducible refine .done (hK _ ?_);clear hK K)|refine U.of rfl ?_|(with_reducible refine av.aF (fun h =>?_) (fun h =>?_) <;>try simp only[h])) <;>try simp only[aH,R,simprocAttr])
 all_goals clear R
 refine U.loop tG (fun t=>t.1≤9223372036854775807∧Lib.itoa (m:Int)=Lib.itoa (t.1:Int)++t.2) (fun t=>t.1) (m,[]) ⟨hm,by simp⟩ ?_ ?_
 ·simp only[tG];refine bC.cO ?_ ?_ ?_ ?_ <;>simp[cm,cv,ct,bW,cj,I.only,bI]
 rintro ⟨k,t⟩ ⟨hk,hin⟩;simp only at hk hin;simp only[tG];by_cases hlt:k<10
 ·have hlc:decide ((k:Int)≥10)=false:=decide_eq_false (by omega);rw[UR hlt] at hin;rw[hin];have R:=y6 @hlc (y6 @bm aC)
  repeat' ((first |refine U.aG (by decide +kernel) rfl fun K hK =>?_|(refine .aE [0,2,3,11] hK ?_;clear hK K)|(with_reducible refine .done (hK _ ?_);clear hK K)|refine U.of rfl ?_|(with_reducible refine av.aF (fun h =>?_) (fun h =>?_) <;>try simp only[h])) <;>try simp only[aH,R,simprocAttr])
  all_goals clear R
  all_goals rfl
 ·have hlc:decide ((k:Int)≥10)=true:=decide_eq_true (by omega);have hq:IntKind.i64.wrap ((k:Int).tdiv 10)=((k / 10:Nat):Int):=by
   have e:((k:Int)).tdiv 10=((k / 10:Nat):Int):=rfl;rw[e];exact ea _ (by omega) (by omega)
  obtain ⟨g1,g2,g3⟩:=hd (k / 10) (by omega);rw[UQ (m:=k) (by omega),Z8,List.singleton_append] at hin;have hlen:(j2 k::t).length≤100:=by
   have h4:=congrArg List.length hin;rw[Z1] at h4;have h5:=Lib.itoa_length_le (m:Int) (by omega) (by omega);omega
  have hadd:=eF [j2 (k / 10)] (j2 k::t) (by simp only[List.length_singleton];omega);have R:=y6 @hlc (y6 @hq (y6 @g1 (y6 @g2 (y6 @g3 (y6 @hadd (y6 @bm aC))))))
  repeat' ((first |refine U.aG (by decide +kernel) rfl fun K hK =>?_|(refine .aE [0,2,3,11] hK ?_;clear hK K)|(with_reducible refine .done (hK _ ?_);clear hK K)|refine U.of rfl ?_|(with_reducible refine av.aF (fun h =>?_) (fun h =>?_) <;>try simp only[h])) <;>try simp only[aH,R,simprocAttr])
  all_goals clear R
  refine ⟨(k / 10,j2 k::t),⟨by simp only;omega,hin⟩,by simp only;omega,?_⟩;clear hin hd hadd hlen;refine bC.cO ?_ ?_ ?_ ?_ <;>simp[cm,cv,ct,bW,cj,I.only,bI]
theorem mf{n:Int}(h:0≤n∧n<100000000):aR Tryz.prog 134 [.int .i64 n] (enc (al.of (Lib.itoa n)))∧(Lib.itoa n).length≤8:=by
 obtain ⟨m,rfl⟩:=Y9 h.1;exact ⟨wV m (by omega),pD (k:=7) (by omega)⟩
theorem EX(r:ah)(hs:r.text.length≤1000000000000)(hn:∀ n∈eD r,0≤n∧n<100000000):aR Tryz.prog 133 [enc r] (enc (al.of (da r))):=by
 obtain ⟨c1,l1⟩:=mf (hn r.aO (by simp[eD]));obtain ⟨c2,l2⟩:=mf (hn r.no (by simp[eD]));obtain ⟨c3,l3⟩:=mf (hn r.kind (by simp[eD]));obtain ⟨c4,l4⟩:=mf (hn r.dW (by simp[eD]));obtain ⟨c5,l5⟩:=mf (hn r.known (by simp[eD]));obtain ⟨GR,l6⟩:=mf (hn r.e9 (by simp[eD]));obtain ⟨qR,l7⟩:=mf (hn r.fo (by simp[eD]));have hb:da r=Lib.itoa r.aO++[32]++Lib.itoa r.no++[32]++Lib.itoa r.kind++[32]++Lib.itoa r.dW++[32]++Lib.itoa r.known++[32]++Lib.itoa r.e9++[32]++Lib.itoa r.fo++[32]++r.text:=by
  simp[da,dA,eD]
 rw[hb];generalize Lib.itoa r.aO=x1 at *;generalize Lib.itoa r.no=x2 at *;generalize Lib.itoa r.kind=x3 at *;generalize Lib.itoa r.dW=x4 at *;generalize Lib.itoa r.known=x5 at *;generalize Lib.itoa r.e9=x6 at *;generalize Lib.itoa r.fo=x7 at *;have ls:([32]:List UInt8).length=1:=rfl;have a1:=eF x1 [32] (by omega);have a2:=eF (x1++[32]) x2 (by simp only[Z1,ls];omega);have a3:=eF (x1++[32]++x2) [32] (by simp only[Z1,ls];omega);have a4:=eF (x1++[32]++x2++[32]) x3 (by simp only[Z1,ls];omega);have a5:=eF (x1++[32]++x2++[32]++x3) [32] (by simp only[Z1,ls];omega);have a6:=eF (x1++[32]++x2++[32]++x3++[32]) x4 (by simp only[Z1,ls];omega);have a7:=eF (x1++[32]++x2++[32]++x3++[32]++x4) [32] (by simp only[Z1,ls];omega);have a8:=eF (x1++[32]++x2++[32]++x3++[32]++x4++[32]) x5 (by simp only[Z1,ls];omega);have a9:=eF (x1++[32]++x2++[32]++x3++[32]++x4++[32]++x5) [32] (by simp only[Z1,ls];omega);have b1:=eF (x1++[32]++x2++[32]++x3++[32]++x4++[32]++x5++[32]) x6 (by simp only[Z1,ls];omega);have b2:=eF (x1++[32]++x2++[32]++x3++[32]++x4++[32]++x5++[32]++x6) [32] (by simp only[Z1,ls];omega);have b3:=eF (x1++[32]++x2++[32]++x3++[32]++x4++[32]++x5++[32]++x6++[32]) x7 (by simp only[Z1,ls];omega);have b4:=eF (x1++[32]++x2++[32]++x3++[32]++x4++[32]++x5++[32]++x6++[32]++x7) [32] (by simp only[Z1,ls];omega);have b5:=eF (x1++[32]++x2++[32]++x3++[32]++x4++[32]++x5++[32]++x6++[32]++x7++[32]) r.text (by simp only[Z1,ls];omega);refine aR.bK Tryz.func133 G6 Il JH (t8 rfl) (fun hwf W0 bB E1 =>?_);simp only[xY,Cn,bA];clear hwf hb hn;have R:=y6 @mu (y6 @a1 (y6 @a2 (y6 @a3 (y6 @a4 (y6 @a5 (y6 @a6 (y6 @a7 (y6 @a8 (y6 @a9 (y6 @b1 (y6 @b2 (y6 @b3 (y6 @b4 (y6 @b5 aC))))))))))))))
 repeat' ((first |refine U.aG (by decide +kernel) rfl fun K hK =>?_|refine .flat _ (c1) rfl ?_|refine .flat _ (c2) rfl ?_|refine .flat _ (c3) rfl ?_|refine .flat _ (c4) rfl ?_|refine .flat _ (c5) rfl ?_|refine .flat _ (GR) rfl ?_|refine .flat _ (qR) rfl ?_|(refine .aE [0,1,2,3] hK ?_;clear hK K)|(with_reducible refine .done (hK _ ?_);clear hK K)|refine U.of rfl ?_|(with_reducible refine av.aF (fun h =>?_) (fun h =>?_) <;>try simp only[h])) <;>try simp only[aH,R,simprocAttr])
 all_goals clear R
 all_goals rfl
theorem Er(s:Int)(l:List UInt8)(c:UInt8):du s (l++[c])=(257*du s l+c.toNat+1)%1000003:=by simp[du]
theorem Eo{s:Int}{c:UInt8}(h:0≤s∧s<1000003):IntKind.i64.wrap (257*s)=257*s∧IntKind.i64.wrap (c.toNat:Int)=c.toNat∧IntKind.i64.wrap (257*s+c.toNat)=257*s+c.toNat∧IntKind.i64.wrap (257*s+c.toNat+1)=257*s+c.toNat+1 ∧
  (257*s+(c.toNat:Int)+1).tmod 1000003=(257*s+c.toNat+1)%1000003:=by
 have hc:=c.toNat_lt;exact ⟨ea _ (by omega) (by omega),ea _ (by omega) (by omega),ea _ (by omega) (by omega),ea _ (by omega) (by omega),Int.tmod_eq_emod_of_nonneg (by omega)⟩
theorem tU{r:ah}{k:Nat}(ht:r.text.length≤k)(hn:∀ n∈eD r,0≤n∧n<100000000):(da r).length≤63+k:=by
 have h:∀ l:List Int,(∀ x∈l,0≤x∧x<100000000)→(dA l).length≤9*l.length:=by
  intro l
  induction l with
  |nil=>intro _;simp[dA]
  |cons x l ih =>
   intro h;have h1:=ih fun y hy=>h y (by simp[hy]);have h2:=pD (k:=7) (n:=x) (by have:=h x (by simp);omega);simp only[dA] at h1;simp only[dA,List.flatMap_cons,Z1,zy1,zz8];omega
 have:=h _ hn;have h4:(eD r).length=7:=rfl;rw[da,Z1];omega
theorem oL(s:Int)(hs:0≤s∧s<1000003)(r:ah)(hr:bd r=true):aR Tryz.prog 81 [enc s,enc r] (.tuple [enc (al.of (dy s r)),enc (du s (da r))]):=by
 have ht:=sw hr;have hn:=sv hr;have hbl:=tU ht hn;have hF:=EV r (by omega);have hsum:=fun l=>oB hs l;simp only[dy];generalize hb:da r=b at *;have hsb:=wg b;refine aR.bK Tryz.func81 HO I2 Kl (t8 rfl) (fun hwf W0 bB E1 =>?_);simp only[yJ,C0,bA,Z4];clear hwf;have R:=y6 @hsb (y6 @bm (y6 @gr aC))
 repeat' ((first |refine aX.eE rfl fun m =>?_|refine U.aG (by decide +kernel) rfl fun K hK =>?_|refine .flat _ (hF) rfl ?_|(refine .aE [0,1,3,4,5,6,8,12,13,14,15] hK ?_;clear hK K)|(with_reducible refine .done (hK _ ?_);clear hK K)|refine U.of rfl ?_|(with_reducible refine av.aF (fun h =>?_) (fun h =>?_) <;>try simp only[h])) <;>try simp only[aH,R,simprocAttr])
 all_goals clear R
 refine U.loop (fun i:Nat=>aw [(0,.int .i64 (du s (b.take i))),(3,.ptr 3 []),(6,enc (al.of b)),(12,enc b),(13,.int .i64 b.length),(14,.int .i64 i)] [(3,.box (enc r))]) (fun i=>i≤b.length) (fun i=>b.length-i) 0 (zy9 _) ?_ ?_
 ·refine bC.rp [12] 12 (x:=.view 12 [] 1 0 b.length) (y:=enc b) rfl (zV rfl) ?_ ?_ ?_ ?_ ?_ <;>simp[dO,bW,cm,cv,ct,aI,je,cj,aD,ai.only,I.only,bI]
  all_goals rfl
 intro i hi;have hst:=hsum (b.take i);by_cases hlt:i<b.length
 ·have hlc:=fj hlt;have he:=fun A=>fi (A:=A) 1 hlt rfl;have hw:=eP (i:=i) (by omega);have hsn:=Er s (b.take i) b[i];rw[←List.take_succ_eq_append_getElem hlt] at hsn;generalize b[i]=c at *;generalize du s (b.take i)=z at *;obtain ⟨g1,g2,g3,g4,g5⟩:=Eo (c:=c) hst;have R:=y6 @hlc (y6 @he (y6 @hw (y6 @g1 (y6 @g2 (y6 @g3 (y6 @g4 (y6 @g5 (y6 @qh (y6 @bm aC)))))))))
  repeat' ((first |refine U.aG (by decide +kernel) rfl fun K hK =>?_|(refine .aE [0,1,3,4,5,6,8,12,13,14,15] hK ?_;clear hK K)|(with_reducible refine .done (hK _ ?_);clear hK K)|refine U.of rfl ?_|(with_reducible refine av.aF (fun h =>?_) (fun h =>?_) <;>try simp only[h])) <;>try simp only[aH,R,simprocAttr])
  all_goals clear R
  refine ⟨i+1,by omega,by omega,?_⟩;rw[hsn];refine bC.cO ?_ ?_ ?_ ?_ <;>simp[cm,cv,ct,bW,aI,cj,dX,I.only,ai.only,bI]
  all_goals rfl
 ·have hlc:=fH hlt;have hge:i=b.length:=by omega
  subst hge;rw[List.take_length] at hst ⊢;generalize du s b=z at *;obtain ⟨q,rfl⟩:=Y9 hst.1;have hz:=EW (q:Int);have hzl:=pD (k:=7) (n:=(q:Int)) (by omega);rw[vb] at hz;have a1:=eF (Lib.itoa (q:Int)) [32] (by simp;omega);have a2:=eF (Lib.itoa (q:Int)++[32]) b (by simp;omega);have a3:=eF (Lib.itoa (q:Int)++[32]++b) [10] (by simp;omega);have e:dA [(q:Int)]=Lib.itoa (q:Int)++[32]:=by simp[dA]
  rw[e];have R:=y6 @hlc (y6 @mu (y6 @pd (y6 @a1 (y6 @a2 (y6 @a3 aC)))))
  repeat' ((first |refine U.aG (by decide +kernel) rfl fun K hK =>?_|refine .flat _ (hz) rfl ?_|(refine .aE [0,1,3,4,5,6,8,12,13,14,15] hK ?_;clear hK K)|(with_reducible refine .done (hK _ ?_);clear hK K)|refine U.of rfl ?_|(with_reducible refine av.aF (fun h =>?_) (fun h =>?_) <;>try simp only[h])) <;>try simp only[aH,R,simprocAttr])
  all_goals clear R
  all_goals rfl
theorem Ft(s:Int)(hs:0≤s∧s<1000003)(r:ah)(hr:bd r=true):aR Tryz.prog 83 [enc s,enc r] (.tuple [enc (al.of (dy s r)),enc (du s (da r))]):=by
 have ht:=sw hr;have hn:=sv hr;have hbl:=tU ht hn;have hF:=EX r (by omega) hn;have hsum:=fun l=>oB hs l;simp only[dy];generalize hb:da r=b at *;have hl:=mY b;refine aR.bK Tryz.func83 HQ I4 Kn (t8 rfl) (fun hwf W0 bB E1 =>?_);simp only[yL,C2,bA,Z4];clear hwf;have R:=y6 @bm aC
 repeat' ((first |refine U.aG (by decide +kernel) rfl fun K hK =>?_|refine .flat _ (hF) rfl ?_|(refine .aE [0,1,3,4,5,6,7,13] hK ?_;clear hK K)|(with_reducible refine .done (hK _ ?_);clear hK K)|refine U.of rfl ?_|(with_reducible refine av.aF (fun h =>?_) (fun h =>?_) <;>try simp only[h])) <;>try simp only[aH,R,simprocAttr])
 all_goals clear R
 refine U.loop (fun i:Nat=>aw [(0,.int .i64 (du s (b.take i))),(3,.ptr 3 []),(6,enc (al.of b)),(7,.int .i64 i)] [(3,.box (enc r))]) (fun i=>i≤b.length) (fun i=>b.length-i) 0 (zy9 _) ?_ ?_
 ·refine bC.cO ?_ ?_ ?_ ?_ <;>simp[cm,cv,ct,bW,aI,cj,dX,I.only,ai.only,bI]
  all_goals rfl
 intro i hi;have hst:=hsum (b.take i);by_cases hlt:i<b.length
 ·have hlc:=fj hlt;have he:=DT b hlt;have hw:=eP (i:=i) (by omega);have hsn:=Er s (b.take i) b[i];rw[←List.take_succ_eq_append_getElem hlt] at hsn;generalize b[i]=c at *;generalize du s (b.take i)=z at *;obtain ⟨g1,g2,g3,g4,g5⟩:=Eo (c:=c) hst;have R:=y6 @hl (y6 @hlc (y6 @he (y6 @hw (y6 @g1 (y6 @g2 (y6 @g3 (y6 @g4 (y6 @g5 (y6 @bm aC)))))))))
  repeat' ((first |refine U.aG (by decide +kernel) rfl fun K hK =>?_|(refine .aE [0,1,3,4,5,6,7,13] hK ?_;clear hK K)|(with_reducible refine .done (hK _ ?_);clear hK K)|refine U.of rfl ?_|(with_reducible refine av.aF (fun h =>?_) (fun h =>?_) <;>try simp only[h])) <;>try simp only[aH,R,simprocAttr])
  all_goals clear R
  refine ⟨i+1,by omega,by omega,?_⟩;rw[hsn];refine bC.cO ?_ ?_ ?_ ?_ <;>simp[cm,cv,ct,bW,aI,cj,dX,I.only,ai.only,bI]
  all_goals rfl
 ·have hlc:=fH hlt;have hge:i=b.length:=by omega
  subst hge;rw[List.take_length] at hst ⊢;generalize du s b=z at *;obtain ⟨q,rfl⟩:=Y9 hst.1;have hz:=wV q (by omega);have hzl:=pD (k:=7) (n:=(q:Int)) (by omega);have a1:=eF (Lib.itoa (q:Int)) [32] (by simp;omega);have a2:=eF (Lib.itoa (q:Int)++[32]) b (by simp;omega);have a3:=eF (Lib.itoa (q:Int)++[32]++b) [10] (by simp;omega);have e:dA [(q:Int)]=Lib.itoa (q:Int)++[32]:=by simp[dA]
  rw[e];have R:=y6 @hl (y6 @hlc (y6 @mu (y6 @pd (y6 @a1 (y6 @a2 (y6 @a3 aC))))))
  repeat' ((first |refine U.aG (by decide +kernel) rfl fun K hK =>?_|refine .flat _ (hz) rfl ?_|(refine .aE [0,1,3,4,5,6,7,13] hK ?_;clear hK K)|(with_reducible refine .done (hK _ ?_);clear hK K)|refine U.of rfl ?_|(with_reducible refine av.aF (fun h =>?_) (fun h =>?_) <;>try simp only[h])) <;>try simp only[aH,R,simprocAttr])
  all_goals clear R
  all_goals rfl
def kc(s:Int)(r:ah):List UInt8×Int×Int:=if ee 0 1000002 s=false then ([],0,1) else if bd r=false then ([],0,80) else (dy s r,du s (da r),0)
theorem Vk{s:Int}{r:ah}(h:ee 0 1000002 s=false):kc s r=([],0,1):=by rw[kc,if_pos h]
theorem Vl{s:Int}{r:ah}(h:ee 0 1000002 s=true)(h2:bd r=false):kc s r=([],0,80):=by rw[kc,h,if_neg (by decide),if_pos h2]
theorem Vm{s:Int}{r:ah}(h:ee 0 1000002 s=true)(h2:bd r=true):kc s r=(dy s r,du s (da r),0):=by rw[kc,h,h2,if_neg (by decide),if_neg (by decide)]
theorem Fi(s:Int)(r:ah):aR Tryz.prog 29 [enc s,enc r] (.tuple [enc (al.of (kc s r).1),enc (kc s r).2.1,enc (kc s r).2.2]):=by
 refine aR.bK Tryz.func29 Hv IJ J3 (t8 rfl) (fun hwf W0 bB E1 =>?_);simp only[yu,CJ,bA,Z4];clear hwf;have f1:=xd s;have f2:=oK r;cases q1:ee 0 1000002 s
 ·rw[q1] at f1;rw[Vk q1];have R:=aC
  repeat' ((first |refine U.aG (by decide +kernel) rfl fun K hK =>?_|refine .flat _ (f1) rfl ?_|(refine .aE [0,1,3,4,5,6,7,8,9,13] hK ?_;clear hK K)|(with_reducible refine .done (hK _ ?_);clear hK K)|refine U.of rfl ?_|(with_reducible refine av.aF (fun h =>?_) (fun h =>?_) <;>try simp only[h])) <;>try simp only[aH,R,simprocAttr])
  all_goals clear R
  all_goals rfl
 cases q2:bd r
 ·rw[q1] at f1;rw[q2] at f2;rw[Vl q1 q2];have R:=aC
  repeat' ((first |refine U.aG (by decide +kernel) rfl fun K hK =>?_|refine .flat _ (f1) rfl ?_|refine .flat _ (f2) rfl ?_|(refine .aE [0,1,3,4,5,6,7,8,9,13] hK ?_;clear hK K)|(with_reducible refine .done (hK _ ?_);clear hK K)|refine U.of rfl ?_|(with_reducible refine av.aF (fun h =>?_) (fun h =>?_) <;>try simp only[h])) <;>try simp only[aH,R,simprocAttr])
  all_goals clear R
  all_goals rfl
 have f3:=oL s (by have:=rK.1 q1;omega) r q2;rw[q1] at f1;rw[q2] at f2;rw[Vm q1 q2];have R:=aC
 repeat' ((first |refine U.aG (by decide +kernel) rfl fun K hK =>?_|refine .flat _ (f1) rfl ?_|refine .flat _ (f2) rfl ?_|refine .lead _ (f3) ?_|(refine .aE [0,1,3,4,5,6,7,8,9,13] hK ?_;clear hK K)|(with_reducible refine .done (hK _ ?_);clear hK K)|refine U.of rfl ?_|(with_reducible refine av.aF (fun h =>?_) (fun h =>?_) <;>try simp only[h])) <;>try simp only[aH,R,simprocAttr])
 all_goals clear R
 all_goals rfl
def vU:bl:=(.seq (.bN none QT) (.seq (.seq (.bN none QZ) (.cond (.t 20) (.bN none Ax) .skip)) (.seq (.bN none Q0) (.seq (.bN none Q1) (.seq (.bN none Ay) (.seq (.seq (.bN none Q2) (.block 0 (.loop (.seq (.bN none Q3) (.seq (.cond (.t 29) .skip (.exit 0)) (.seq (.block 1 (.seq (.bN none Q4) (.bN none Av))) (.bN none QU))))))) (.seq (.bN none QV) (.seq (.seq (.bN none QW) (.cond (.t 59) (.bN none Aw) .skip)) (.seq (.bN none QX) (.seq (.seq (.bN none QY) (.cond (.t 75) (.bN none uQ) .skip)) (.seq (.bN KY uR) .ret)))))))))))
theorem Le:Tryz.f70.body.bind (uj Tryz.prog Tryz.f70.ntmps)=some (.bN none Au,124,[4,5,6],13,vU):=by kernel_rfl
def gJ(s:Int)(t:List UInt8):ah×Int×Bool:=match dY bd s t with
 |some (r,n)=>(r,n,true)
 |none=>(default,0,false)
def gI(r:ah)(n:Int)(b:Bool):List (Nat×ai):=[(1900004,.box (enc r)),(1900005,.box (.int .i64 n)),(1900006,.box (.bool b))]
def kF(x:ah×Int×Bool):I:=.tuple [enc x.1,.int .i64 x.2.1,.bool x.2.2]
def pV(s:Int)(t:List UInt8):bX:=fun r os'=>r=kF (gJ s t)∧os'=gI (gJ s t).1 (gJ s t).2.1 (gJ s t).2.2
def mV:List (Nat×Nat):=[(1900004,4),(1900005,5),(1900006,6)]
def vG:List (Nat×ai):=[(6,.box (.bool false)),(5,.box (.int .i64 0)),(4,.box (enc (default:ah)))]
def mH:List Nat:=[1900004,1900005,1900006]
def nu:List I:=[enc (default:ah),.int .i64 0,.bool false]
theorem sU(m:Nat):bq mV m=if m=1900004 then 4 else if m=1900005 then 5 else if m=1900006 then 6 else m:=rfl
theorem r0{r:ah}{n:Int}{b:Bool}{m:Nat}{y:ai}(h:aD (gI r n b) m=some y):(m=1900004∧y=.box (enc r))∨(m=1900005∧y=.box (.int .i64 n))∨(m=1900006∧y=.box (.bool b)):=by
 simp only[gI,aD] at h;split at h
 ·rename_i e;cases h;exact .inl ⟨e,rfl⟩
 split at h
 ·rename_i e;cases h;exact .inr (.inl ⟨e,rfl⟩)
 split at h
 ·rename_i e;cases h;exact .inr (.inr ⟨e,rfl⟩)
 ·cases h
theorem lf{r:ah}{n:Int}{b:Bool}{m:Nat} : aI (gI r n b) m=true↔m=1900004∨m=1900005∨m=1900006:=by
 constructor
 ·intro h;cases hy:aD (gI r n b) m with
  |none=>rw[aI,hy] at h;cases h
  |some y=>rcases r0 hy with ⟨h,_⟩ | ⟨h,_⟩ | ⟨h,_⟩ <;>simp[h]
 ·rintro (rfl | rfl | rfl) <;>rfl
theorem mI{r:ah}{n:Int}{b:Bool}{m:Nat}{y:ai}(h:aD (gI r n b) m=some y)(p:Nat→Bool):y.only p=true∧y.ed=true∧y.aS (bq mV)=y:=by
 rcases r0 h with ⟨_,rfl⟩ | ⟨_,rfl⟩ | ⟨_,rfl⟩
 ·exact ⟨bI _ _,rfl,by simp only[ai.aS,il]⟩
 ·exact ⟨rfl,rfl,rfl⟩
 ·exact ⟨rfl,rfl,rfl⟩
theorem UC:eM mV (gI default 0 false) vG:=by
 refine ⟨fun m y hy=>⟨?_,(mI hy _).1,(mI hy (fun _=>true)).2.1⟩,fun m m' hm hm' e =>?_⟩
 ·rw[(mI hy (fun _=>true)).2.2];rcases r0 hy with ⟨rfl,rfl⟩ | ⟨rfl,rfl⟩ | ⟨rfl,rfl⟩ <;>rfl
 ·have k1:=lf.1 hm;have k2:=lf.1 hm';rw[sU,sU] at e
  (repeat' split at e) <;>omega
theorem Gm(s:Int)(t:List UInt8):∀ r os',pV s t r os'→dv false mV (gI default 0 false) vG r os':=by
 rintro r os' ⟨rfl,rfl⟩;refine ⟨fun m y hy=>⟨(mI hy _).1,(mI hy (fun _=>true)).2.1,fun h=>by cases h⟩,fun m m' hm hm' e =>?_,fun m hm=>lf.2 (lf.1 hm),fun m hm hno =>?_,⟨?_,fun h=>by cases h⟩⟩
 ·have k1:=lf.1 hm;have k2:=lf.1 hm';rw[sU,sU] at e
  (repeat' split at e) <;>omega
 ·rw[lf.2 (lf.1 hm)] at hno;cases hno
 ·simp only[kF,I.only,I.cJ,bI,Bool.and_self]
theorem Gl(s:Int)(t:List UInt8):∀ r os',pV s t r os'→∃ osF,r.flat=true∧r.aS (bq mV)=r∧(∀ m z,aD osF m=some z→aD (cX mV os'++vG) m=some z∧z.only (aI osF)=true∧z.ed=true)∧(r=kF (gJ s t)∧osF=[]):=by
 rintro r os' ⟨rfl,rfl⟩;refine ⟨[],?_,?_,fun m z hz=>by simp[aD] at hz,rfl,rfl⟩
 ·rfl
 ·simp only[kF,I.aS,I.cT,il]
theorem Dw{r:ah}{n:Int}{b:Bool}{post:bX}{A:ab}(hp:post (kF (r,n,b)) (gI r n b))(t4:A.t 4=.ptr 1900004 [])(t5:A.t 5=.ptr 1900005 [])(t6:A.t 6=.ptr 1900006 [])(o4:A.o 1900004=some (.box (enc r)))(o5:A.o 1900005=some (.box (.int .i64 n)))(o6:A.o 1900006=some (.box (.bool b))) :
  iF sJ post A:=by
 refine ⟨gI r n b,[enc r,.int .i64 n,.bool b],fun m z hz=>⟨?_,(mI hz _).1,(mI hz (fun _=>true)).2.1⟩,⟨⟨enc r,?_,.inl ⟨rfl,eZ _,bI _ _⟩⟩,⟨.int .i64 n,?_,.inl ⟨rfl,rfl,rfl⟩⟩,⟨.bool b,?_,.inl ⟨rfl,rfl,rfl⟩⟩,trivial⟩,hp⟩
 ·rcases r0 hz with ⟨rfl,rfl⟩ | ⟨rfl,rfl⟩ | ⟨rfl,rfl⟩ <;>assumption
 ·simp only[mN,t4,bQ,o4];rfl
 ·simp only[mN,t5,bQ,o5];rfl
 ·simp only[mN,t6,bQ,o6];rfl
theorem oj{s:Int}{t:List UInt8}(hn:dY bd s t=none){A:ab}{x:ah}{n:Int}{b:Bool}(t4:A.t 4=.ptr 1900004 [])(t5:A.t 5=.ptr 1900005 [])(t6:A.t 6=.ptr 1900006 [])(o4:A.o 1900004=some (.box (enc x)))(o5:A.o 1900005=some (.box (.int .i64 n)))(o6:A.o 1900006=some (.box (.bool b))) :
  pY sJ (pV s t) ju mH nu (.panic ju) A:=by
 refine ⟨rfl,⟨⟨_,o4,(eB _).trans (eB _).symm⟩,⟨_,o5,rfl⟩,⟨_,o6,rfl⟩,trivial⟩,?_⟩;refine Dw (r:=default) (n:=0) (b:=false) ?_ t4 t5 t6 ?_ ?_ ?_
 ·show _∧_
  rw[gJ,hn];exact ⟨rfl,rfl⟩
 ·simp[mH,nu,mZ,ab.aQ]
 ·simp[mH,nu,mZ,ab.aQ]
 ·simp[mH,nu,mZ,ab.aQ]
theorem BY{Q:Exit→ab→Prop}{ts:List (Nat×I)}{os0:List (Nat×ai)}{u:List UInt8}{v:I}(hv:v=enc (al.of u))(hlen:u.length≤281474976710656)(h:∀ w t,dw 32 u=some (w,t)→gl w=none)(hq:Q (.panic ju) (aw ts os0)):oN Tryz.prog Q 126 [v] (aw ts os0):=by
 subst hv;exact .mk false [] [] [enc (al.of u)] ju _ (ES (al.of u) (by rw[al.dn];exact hlen) (by rw[al.dn];exact h)) ⟨fun m x h=>by simp[aD] at h,fun m m' h=>by simp[aI,aD] at h⟩ ⟨.inl ⟨(il _ _).symm,bI _ _,eZ _⟩,trivial⟩
  (fun os' h=>by subst h;exact ⟨fun m x h=>by simp[aD] at h,fun m m' h=>by simp[aI,aD] at h,fun m h=>h,fun m h=>by simp[aI,aD] at h,⟨rfl,fun h=>by cases h⟩⟩) (fun os' h=>by subst h;exact hq)
def dH(l:List Int):ev 7 Int:=⟨(l++List.replicate 7 0).take 7,by simp⟩
theorem WL{l:List Int}(h:l.length<7)(v:Int):(⟨(dH l).l.set l.length v,by simp[(dH l).h]⟩:ev 7 Int)=dH (l++[v]):=by
 simp only[dH,ev.mk.injEq];refine List.ext_getElem (by simp) fun i h1 h2 =>?_;simp only[Y0,Z1,List.length_replicate,List.length_set,zy1,zz8] at h1 h2;simp only[List.getElem_set,List.getElem_take,List.getElem_append];by_cases e:l.length=i
 ·subst e;simp
 ·by_cases k:i<l.length
  ·rw[if_neg e,dif_pos k,dif_pos (by simp;omega),dif_pos k]
  ·rw[if_neg e,dif_neg k,dif_neg (by simp;omega)];simp only[List.getElem_replicate]
theorem zE:I.agg [.int .i64 0,.int .i64 0,.int .i64 0,.int .i64 0,.int .i64 0,.int .i64 0,.int .i64 0]=enc (dH []):=rfl
theorem WK{l:List Int}(h:l.length=7)(k:Nat):(dH l).g k=l.getD k 0:=by
 simp only[ev.g,dH];rw[List.take_left' h]
theorem XX{l:List Int}(h:l.length<7)(v:Int):(enc (dH l):I).dp [l.length] (.int .i64 v)=enc (dH (l++[v])):=by
 have h1:(enc (dH l):I).c7=some ((dH l).l.map enc):=rfl;rw[wi,h1];simp only[oz,AB (dH l) h,qi,fA];rw[←WL h]
 change I.agg _=I.agg (((dH l).l.set l.length v).map enc)
 rw[List.map_set];rfl
theorem X7{A:ab}{n:Nat}{l:List Int}(h:l.length<7){v u:Int}{rest:List au} : ep A none n [l.length] (enc (dH l)) (.int .i64 v) rest (some (.int .i64 u))=ao rest (A.aQ n (.box (enc (dH (l++[v]))))):=by
 rw[fC (s:=none) (v:=.int .i64 v) (old:=.int .i64 u) rfl rfl rfl,XX h]
theorem AZ(t:List UInt8):Lib.hasSuffix t [10]=decide (t.getLast?=some 10):=by
 have:Lib.hasSuffix t [10]=true↔t.getLast?=some 10:=by
  rw[Lib.hasSuffix,List.isSuffixOf_iff_suffix];constructor
  ·rintro ⟨x,rfl⟩;simp
  ·intro h;obtain ⟨x,rfl⟩:=List.getLast?_eq_some_iff.1 h;exact ⟨x,rfl⟩
 cases h:Lib.hasSuffix t [10]
 ·rw[h] at this;exact (decide_eq_false fun k=>by simpa using this.2 k).symm
 ·rw[h] at this;exact (decide_eq_true (this.1 rfl)).symm
theorem Yk{t:List UInt8}(h:t.getLast?=some 10):Lib.trimSuffix t [10]=t.dropLast:=by
 rw[Lib.trimSuffix,AZ,decide_eq_true h,if_pos rfl,List.dropLast_eq_take];rfl
theorem fD:(∀ A n b rest (q r:ah),ep A (some 8) n [] b (enc q) rest (some (enc r))=ao rest (A.aQ n (.box (enc q))))∧(∀ A n b rest (q:ah) v,v=enc q→ep A (some 8) n [] b v rest (some (enc (default:ah)))=ao rest (A.aQ n (.box (enc q)))) :=
 ⟨fun A n b rest q r=>by rw[fC (eZ _) (by rw[ik];rfl) ((eB _).trans (eB _).symm),fA],fun A n b rest q v h=>by rw[h,fC (eZ _) (by rw[ik];rfl) ((eB _).trans (eB _).symm),fA]⟩
theorem fu:I.agg [.agg [.int .i64 0,.int .i64 0],.int .i64 0,.int .i64 0,.int .i64 0,.agg [.int .i64 0,.int .i64 0],.aj ⟨#[]⟩]=enc (default:ah):=rfl
theorem nE:(∀ x y,fB [.int .i64 0,.int .i64 0] [(0,.int .i64 x),(1,.int .i64 y)]=some [.int .i64 x,.int .i64 y]) ∧
  (∀ (x1 x2 n1 n2 n3 y1 y2:Int) (u:List UInt8),fB [.agg [.int .i64 0,.int .i64 0],.int .i64 0,.int .i64 0,.int .i64 0,.agg [.int .i64 0,.int .i64 0],.aj ⟨#[]⟩] [(0,.agg [.int .i64 x1,.int .i64 x2]),(1,.int .i64 n1),(2,.int .i64 n2),(3,.int .i64 n3),(4,.agg [.int .i64 y1,.int .i64 y2]),(5,enc (al.of u))]=some [.agg [.int .i64 x1,.int .i64 x2],.int .i64 n1,.int .i64 n2,.int .i64 n3,.agg [.int .i64 y1,.int .i64 y2],enc (al.of u)]) :=
 ⟨fun _ _=>rfl,fun _ _ _ _ _ _ _ _=>rfl⟩
theorem qk:(∀ A n b rest (q r:Int),ep A none n [] b (.int .i64 q) rest (some (.int .i64 r))=ao rest (A.aQ n (.box (.int .i64 q))))∧(∀ A n b rest (q r:Bool),ep A none n [] b (.bool q) rest (some (.bool r))=ao rest (A.aQ n (.box (.bool q)))) :=
 ⟨fun A n b rest q r=>by rw[fC (s:=none) (v:=.int .i64 q) (old:=.int .i64 r) rfl rfl rfl,fA],fun A n b rest q r=>by rw[fC (s:=none) (v:=.bool q) (old:=.bool r) rfl rfl rfl,fA]⟩
theorem LB{n0:Int}{l:List Int}{u:List UInt8}(h:l.length=7):I.agg [.agg [.int .i64 ((dH l).g 0),.int .i64 ((dH l).g 1)],.int .i64 ((dH l).g 2),.int .i64 ((dH l).g 3),.int .i64 ((dH l).g 4),.agg [.int .i64 ((dH l).g 5),.int .i64 ((dH l).g 6)],enc (al.of u)]=enc (jk (n0::l) u):=by
 simp only[WK h];rfl
theorem Xj{s n0:Int}{t u:List UInt8}{l:List Int}(h:t.getLast?=some 10)(hp:iS gl 8 t.dropLast=some (n0::l,u)) :
  dY bd s t=if bd (jk (n0::l) u)=true∧dy s (jk (n0::l) u)=t∧n0=du s (da (jk (n0::l) u)) then some (jk (n0::l) u,du s (da (jk (n0::l) u))) else none:=by
 rw[dY,if_pos h,hp,Option.bind_some];generalize jk (n0::l) u=r;simp only[List.headD_cons,nL];by_cases a:bd r=true
 ·by_cases b:dy s r=t
  ·by_cases c:n0=du s (da r)
   ·simp[a,b,c]
   ·simp[a,b,c]
  ·simp[b]
 ·simp[a]
structure xk where
 n0:Int
 l:List Int
 u:List UInt8
def tH(s:Int)(t:List UInt8)(x:xk):ab:=aw [(0,enc s),(1,enc (al.of t)),(4,.ptr 1900004 []),(5,.ptr 1900005 []),(6,.ptr 1900006 []),(7,enc (al.of x.u)),(9,enc x.n0),(10,.ptr 10 []),(28,.int .i64 x.l.length)] ((10,.box (enc (dH x.l)))::gI default 0 false)
def EM(t:List UInt8)(x:xk):Prop:=x.l.length≤7∧x.u.length≤t.length∧iS gl 8 t.dropLast=(iS gl (7-x.l.length) x.u).map fun p=>(x.n0::x.l++p.1,p.2)
theorem Ew{f:List UInt8→Option Int}{k:Nat}{u w v:List UInt8}{n:Int}(h1:dw 32 u=some (w,v))(h2:f w=some n):iS f (k+1) u=(iS f k v).map fun p=>(n::p.1,p.2):=by
 rw[iS,h1];simp only[h2]
theorem Ev{f:List UInt8→Option Int}{k:Nat}{u:List UInt8}(h:∀ w t,dw 32 u=some (w,t)→f w=none):iS f (k+1) u=none:=by
 rw[iS];cases h1:dw 32 u with
 |none=>rfl
 |some p=>simp only[h p.1 p.2 h1]
theorem zw(u:List UInt8):(∃ w v n,dw 32 u=some (w,v)∧gl w=some n∧v.length≤u.length)∨∀ w t,dw 32 u=some (w,t)→gl w=none:=by
 cases h1:dw 32 u with
 |none=>exact .inr fun w t h=>by cases h
 |some p =>
  obtain ⟨w,v⟩:=p;cases h2:gl w with
  |none=>exact .inr fun w' t' h=>by cases h;exact h2
  |some n=>exact .inl ⟨w,v,n,rfl,h2,by have:=re h1;simp only at this;omega⟩
theorem XA{s:Int}(hs:0≤s∧s<1000003){t:List UInt8}(ht:t.length≤281474976710656)(W:World)(D:aJ)(E:aM)(n:Nat)(d:Deferred) :
  U ⟨Tryz.prog,W,D,n,bR E,E,fw,none,some [d]⟩ vU (pY sJ (pV s t) ju mH nu) (aw [(0,enc s),(1,enc (al.of t)),(4,.ptr 1900004 []),(5,.ptr 1900005 []),(6,.ptr 1900006 [])] (gI default 0 false)):=by
 have hC:=ER (al.of t) (al.of [10]);rw[al.dn,al.dn,AZ] at hC;simp only[vU,gI];by_cases hl:t.getLast?=some 10
 ·have hd:decide (t.getLast?=some 10)=true:=decide_eq_true hl;rw[hd,Yk hl] at hC;have hT:dY bd s t=(iS gl 8 t.dropLast).bind fun p=>(nL bd s t (jk p.1 p.2)).bind fun q=>if p.1.headD 0=q.2 then some q else none:=by rw[dY,if_pos hl]
  have hlt:t.dropLast.length≤t.length:=by simp
  generalize hu0:t.dropLast=u0 at *;rcases zw u0 with ⟨cM,v0,m0,hw,ho,hv⟩ | hno
  rotate_left
  ·have hn:dY bd s t=none:=by rw[hT,Ev (k:=7) hno];rfl
   have R:=y6 @hd (y6 @pd (y6 @jG (y6 @zE (y6 @bm aC))))
   repeat' ((first |(with_reducible refine .guard (fun hb =>?_) (fun hb =>?_) <;>try simp only[hb])|(refine U.lp (gs:=Ay) (gs1:=[_]) rfl fun K hK =>?_)|refine U.aG (by decide +kernel) rfl fun K hK =>?_|refine .flat _ (hC) rfl ?_|(refine .aE [0,1,4,5,6,7,8,9,10,11,12,20,28,29,59,75] hK ?_;clear hK K)|(with_reducible refine .done (hK _ ?_);clear hK K)|refine U.of rfl ?_|(with_reducible refine av.aF (fun h =>?_) (fun h =>?_) <;>try simp only[h])) <;>try simp only[aH,R,simprocAttr])
   all_goals clear R
   exact .call (BY rfl (by omega) hno (oj hn rfl rfl rfl rfl rfl rfl))
  have h126:=wT (al.of u0) (by rw[al.dn];omega) cM v0 m0 (by rw[al.dn];exact hw) ho;have R:=y6 @hd (y6 @pd (y6 @jG (y6 @zE (y6 @bm aC))))
  repeat' ((first |(with_reducible refine .guard (fun hb =>?_) (fun hb =>?_) <;>try simp only[hb])|refine U.aG (by decide +kernel) rfl fun K hK =>?_|refine .flat _ (hC) rfl ?_|refine .lead _ (h126) ?_|(refine .aE [0,1,4,5,6,7,8,9,10,11,12,20,28,29,59,75] hK ?_;clear hK K)|(with_reducible refine .done (hK _ ?_);clear hK K)|refine U.of rfl ?_|(with_reducible refine av.aF (fun h =>?_) (fun h =>?_) <;>try simp only[h])) <;>try simp only[aH,R,simprocAttr])
  all_goals clear R
  refine U.loop (tH s t) (EM t) (fun x=>7-x.l.length) ⟨m0,[],v0⟩ ⟨by simp,by simp only;omega,?_⟩ ?_ ?_
  ·rw[hu0,Ew hw ho];rfl
  ·simp only[tH,gI];refine bC.cO ?_ ?_ ?_ ?_ <;>simp[cm,cv,ct,bW,aI,cj,dX,I.only,ai.only,bI,uu]
   all_goals rfl
  rintro ⟨n0,l,u⟩ ⟨hl7,hul,htk⟩;simp only at hl7 hul htk;rw[hu0] at htk;simp only[tH,gI];by_cases hlt7:l.length<7
  ·have hlc:decide ((l.length:Int)<7)=true:=decide_eq_true (by omega);have hib:=fun {y:Option I} =>rJ 1 (dH l) (y:=y) (show (0:Int)≤(l.length:Int)∧(l.length:Int)<(7:Nat) by omega) rfl;have hat:=fun p=>jX (p:=p) (dH l) hlt7;have hst:=fun A n v u rest=>X7 (A:=A) (n:=n) hlt7 (v:=v) (u:=u) (rest:=rest);have hws:=eP (i:=l.length) (by omega);have e7:7-l.length=(7-(l++[(0:Int)]).length)+1:=by simp;omega
   rcases zw u with ⟨w,v,m,hw1,ho1,hv1⟩ | hno
   ·have h126':=wT (al.of u) (by rw[al.dn];omega) w v m (by rw[al.dn];exact hw1) ho1;have R:=y6 @hlc (y6 @hib (y6 @hat (y6 @hst (y6 @hws (y6 @Int.toNat_natCast (y6 @bm aC))))))
    repeat' ((first |(with_reducible refine .guard (fun hb =>?_) (fun hb =>?_) <;>try simp only[hb])|refine U.aG (by decide +kernel) rfl fun K hK =>?_|refine .lead _ (h126') ?_|(refine .aE [0,1,4,5,6,7,8,9,10,11,12,20,28,29,59,75] hK ?_;clear hK K)|(with_reducible refine .done (hK _ ?_);clear hK K)|refine U.of rfl ?_|(with_reducible refine av.aF (fun h =>?_) (fun h =>?_) <;>try simp only[h])) <;>try simp only[aH,R,simprocAttr])
    all_goals clear R
    refine ⟨⟨n0,l++[m],v⟩,⟨by simp;omega,by simp only;omega,?_⟩,by simp;omega,?_⟩
    ·rw[hu0,htk,e7,Ew hw1 ho1];simp only[Z1,zy1,zz8,Option.map_map]
     congr 1
     funext p
     simp
    ·have el:((l++[m]).length:Int)=((l.length+1:Nat):Int):=by simp
     simp only[el];refine bC.cO ?_ ?_ ?_ ?_ <;>simp[cm,cv,ct,bW,aI,cj,dX,I.only,ai.only,bI]
     all_goals rfl
   ·have hn:dY bd s t=none:=by rw[hT,htk,e7,Ev hno];rfl
    have R:=y6 @hlc (y6 @hib (y6 @hat (y6 @hst (y6 @hws (y6 @jG (y6 @bm aC))))))
    repeat' ((first |(with_reducible refine .guard (fun hb =>?_) (fun hb =>?_) <;>try simp only[hb])|(refine U.lp (gs:=Av) (gs1:=[_,_]) rfl fun K hK =>?_)|refine U.aG (by decide +kernel) rfl fun K hK =>?_|refine .flat _ (hC) rfl ?_|(refine .aE [0,1,4,5,6,7,8,9,10,11,12,20,28,29,59,75] hK ?_;clear hK K)|(with_reducible refine .done (hK _ ?_);clear hK K)|refine U.of rfl ?_|(with_reducible refine av.aF (fun h =>?_) (fun h =>?_) <;>try simp only[h])) <;>try simp only[aH,R,simprocAttr])
    all_goals clear R
    exact .call (BY rfl (by omega) hno (oj hn rfl rfl rfl rfl rfl rfl))
  ·have hlc:decide ((l.length:Int)<7)=false:=decide_eq_false (by omega);have h7:l.length=7:=by omega
   have hib:=fun {k:Int} {y:Option I} (h:(0:Int)≤k∧k<(7:Nat))=>rJ 1 (dH l) (y:=y) h rfl;have hi0:=fun {y:Option I} =>hib (k:=0) (y:=y) (by decide);have hi1:=fun {y:Option I} =>hib (k:=1) (y:=y) (by decide);have hi2:=fun {y:Option I} =>hib (k:=2) (y:=y) (by decide);have hi3:=fun {y:Option I} =>hib (k:=3) (y:=y) (by decide);have hi4:=fun {y:Option I} =>hib (k:=4) (y:=y) (by decide);have hi5:=fun {y:Option I} =>hib (k:=5) (y:=y) (by decide);have hi6:=fun {y:Option I} =>hib (k:=6) (y:=y) (by decide);have ha0:=fun p=>jX (p:=p) (dH l) (show 0<7 by decide);have ha1:=fun p=>jX (p:=p) (dH l) (show 1<7 by decide);have ha2:=fun p=>jX (p:=p) (dH l) (show 2<7 by decide);have ha3:=fun p=>jX (p:=p) (dH l) (show 3<7 by decide);have ha4:=fun p=>jX (p:=p) (dH l) (show 4<7 by decide);have ha5:=fun p=>jX (p:=p) (dH l) (show 5<7 by decide);have ha6:=fun p=>jX (p:=p) (dH l) (show 6<7 by decide);rw[h7,Nat.sub_self,iS,Z9,List.append_nil] at htk;clear hT;have hT:=Xj (s:=s) hl (hu0▸htk);have hmk:=LB (n0:=n0) (u:=u) h7;have f80:=oK (jk (n0::l) u);generalize jk (n0::l) u=r at *;have hstr:=fun A n b rest=>fD.2 A n b rest r _ hmk;cases ho2:bd r
   ·have hn:dY bd s t=none:=by rw[hT,if_neg (by simp[ho2])]
    rw[ho2] at f80;have R:=y6 @hlc (y6 @hi0 (y6 @hi1 (y6 @hi2 (y6 @hi3 (y6 @hi4 (y6 @hi5 (y6 @hi6 (y6 @ha0 (y6 @ha1 (y6 @ha2 (y6 @ha3 (y6 @ha4 (y6 @ha5 (y6 @ha6 (y6 @nE (y6 @hstr (y6 @fD (y6 @jG (y6 @bm aC)))))))))))))))))))
    repeat' ((first |(with_reducible refine .guard (fun hb =>?_) (fun hb =>?_) <;>try simp only[hb])|(refine U.lp (gs:=Aw) (gs1:=[_,_]) rfl fun K hK =>?_)|refine U.aG (by decide +kernel) rfl fun K hK =>?_|refine .flat _ (f80) rfl ?_|(refine .aE [0,1,4,5,6,7,8,9,10,11,12,20,28,29,59,75] hK ?_;clear hK K)|(with_reducible refine .done (hK _ ?_);clear hK K)|refine U.of rfl ?_|(with_reducible refine av.aF (fun h =>?_) (fun h =>?_) <;>try simp only[h])) <;>try simp only[aH,R,simprocAttr])
    all_goals clear R
    refine mL ?_ (oj hn rfl rfl rfl rfl rfl rfl);rfl
   rw[ho2] at f80;have f81:=oL s hs r ho2;by_cases hq:dy s r=t
   ·by_cases hz:n0=du s (da r)
    ·have hn:gJ s t=(r,du s (da r),true):=by rw[gJ,hT,if_pos ⟨ho2,hq,hz⟩]
     have d1:(n0 != du s (da r))=false:=by simp[hz]
     have d2:(decide (dy s r=t))=true:=decide_eq_true hq;have R:=y6 @hlc (y6 @hi0 (y6 @hi1 (y6 @hi2 (y6 @hi3 (y6 @hi4 (y6 @hi5 (y6 @hi6 (y6 @ha0 (y6 @ha1 (y6 @ha2 (y6 @ha3 (y6 @ha4 (y6 @ha5 (y6 @ha6 (y6 @d1 (y6 @d2 (y6 @gK (y6 @nE (y6 @hstr (y6 @fD (y6 @qk (y6 @jG (y6 @bm aC)))))))))))))))))))))))
     repeat' ((first |(with_reducible refine .guard (fun hb =>?_) (fun hb =>?_) <;>try simp only[hb])|refine U.aG (by decide +kernel) rfl fun K hK =>?_|refine .flat _ (f80) rfl ?_|refine .lead _ (f81) ?_|(refine U.l9 (gs:=uR) [] [(4,[1900004]),(5,[1900005]),(6,[1900006])] [0,1,2,3,4] (by decide +kernel) (dC.of (by simp[jD,cj,I.only])) fun K hK =>?_;simp only[kl,uR,List.getD_cons_zero,List.getD_cons_succ,R,simprocAttr])|(refine .aE [0,1,4,5,6,7,8,9,10,11,12,20,28,29,59,75] hK ?_;clear hK K)|(with_reducible refine .done (hK _ ?_);clear hK K)|refine U.of rfl ?_|(with_reducible refine av.aF (fun h =>?_) (fun h =>?_) <;>try simp only[h])) <;>try simp only[aH,R,simprocAttr])
     all_goals clear R
     exact ⟨⟨⟨_,rfl,(eB _).trans (eB _).symm⟩,⟨_,rfl,rfl⟩,⟨_,rfl,rfl⟩,trivial⟩,Dw (r:=r) (n:=du s (da r)) (b:=true) (show _∧_ by rw[hn];exact ⟨rfl,rfl⟩) rfl rfl rfl rfl rfl rfl⟩
    ·have hn:dY bd s t=none:=by rw[hT,if_neg (fun k=>hz k.2.2)]
     have d1:(n0 != du s (da r))=true:=by simp[hz]
     have d2:(decide (dy s r=t))=true:=decide_eq_true hq;have R:=y6 @hlc (y6 @hi0 (y6 @hi1 (y6 @hi2 (y6 @hi3 (y6 @hi4 (y6 @hi5 (y6 @hi6 (y6 @ha0 (y6 @ha1 (y6 @ha2 (y6 @ha3 (y6 @ha4 (y6 @ha5 (y6 @ha6 (y6 @d1 (y6 @d2 (y6 @gK (y6 @nE (y6 @hstr (y6 @fD (y6 @qk (y6 @jG (y6 @bm aC)))))))))))))))))))))))
     repeat' ((first |(with_reducible refine .guard (fun hb =>?_) (fun hb =>?_) <;>try simp only[hb])|(refine U.lp (gs:=uQ) (gs1:=[_,_]) rfl fun K hK =>?_)|refine U.aG (by decide +kernel) rfl fun K hK =>?_|refine .flat _ (f80) rfl ?_|refine .lead _ (f81) ?_|(refine .aE [0,1,4,5,6,7,8,9,10,11,12,20,28,29,59,75] hK ?_;clear hK K)|(with_reducible refine .done (hK _ ?_);clear hK K)|refine U.of rfl ?_|(with_reducible refine av.aF (fun h =>?_) (fun h =>?_) <;>try simp only[h])) <;>try simp only[aH,R,simprocAttr])
     all_goals clear R
     refine mL ?_ (oj hn rfl rfl rfl rfl rfl rfl);rfl
   ·have hn:dY bd s t=none:=by rw[hT,if_neg (fun k=>hq k.2.1)]
    have d2:(decide (dy s r=t))=false:=decide_eq_false hq;have R:=y6 @hlc (y6 @hi0 (y6 @hi1 (y6 @hi2 (y6 @hi3 (y6 @hi4 (y6 @hi5 (y6 @hi6 (y6 @ha0 (y6 @ha1 (y6 @ha2 (y6 @ha3 (y6 @ha4 (y6 @ha5 (y6 @ha6 (y6 @d2 (y6 @gK (y6 @nE (y6 @hstr (y6 @fD (y6 @qk (y6 @jG (y6 @bm aC))))))))))))))))))))))
    repeat' ((first |(with_reducible refine .guard (fun hb =>?_) (fun hb =>?_) <;>try simp only[hb])|(refine U.lp (gs:=uQ) (gs1:=[_,_]) rfl fun K hK =>?_)|refine U.aG (by decide +kernel) rfl fun K hK =>?_|refine .flat _ (f80) rfl ?_|refine .lead _ (f81) ?_|(refine .aE [0,1,4,5,6,7,8,9,10,11,12,20,28,29,59,75] hK ?_;clear hK K)|(with_reducible refine .done (hK _ ?_);clear hK K)|refine U.of rfl ?_|(with_reducible refine av.aF (fun h =>?_) (fun h =>?_) <;>try simp only[h])) <;>try simp only[aH,R,simprocAttr])
    all_goals clear R
    refine mL ?_ (oj hn rfl rfl rfl rfl rfl rfl);rfl
 ·have hd:decide (t.getLast?=some 10)=false:=decide_eq_false hl;have hn:dY bd s t=none:=by rw[dY,if_neg hl]
  rw[hd] at hC;have R:=y6 @hd (y6 @pd (y6 @jG (y6 @bm aC)))
  repeat' ((first |(with_reducible refine .guard (fun hb =>?_) (fun hb =>?_) <;>try simp only[hb])|(refine U.lp (gs:=Ax) (gs1:=[_,_]) rfl fun K hK =>?_)|refine U.aG (by decide +kernel) rfl fun K hK =>?_|refine .flat _ (hC) rfl ?_|(refine .aE [0,1,4,5,6,7,8,9,10,11,12,20,28,29,59,75] hK ?_;clear hK K)|(with_reducible refine .done (hK _ ?_);clear hK K)|refine U.of rfl ?_|(with_reducible refine av.aF (fun h =>?_) (fun h =>?_) <;>try simp only[h])) <;>try simp only[aH,R,simprocAttr])
  all_goals clear R
  refine mL ?_ (oj hn rfl rfl rfl rfl rfl rfl);rfl
theorem FE{s:Int}(hs:0≤s∧s<1000003){t:List UInt8}(ht:t.length≤281474976710656):eL Tryz.prog 70 [enc s,enc (al.of t)] [] (fun r os'=>r=kF (gJ s t)∧os'=[]):=by
 refine eL.Wq Tryz.func70 HF Le Kd (t8 rfl) (t8 rfl) (fun m hm=>by simp[aI,aD] at hm) (zs:=nu) UE Ib (by decide) fun hwf W0 bB E1 =>?_;simp only[bA,Z4];clear hwf;refine .gW (by decide +kernel) fun K hK =>?_
 try simp only[Au,aZ,simprocAttr]
 refine .done (hK _ ?_);simp only[cQ];refine ⟨_,_,mV,gI default 0 false,[0,1,4,5,6],[enc s,enc (al.of t),.ptr 1900004 [],.ptr 1900005 [],.ptr 1900006 []],mH,pV s t,rfl,?_⟩;exact {
  bg:=rfl
  AK:=UC
  arg:=⟨.inl ⟨rfl,rfl,rfl⟩,.inl ⟨(il _ _).symm,bI _ _,eZ _⟩,.inl ⟨rfl,rfl,rfl⟩,.inl ⟨rfl,rfl,rfl⟩,.inl ⟨rfl,rfl,rfl⟩,trivial⟩
  xE:=Gm s t
  D9:=rfl
  len:=rfl
  box:=fun q hq=>by
   simp only[mH,nu,List.zip_cons_cons,List.zip_nil_right,zy0,List.not_mem_nil,or_false] at hq;rcases hq with rfl | rfl | rfl <;>exact ⟨_,rfl,rfl⟩
  lP:=fun m hm=>by
   have:=lf.1 hm;exact ⟨Nat.le_trans (t8 rfl:_≤1000000) (by omega),by omega⟩
  rest:=fun W D E d=>XA hs ht W D E _ d
  kN:=Gl s t }
theorem xa{s:Int}(hs:0≤s∧s<1000003){t:List UInt8}(ht:t.length≤281474976710656):aR Tryz.prog 70 [enc s,enc (al.of t)] (kF (gJ s t)):=aR.BC (FE hs ht)
def kp(s:Int)(t:List UInt8):ah×Int×Int:=if ee 0 1000002 s=false then (default,0,1) else match dY bd s t with
 |some (r,n)=>(r,n,0)
 |none=>(default,0,87)
theorem Fj(s:Int)(t:List UInt8)(ht:t.length≤281474976710656):aR Tryz.prog 31 [enc s,enc (al.of t)] (.tuple [enc (kp s t).1,enc (kp s t).2.1,enc (kp s t).2.2]):=by
 refine aR.bK Tryz.func31 Hw IK J4 (t8 rfl) (fun hwf W0 bB E1 =>?_);simp only[yw,CK,bA,Z4];clear hwf;have f1:=xd s;cases q1:ee 0 1000002 s
 ·rw[q1] at f1;have e:kp s t=(default,0,1):=by rw[kp,if_pos q1]
  rw[e];have R:=y6 @fu (y6 @fD aC)
  repeat' ((first |refine U.aG (by decide +kernel) rfl fun K hK =>?_|refine .flat _ (f1) rfl ?_|(refine .aE [0,1,4,5,6,7,8,9,12,22] hK ?_;clear hK K)|(with_reducible refine .done (hK _ ?_);clear hK K)|refine U.of rfl ?_|(with_reducible refine av.aF (fun h =>?_) (fun h =>?_) <;>try simp only[h])) <;>try simp only[aH,R,simprocAttr])
  all_goals clear R
  all_goals rfl
 rw[q1] at f1;have f2:=xa (s:=s) (by have:=rK.1 q1;omega) ht;rw[kF] at f2;cases h:dY bd s t with
 |none =>
  have e:kp s t=(default,0,87):=by rw[kp,if_neg (by simp[q1]),h]
  have e2:gJ s t=(default,0,false):=by rw[gJ,h]
  rw[e];rw[e2] at f2;have R:=y6 @fu (y6 @fD aC)
  repeat' ((first |refine U.aG (by decide +kernel) rfl fun K hK =>?_|refine .flat _ (f1) rfl ?_|refine .lead _ (f2) ?_|(refine .aE [0,1,4,5,6,7,8,9,12,22] hK ?_;clear hK K)|(with_reducible refine .done (hK _ ?_);clear hK K)|refine U.of rfl ?_|(with_reducible refine av.aF (fun h =>?_) (fun h =>?_) <;>try simp only[h])) <;>try simp only[aH,R,simprocAttr])
  all_goals clear R
  all_goals rfl
 |some p =>
  obtain ⟨r,n⟩:=p;have e:kp s t=(r,n,0):=by rw[kp,if_neg (by simp[q1]),h]
  have e2:gJ s t=(r,n,true):=by rw[gJ,h]
  rw[e];rw[e2] at f2;have R:=y6 @fu (y6 @fD aC)
  repeat' ((first |refine U.aG (by decide +kernel) rfl fun K hK =>?_|refine .flat _ (f1) rfl ?_|refine .lead _ (f2) ?_|(refine .aE [0,1,4,5,6,7,8,9,12,22] hK ?_;clear hK K)|(with_reducible refine .done (hK _ ?_);clear hK K)|refine U.of rfl ?_|(with_reducible refine av.aF (fun h =>?_) (fun h =>?_) <;>try simp only[h])) <;>try simp only[aH,R,simprocAttr])
  all_goals clear R
  all_goals rfl
theorem jr{α:Type}{l:List α}{i:Nat}(h:i<l.length):l.take (i+1)=l.take i++[l[i]]:=List.take_succ_eq_append_getElem h
theorem qn(a:List ah):0≤dR 1 a∧dR 1 a<1000003:=Et a (by omega)
theorem rY{s:Int}(hs:0≤s∧s<1000003){r:ah}(h:bd r=true):(dy s r).length≤240:=by
 have h1:=tU (k:=160) (sw h) (sv h);have h2:=oB hs (da r);have h3:=pD (k:=7) (n:=du s (da r)) (by omega);simp only[dy,dA,List.flatMap_cons,List.flatMap_nil,Z1,zy1,zz8];omega
theorem tg:∀ (l:List ah) {s:Int},0≤s∧s<1000003→(∀ r∈l,bd r=true)→(dZ s l).length≤240*l.length
 | [],_,_,_=>by simp[dZ]
 |r::l,s,hs,h=>by
  have h1:=rY hs (h r (by simp));have h2:=tg l (oB hs (da r)) fun q hq=>h q (by simp[hq]);simp only[dZ,Z1,zy1];omega
theorem EZ(l:List ah)(hl:l.length≤4000000000000)(h:∀ r∈l,bd r=true):aR Tryz.prog 137 [enc l] (enc (dR 1 l)):=by
 refine aR.bK Tryz.func137 Ha Ip JK (t8 rfl) (fun hwf W0 bB E1 =>?_);simp only[x9,Cq,bA];clear hwf;have R:=aC
 repeat' ((first |refine U.aG (by decide +kernel) rfl fun K hK =>?_|(refine .aE [0,2,3,5,6,7,8,9] hK ?_;clear hK K)|(with_reducible refine .done (hK _ ?_);clear hK K)|refine U.of rfl ?_|(with_reducible refine av.aF (fun h =>?_) (fun h =>?_) <;>try simp only[h])) <;>try simp only[aH,R,simprocAttr])
 all_goals clear R
 refine U.loop (fun i:Nat=>aw [(0,enc l),(3,.int .i64 (dR 1 (l.take i))),(6,enc l),(7,.int .i64 l.length),(8,.int .i64 i)] []) (fun i=>i≤l.length) (fun i=>l.length-i) 0 (zy9 _) ?_ ?_
 ·refine bC.cO ?_ ?_ ?_ ?_ <;>simp[cm,cv,ct,bW,cj,I.only,bI]
  all_goals rfl
 intro i hi;by_cases hlt:i<l.length
 ·have hlc:=fj hlt;have he:=fun A=>fi (A:=A) 8 hlt rfl;have hw:=eP (i:=i) (by omega);have hsn:=(tf (l.take i) l[i] 1).2;rw[←jr hlt] at hsn;have hok:=h l[i] (List.getElem_mem hlt);have hst:=qn (l.take i);generalize l[i]=r at *;generalize dR 1 (l.take i)=z at *;have f:=oL z hst r hok;have R:=y6 @hlc (y6 @he (y6 @hw (y6 @fu (y6 @fD aC))))
  repeat' ((first |refine U.aG (by decide +kernel) rfl fun K hK =>?_|refine .lead _ (f) ?_|(refine .aE [0,2,3,5,6,7,8,9] hK ?_;clear hK K)|(with_reducible refine .done (hK _ ?_);clear hK K)|refine U.of rfl ?_|(with_reducible refine av.aF (fun h =>?_) (fun h =>?_) <;>try simp only[h])) <;>try simp only[aH,R,simprocAttr])
  all_goals clear R
  refine ⟨i+1,by omega,by omega,?_⟩;rw[hsn];refine bC.cO ?_ ?_ ?_ ?_ <;>simp[cm,cv,ct,bW,cj,I.only,bI]
  all_goals rfl
 ·have hlc:=fH hlt;have hge:i=l.length:=by omega
  subst hge;rw[List.take_length];have R:=y6 @hlc aC
  repeat' ((first |refine U.aG (by decide +kernel) rfl fun K hK =>?_|(refine .aE [0,2,3,5,6,7,8,9] hK ?_;clear hK K)|(with_reducible refine .done (hK _ ?_);clear hK K)|refine U.of rfl ?_|(with_reducible refine av.aF (fun h =>?_) (fun h =>?_) <;>try simp only[h])) <;>try simp only[aH,R,simprocAttr])
  all_goals clear R
  all_goals rfl
theorem tx(l:List ah)(hl:l.length≤4000000000000)(h:∀ r∈l,bd r=true):aR Tryz.prog 90 [enc l] (enc (al.of (dZ 1 l))):=by
 refine aR.bK Tryz.func90 HW Ja Kt (t8 rfl) (fun hwf W0 bB E1 =>?_);simp only[yQ,C8,bA];clear hwf;have R:=aC
 repeat' ((first |refine U.aG (by decide +kernel) rfl fun K hK =>?_|(refine .aE [0,2,3,4,5,6,7,11] hK ?_;clear hK K)|(with_reducible refine .done (hK _ ?_);clear hK K)|refine U.of rfl ?_|(with_reducible refine av.aF (fun h =>?_) (fun h =>?_) <;>try simp only[h])) <;>try simp only[aH,R,simprocAttr])
 all_goals clear R
 refine U.loop (fun i:Nat=>aw [(0,enc l),(3,enc (al.of (dZ 1 (l.take i)))),(4,.int .i64 (dR 1 (l.take i))),(5,.int .i64 i)] []) (fun i=>i≤l.length) (fun i=>l.length-i) 0 (zy9 _) ?_ ?_
 ·refine bC.cO ?_ ?_ ?_ ?_ <;>simp[cm,cv,ct,bW,cj,I.only,bI]
  all_goals exact ⟨rfl,rfl⟩
 intro i hi;by_cases hlt:i<l.length
 ·have hlc:=fj hlt;have he:=fun A=>fi (A:=A) 8 hlt rfl;have hw:=eP (i:=i) (by omega);have hsn:=tf (l.take i) l[i] 1;rw[←jr hlt] at hsn;have hok:=h l[i] (List.getElem_mem hlt);have hst:=qn (l.take i);have hln:=tg (l.take i) (s:=1) (by omega) fun q hq=>h q (zy8 hq);have hli:(l.take i).length=i:=by rw[Y0];omega
  generalize l[i]=r at *;have hll:=rY hst hok;generalize dR 1 (l.take i)=z at *;generalize dZ 1 (l.take i)=u at *;have f:=Ft z hst r hok;have ha:=eF u (dy z r) (by omega);have R:=y6 @hlc (y6 @he (y6 @hw (y6 @ha aC)))
  repeat' ((first |refine U.aG (by decide +kernel) rfl fun K hK =>?_|refine .lead _ (f) ?_|(refine .aE [0,2,3,4,5,6,7,11] hK ?_;clear hK K)|(with_reducible refine .done (hK _ ?_);clear hK K)|refine U.of rfl ?_|(with_reducible refine av.aF (fun h =>?_) (fun h =>?_) <;>try simp only[h])) <;>try simp only[aH,R,simprocAttr])
  all_goals clear R
  refine ⟨i+1,by omega,by omega,?_⟩;rw[hsn.1,hsn.2];clear hsn;refine bC.cO ?_ ?_ ?_ ?_ <;>simp[cm,cv,ct,bW,cj,I.only,bI]
  all_goals rfl
 ·have hlc:=fH hlt;have hge:i=l.length:=by omega
  subst hge;rw[List.take_length];have R:=y6 @hlc aC
  repeat' ((first |refine U.aG (by decide +kernel) rfl fun K hK =>?_|(refine .aE [0,2,3,4,5,6,7,11] hK ?_;clear hK K)|(with_reducible refine .done (hK _ ?_);clear hK K)|refine U.of rfl ?_|(with_reducible refine av.aF (fun h =>?_) (fun h =>?_) <;>try simp only[h])) <;>try simp only[aH,R,simprocAttr])
  all_goals clear R
  all_goals rfl
def db(l:List ah):ev 6 Int:=⟨(List.range 6).map fun m=>(dm l (m:Nat):Int),by simp⟩
theorem qV(l:List ah){k:Nat}(h:k<6):(db l).g k=dm l k:=by
 have:∀ j:Fin 6,(db l).g j=dm l (j:Nat):=fun j=>by
  match j with
  |0=>rfl
  |1=>rfl
  |2=>rfl
  |3=>rfl
  |4=>rfl
  |5=>rfl
 exact this ⟨k,h⟩
theorem zD:I.agg [.int .i64 0,.int .i64 0,.int .i64 0,.int .i64 0,.int .i64 0,.int .i64 0]=enc (db []):=rfl
theorem Jw(l:List ah)(r:ah){k:Nat}(h:k<6)(hm:r.aO=(k:Int)):(⟨(db l).l.set k ((db l).g k+1),by simp[(db l).h]⟩:ev 6 Int)=db (l++[r]):=by
 rw[qV l h];simp only[db,ev.mk.injEq];refine List.ext_getElem (by simp) fun i h1 h2 =>?_;simp only[List.getElem_set,List.getElem_map,List.getElem_range,nH,hm];by_cases e:k=i
 ·subst e;simp
 ·rw[if_neg e,if_neg (by omega)];simp
theorem XW(l:List ah)(r:ah){k:Nat}(h:k<6)(hm:r.aO=(k:Int)):(enc (db l):I).dp [k] (.int .i64 ((db l).g k+1))=enc (db (l++[r])):=by
 have h1:(enc (db l):I).c7=some ((db l).l.map enc):=rfl;rw[wi,h1];simp only[oz,AB (db l) h,qi,fA];rw[←Jw l r h hm]
 change I.agg _=I.agg (((db l).l.set k ((db l).g k+1)).map enc)
 rw[List.map_set];rfl
theorem Em(l:List ah)(r:ah){k:Nat}(h:k<6)(hm:r.aO=(k:Int))(A:ab)(n:Nat)(u:Int)(rest:List au):ep A none n [k] (enc (db l)) (.int .i64 ((db l).g k+1)) rest (some (.int .i64 u))=ao rest (A.aQ n (.box (enc (db (l++[r]))))):=by
 rw[fC (s:=none) (v:=.int .i64 ((db l).g k+1)) (old:=.int .i64 u) rfl rfl rfl,XW l r h hm]
theorem iR:(∀ A n b rest (q r:ev 6 Int),ep A (some 6) n [] b (enc q) rest (some (enc r))=ao rest (A.aQ n (.box (enc q))))∧(∀ q:ev 6 Int,bU (some 6) (enc q)=true) :=
 ⟨fun A n b rest q r=>by rw[fC (eZ _) (by rw[ik];rfl) ((eB _).trans (eB _).symm),fA],fun q=>by rw[ik];rfl⟩
theorem zl(l:List ah)(m:Int):dm l m≤l.length:=List.countP_le_length
def nV(l:List ah):Prop:=∀ r∈l,0≤r.aO∧r.aO≤5
theorem wQ(l:List ah)(hl:l.length≤4000000000000)(h:nV l):aR Tryz.prog 100 [enc l] (enc (db l)):=by
 refine aR.bK Tryz.func100 GU Ic Jy (t8 rfl) (fun hwf W0 bB E1 =>?_);simp only[xQ,Ce,bA];clear hwf;have R:=y6 @zD aC
 repeat' ((first |refine U.aG (by decide +kernel) rfl fun K hK =>?_|(refine .aE [0,2,3,5,6,7,8,9] hK ?_;clear hK K)|(with_reducible refine .done (hK _ ?_);clear hK K)|refine U.of rfl ?_|(with_reducible refine av.aF (fun h =>?_) (fun h =>?_) <;>try simp only[h])) <;>try simp only[aH,R,simprocAttr])
 all_goals clear R
 refine U.loop (fun i:Nat=>aw [(0,enc l),(2,.ptr 2 []),(3,.ptr 3 []),(6,enc l),(7,.int .i64 l.length),(8,.int .i64 i)] [(2,.box (enc (db []))),(3,.box (enc (db (l.take i))))]) (fun i=>i≤l.length) (fun i=>l.length-i) 0 (zy9 _) ?_ ?_
 ·refine bC.cO ?_ ?_ ?_ ?_ <;>simp[cm,cv,ct,bW,aI,cj,dX,I.only,ai.only,bI]
  all_goals rfl
 intro i hi;by_cases hlt:i<l.length
 ·have hlc:=fj hlt;have he:=fun A=>fi (A:=A) 8 hlt rfl;have hw:=eP (i:=i) (by omega);have hsn:=jr hlt;have hin:=h l[i] (List.getElem_mem hlt);have hle:=zl (l.take i);have hli:(l.take i).length=i:=by rw[Y0];omega
  generalize l[i]=r at *;obtain ⟨k,hk⟩:=Y9 hin.1;have hk6:k<6:=by omega
  have hib:=fun {y:Option I} =>rJ 1 (db (l.take i)) (y:=y) (show (0:Int)≤(k:Int)∧(k:Int)<(6:Nat) by omega) rfl;have hat:=fun p=>jX (p:=p) (db (l.take i)) hk6;have hst:=Em (l.take i) r hk6 hk;have hw1:IntKind.i64.wrap ((db (l.take i)).g k+1)=(db (l.take i)).g k+1:=by
   have:=hle k;rw[qV _ hk6];exact ea _ (by omega) (by omega)
  rw[←hsn] at hst;have R:=y6 @hlc (y6 @he (y6 @hw (y6 @hk (y6 @hib (y6 @hat (y6 @hst (y6 @hw1 (y6 @Int.toNat_natCast (y6 @fu (y6 @fD aC))))))))))
  repeat' ((first |refine U.aG (by decide +kernel) rfl fun K hK =>?_|(refine .aE [0,2,3,5,6,7,8,9] hK ?_;clear hK K)|(with_reducible refine .done (hK _ ?_);clear hK K)|refine U.of rfl ?_|(with_reducible refine av.aF (fun h =>?_) (fun h =>?_) <;>try simp only[h])) <;>try simp only[aH,R,simprocAttr])
  all_goals clear R
  refine ⟨i+1,by omega,by omega,?_⟩;clear hsn;refine bC.cO ?_ ?_ ?_ ?_ <;>simp[cm,cv,ct,bW,aI,cj,dX,I.only,ai.only,bI]
  all_goals rfl
 ·have hlc:=fH hlt;have hge:i=l.length:=by omega
  subst hge;rw[List.take_length];have R:=y6 @hlc (y6 @iR aC)
  repeat' ((first |refine U.aG (by decide +kernel) rfl fun K hK =>?_|(refine .aE [0,2,3,5,6,7,8,9] hK ?_;clear hK K)|(with_reducible refine .done (hK _ ?_);clear hK K)|refine U.of rfl ?_|(with_reducible refine av.aF (fun h =>?_) (fun h =>?_) <;>try simp only[h])) <;>try simp only[aH,R,simprocAttr])
  all_goals clear R
  all_goals rfl
theorem wR(l:List ah)(hl:l.length≤4000000000000)(h:nV l):aR Tryz.prog 102 [enc l] (enc (db l)):=by
 refine aR.bK Tryz.func102 GV Ie Jz (t8 rfl) (fun hwf W0 bB E1 =>?_);simp only[xR,Cf,bA];clear hwf;have R:=y6 @zD aC
 repeat' ((first |refine U.aG (by decide +kernel) rfl fun K hK =>?_|(refine .aE [0,2,3,4,8] hK ?_;clear hK K)|(with_reducible refine .done (hK _ ?_);clear hK K)|refine U.of rfl ?_|(with_reducible refine av.aF (fun h =>?_) (fun h =>?_) <;>try simp only[h])) <;>try simp only[aH,R,simprocAttr])
 all_goals clear R
 refine U.loop (fun i:Nat=>aw [(0,enc l),(2,.ptr 2 []),(3,.ptr 3 []),(4,.int .i64 i)] [(2,.box (enc (db []))),(3,.box (enc (db (l.take i))))]) (fun i=>i≤l.length) (fun i=>l.length-i) 0 (zy9 _) ?_ ?_
 ·refine bC.cO ?_ ?_ ?_ ?_ <;>simp[cm,cv,ct,bW,aI,cj,dX,I.only,ai.only,bI]
  all_goals rfl
 intro i hi;by_cases hlt:i<l.length
 ·have hlc:=fj hlt;have he:=fun A=>fi (A:=A) 8 hlt rfl;have hw:=eP (i:=i) (by omega);have hsn:=jr hlt;have hin:=h l[i] (List.getElem_mem hlt);have hle:=zl (l.take i);have hli:(l.take i).length=i:=by rw[Y0];omega
  generalize l[i]=r at *;obtain ⟨k,hk⟩:=Y9 hin.1;have hk6:k<6:=by omega
  have hib:=fun {y:Option I} =>rJ 1 (db (l.take i)) (y:=y) (show (0:Int)≤(k:Int)∧(k:Int)<(6:Nat) by omega) rfl;have hat:=fun p=>jX (p:=p) (db (l.take i)) hk6;have hst:=Em (l.take i) r hk6 hk;have hw1:IntKind.i64.wrap ((db (l.take i)).g k+1)=(db (l.take i)).g k+1:=by
   have:=hle k;rw[qV _ hk6];exact ea _ (by omega) (by omega)
  rw[←hsn] at hst;have R:=y6 @hlc (y6 @he (y6 @hw (y6 @hk (y6 @hib (y6 @hat (y6 @hst (y6 @hw1 (y6 @Int.toNat_natCast aC))))))))
  repeat' ((first |refine U.aG (by decide +kernel) rfl fun K hK =>?_|(refine .aE [0,2,3,4,8] hK ?_;clear hK K)|(with_reducible refine .done (hK _ ?_);clear hK K)|refine U.of rfl ?_|(with_reducible refine av.aF (fun h =>?_) (fun h =>?_) <;>try simp only[h])) <;>try simp only[aH,R,simprocAttr])
  all_goals clear R
  refine ⟨i+1,by omega,by omega,?_⟩;clear hsn;refine bC.cO ?_ ?_ ?_ ?_ <;>simp[cm,cv,ct,bW,aI,cj,dX,I.only,ai.only,bI]
  all_goals rfl
 ·have hlc:=fH hlt;have hge:i=l.length:=by omega
  subst hge;rw[List.take_length];have R:=y6 @hlc (y6 @iR aC)
  repeat' ((first |refine U.aG (by decide +kernel) rfl fun K hK =>?_|(refine .aE [0,2,3,4,8] hK ?_;clear hK K)|(with_reducible refine .done (hK _ ?_);clear hK K)|refine U.of rfl ?_|(with_reducible refine av.aF (fun h =>?_) (fun h =>?_) <;>try simp only[h])) <;>try simp only[aH,R,simprocAttr])
  all_goals clear R
  all_goals rfl
theorem rQ(l:List ah){m:Int}(h:0≤m∧m≤5):mB 6 1 none m (some ((db l).l.map enc))=some (.int .i64 (dm l m)):=by
 obtain ⟨k,rfl⟩:=Y9 h.1;have hk:k<6:=by omega
 rw[UT (x:=db l) 1 (k:=(k:Int)) ⟨h.1,by simpa using hk⟩ rfl];have e:enc ((db l).l[((k:Int)).toNat]'((db l).lt (by simpa using hk)))=I.int .i64 (dm l k):=by
  have:=qV l hk;rw[←ev.uX _ hk] at this;rw[←this];rfl
 rw[e];rfl
theorem xb(l:List ah)(r:ah)(hl:l.length≤4000000000000)(h:nV l)(hr:0≤r.aO∧r.aO≤5):aR Tryz.prog 71 [enc l,enc r] (enc (c8 l r)):=by
 refine aR.bK Tryz.func71 HG IV Ke (t8 rfl) (fun hwf W0 bB E1 =>?_);simp only[yE,CT,bA,Z4];clear hwf;have hF:=wQ l hl h;have hix:=rQ l hr;rw[show c8 l r=(decide ((l.length:Int)<60)&&((dm l r.aO:Int)==r.no)) by
  simp only[c8];congr 1;rw[decide_eq_decide];omega]
 cases q1:decide ((l.length:Int)<60)
 ·have R:=y6 @q1 (y6 @hix (y6 @iR aC))
  repeat' ((first |(with_reducible refine .guard (fun hb =>?_) (fun hb =>?_) <;>try simp only[hb])|refine U.aG (by decide +kernel) rfl fun K hK =>?_|refine .lead _ (hF) ?_|(refine .aE [0,1,3,4] hK ?_;clear hK K)|(with_reducible refine .done (hK _ ?_);clear hK K)|refine U.of rfl ?_|(with_reducible refine av.aF (fun h =>?_) (fun h =>?_) <;>try simp only[h])) <;>try simp only[aH,R,simprocAttr])
  all_goals clear R
  all_goals rfl
 ·have R:=y6 @q1 (y6 @hix (y6 @iR aC))
  repeat' ((first |(with_reducible refine .guard (fun hb =>?_) (fun hb =>?_) <;>try simp only[hb])|refine U.aG (by decide +kernel) rfl fun K hK =>?_|refine .lead _ (hF) ?_|(refine .aE [0,1,3,4] hK ?_;clear hK K)|(with_reducible refine .done (hK _ ?_);clear hK K)|refine U.of rfl ?_|(with_reducible refine av.aF (fun h =>?_) (fun h =>?_) <;>try simp only[h])) <;>try simp only[aH,R,simprocAttr])
  all_goals clear R
  all_goals rfl
theorem Fq(l:List ah)(r:ah)(hl:l.length≤4000000000000)(h:nV l)(hr:bd r=true→0≤r.aO∧r.aO≤5):aR Tryz.prog 72 [enc l,enc r] (enc (bd r&&c8 l r)):=by
 refine aR.bK Tryz.func72 HI IW Kf (t8 rfl) (fun hwf W0 bB E1 =>?_);simp only[yF,CU,bA,Z4];clear hwf;have hF:=wR l hl h;have f34:=w7 r;cases ho:bd r
 ·rw[show iH r=80 by simp[iH,ho]] at f34;have R:=y6 @iR aC
  repeat' ((first |(with_reducible refine .guard (fun hb =>?_) (fun hb =>?_) <;>try simp only[hb])|refine U.aG (by decide +kernel) rfl fun K hK =>?_|refine .flat _ (f34) rfl ?_|refine .lead _ (hF) ?_|(refine .aE [0,1,3,4] hK ?_;clear hK K)|(with_reducible refine .done (hK _ ?_);clear hK K)|refine U.of rfl ?_|(with_reducible refine av.aF (fun h =>?_) (fun h =>?_) <;>try simp only[h])) <;>try simp only[aH,R,simprocAttr])
  all_goals clear R
  all_goals rfl
 rw[show iH r=0 by simp[iH,ho]] at f34;have hix:=rQ l (hr ho);rw[show c8 l r=(decide ((l.length:Int)<60)&&(r.no==(dm l r.aO:Int))) by
  simp only[c8];rw[Bool.eq_iff_iff];simp;omega]
 cases q1:decide ((l.length:Int)<60)
 ·have R:=y6 @q1 (y6 @hix (y6 @iR aC))
  repeat' ((first |(with_reducible refine .guard (fun hb =>?_) (fun hb =>?_) <;>try simp only[hb])|refine U.aG (by decide +kernel) rfl fun K hK =>?_|refine .flat _ (f34) rfl ?_|refine .lead _ (hF) ?_|(refine .aE [0,1,3,4] hK ?_;clear hK K)|(with_reducible refine .done (hK _ ?_);clear hK K)|refine U.of rfl ?_|(with_reducible refine av.aF (fun h =>?_) (fun h =>?_) <;>try simp only[h])) <;>try simp only[aH,R,simprocAttr])
  all_goals clear R
  all_goals rfl
 ·have R:=y6 @q1 (y6 @hix (y6 @iR aC))
  repeat' ((first |(with_reducible refine .guard (fun hb =>?_) (fun hb =>?_) <;>try simp only[hb])|refine U.aG (by decide +kernel) rfl fun K hK =>?_|refine .flat _ (f34) rfl ?_|refine .lead _ (hF) ?_|(refine .aE [0,1,3,4] hK ?_;clear hK K)|(with_reducible refine .done (hK _ ?_);clear hK K)|refine U.of rfl ?_|(with_reducible refine av.aF (fun h =>?_) (fun h =>?_) <;>try simp only[h])) <;>try simp only[aH,R,simprocAttr])
  all_goals clear R
  all_goals rfl
def er:List ah→List ah→Bool
 |_,[]=>true
 |out,r::l=>bd r&&c8 out r&&er (out++[r]) l
theorem oF:∀ (l out:List ah),er out l=true↔eH bd c8 out l
 | [],_=>by simp[er,eH]
 |r::l,out=>by simp only[er,eH,Z0,oF l,and_assoc]
theorem EH{l:List ah}{i:Nat}(h:i<l.length):er (l.take i) (l.drop i)=(bd l[i]&&c8 (l.take i) l[i]&&er (l.take (i+1)) (l.drop (i+1))):=by
 rw[List.drop_eq_getElem_cons h,er,←jr h]
theorem kg{r:ah}(h:bd r=true):0≤r.aO∧r.aO≤5:=(pR (pS h)).1
theorem vD{l:List ah}{i:Nat}(hi:i<l.length)(h:∀ r∈l.take i,bd r=true)(h2:bd l[i]=true):∀ r∈l.take (i+1),bd r=true:=fun r hr=>by
 rw[jr hi] at hr;rcases zz7.1 hr with h1 | h1
 ·exact h r h1
 ·rw[zy2.1 h1];exact h2
theorem FC(l:List ah)(hl:l.length≤4000000000000):aR Tryz.prog 98 [enc l] (enc (er [] l)):=by
 refine aR.bK Tryz.func98 H2 Jf Kz (t8 rfl) (fun hwf W0 bB E1 =>?_);simp only[yV,Dd,bA];clear hwf;have R:=aC
 repeat' ((first |(with_reducible refine .guard (fun hb =>?_) (fun hb =>?_) <;>try simp only[hb])|refine U.aG (by decide +kernel) rfl fun K hK =>?_|(refine .aE [0,2,3,4,5,6,7,8,22] hK ?_;clear hK K)|(with_reducible refine .done (hK _ ?_);clear hK K)|refine U.of rfl ?_|(with_reducible refine av.aF (fun h =>?_) (fun h =>?_) <;>try simp only[h])) <;>try simp only[aH,R,simprocAttr])
 all_goals clear R
 refine U.loop (fun i:Nat=>aw [(0,enc l),(5,enc l),(6,.int .i64 l.length),(7,.int .i64 i)] []) (fun i=>i≤l.length∧(∀ r∈l.take i,bd r=true)∧er [] l=er (l.take i) (l.drop i)) (fun i=>l.length-i) 0 ⟨zy9 _,by simp,by simp⟩ ?_ ?_
 ·refine bC.cO ?_ ?_ ?_ ?_ <;>simp[cm,cv,ct,bW,cj,I.only,bI]
  all_goals rfl
 rintro i ⟨hi,hk,heq⟩;by_cases hlt:i<l.length
 ·have hlc:=fj hlt;have he:=fun A=>fi (A:=A) 8 hlt rfl;have hw:=eP (i:=i) (by omega);have hnx:=vD hlt hk;rw[EH hlt] at heq;rw[heq];have hsl:=fun A=>D7 (l:=l) (k:=i) A (esz:=8) rfl (by omega);have hli:(l.take i).length=i:=by rw[Y0];omega
  generalize l[i]=r at *;have f80:=oK r;cases q1:bd r
  ·rw[q1] at f80;have R:=y6 @hlc (y6 @he (y6 @hw (y6 @fu (y6 @fD aC))))
   repeat' ((first |(with_reducible refine .guard (fun hb =>?_) (fun hb =>?_) <;>try simp only[hb])|refine U.aG (by decide +kernel) rfl fun K hK =>?_|refine .flat _ (f80) rfl ?_|(refine .aE [0,2,3,4,5,6,7,8,22] hK ?_;clear hK K)|(with_reducible refine .done (hK _ ?_);clear hK K)|refine U.of rfl ?_|(with_reducible refine av.aF (fun h =>?_) (fun h =>?_) <;>try simp only[h])) <;>try simp only[aH,R,simprocAttr])
   all_goals clear R
   all_goals rfl
  rw[q1] at f80;have f71:=xb (l.take i) r (by omega) (fun q hq=>kg (hk q hq)) (kg q1);cases q2:c8 (l.take i) r
  ·rw[q2] at f71;have R:=y6 @hlc (y6 @he (y6 @hw (y6 @hsl (y6 @fu (y6 @fD aC)))))
   repeat' ((first |(with_reducible refine .guard (fun hb =>?_) (fun hb =>?_) <;>try simp only[hb])|refine U.aG (by decide +kernel) rfl fun K hK =>?_|refine .flat _ (f80) rfl ?_|refine .flat _ (f71) rfl ?_|(refine .aE [0,2,3,4,5,6,7,8,22] hK ?_;clear hK K)|(with_reducible refine .done (hK _ ?_);clear hK K)|refine U.of rfl ?_|(with_reducible refine av.aF (fun h =>?_) (fun h =>?_) <;>try simp only[h])) <;>try simp only[aH,R,zz4,simprocAttr])
   all_goals clear R
   all_goals rfl
  rw[q2] at f71;have R:=y6 @hlc (y6 @he (y6 @hw (y6 @hsl (y6 @fu (y6 @fD aC)))))
  repeat' ((first |(with_reducible refine .guard (fun hb =>?_) (fun hb =>?_) <;>try simp only[hb])|refine U.aG (by decide +kernel) rfl fun K hK =>?_|refine .flat _ (f80) rfl ?_|refine .flat _ (f71) rfl ?_|(refine .aE [0,2,3,4,5,6,7,8,22] hK ?_;clear hK K)|(with_reducible refine .done (hK _ ?_);clear hK K)|refine U.of rfl ?_|(with_reducible refine av.aF (fun h =>?_) (fun h =>?_) <;>try simp only[h])) <;>try simp only[aH,R,zz4,simprocAttr])
  all_goals clear R
  refine ⟨i+1,⟨by omega,hnx q1,?_⟩,by omega,?_⟩
  ·rfl
  refine bC.cO ?_ ?_ ?_ ?_ <;>simp[cm,cv,ct,bW,cj,I.only,bI]
  all_goals rfl
 ·have hlc:=fH hlt;rw[heq,List.drop_eq_nil_of_le (by omega),er];have R:=y6 @hlc aC
  repeat' ((first |(with_reducible refine .guard (fun hb =>?_) (fun hb =>?_) <;>try simp only[hb])|refine U.aG (by decide +kernel) rfl fun K hK =>?_|(refine .aE [0,2,3,4,5,6,7,8,22] hK ?_;clear hK K)|(with_reducible refine .done (hK _ ?_);clear hK K)|refine U.of rfl ?_|(with_reducible refine av.aF (fun h =>?_) (fun h =>?_) <;>try simp only[h])) <;>try simp only[aH,R,simprocAttr])
  all_goals clear R
  all_goals rfl
theorem D5{A:ab}{l:List ah}{i:Nat}(h:i≤l.length):iA A 8 none (some (.int .i64 i)) (some (.int .i64 i)) (enc l)=some (if i=0 then .c0 8 else enc (l.take i)):=by
 simp only[iA,gR,show Enc.sz ah=8 from rfl,if_true,hU,gy,Z2];rw[if_pos ⟨by omega,by omega,by omega,by omega⟩];by_cases h0:i=0
 ·simp[h0]
 ·rw[if_neg (by simp;omega),if_neg h0];simp
theorem D6{i:Nat}(l:List ah)(aB:Bool)(A:ab):ba aB A (if i=0 then .c0 8 else enc (l.take i))=some (enc (l.take i)):=by
 by_cases h0:i=0
 ·rw[if_pos h0,h0];simp only[ba];rfl
 ·rw[if_neg h0,iJ]
theorem Fx(l:List ah)(hl:l.length≤4000000000000):aR Tryz.prog 91 [enc l] (enc (er [] l)):=by
 refine aR.bK Tryz.func91 HX Jb Ku (t8 rfl) (fun hwf W0 bB E1 =>?_);simp only[yR,C9,bA];clear hwf;have R:=aC
 repeat' ((first |refine U.aG (by decide +kernel) rfl fun K hK =>?_|(refine .aE [0,2,3,7,19] hK ?_;clear hK K)|(with_reducible refine .done (hK _ ?_);clear hK K)|refine U.of rfl ?_|(with_reducible refine av.aF (fun h =>?_) (fun h =>?_) <;>try simp only[h])) <;>try simp only[aH,R,simprocAttr])
 all_goals clear R
 refine U.loop (fun i:Nat=>aw [(0,enc l),(3,.int .i64 i)] []) (fun i=>i≤l.length∧(∀ r∈l.take i,bd r=true)∧er [] l=er (l.take i) (l.drop i)) (fun i=>l.length-i) 0 ⟨zy9 _,by simp,by simp⟩ ?_ ?_
 ·refine bC.cO ?_ ?_ ?_ ?_ <;>simp[cm,cv,ct,bW,cj,I.only,bI]
  all_goals rfl
 rintro i ⟨hi,hk,heq⟩;by_cases hlt:i<l.length
 ·have hlc:=fj hlt;have he:=fun A=>fi (A:=A) 8 hlt rfl;have hw:=eP (i:=i) (by omega);have hnx:=vD hlt hk;rw[EH hlt] at heq;rw[heq];have hsl:=fun A=>D5 (A:=A) (l:=l) (i:=i) (by omega);have hli:(l.take i).length=i:=by rw[Y0];omega
  have hfv:=fun aB A=>D6 (i:=i) l aB A;generalize l[i]=r at *;have f72:=Fq (l.take i) r (by omega) (fun q hq=>kg (hk q hq)) kg;cases q2:(bd r&&c8 (l.take i) r)
  ·rw[q2] at f72;have R:=y6 @hlc (y6 @he (y6 @hw (y6 @hsl (y6 @hfv aC))))
   repeat' ((first |refine U.aG (by decide +kernel) rfl fun K hK =>?_|refine .flat _ (f72) rfl ?_|(refine .aE [0,2,3,7,19] hK ?_;clear hK K)|(with_reducible refine .done (hK _ ?_);clear hK K)|refine U.of rfl ?_|(with_reducible refine av.aF (fun h =>?_) (fun h =>?_) <;>try simp only[h])) <;>try simp only[aH,R,zz4,simprocAttr])
   all_goals clear R
   all_goals rfl
  rw[q2] at f72;have R:=y6 @hlc (y6 @he (y6 @hw (y6 @hsl (y6 @hfv aC))))
  repeat' ((first |refine U.aG (by decide +kernel) rfl fun K hK =>?_|refine .flat _ (f72) rfl ?_|(refine .aE [0,2,3,7,19] hK ?_;clear hK K)|(with_reducible refine .done (hK _ ?_);clear hK K)|refine U.of rfl ?_|(with_reducible refine av.aF (fun h =>?_) (fun h =>?_) <;>try simp only[h])) <;>try simp only[aH,R,zz4,simprocAttr])
  all_goals clear R
  refine ⟨i+1,⟨by omega,hnx (by rw[Z0] at q2;exact q2.1),?_⟩,by omega,?_⟩
  ·rfl
  refine bC.cO ?_ ?_ ?_ ?_ <;>simp[cm,cv,ct,bW,cj,I.only,bI]
  all_goals rfl
 ·have hlc:=fH hlt;rw[heq,List.drop_eq_nil_of_le (by omega),er];have R:=y6 @hlc aC
  repeat' ((first |refine U.aG (by decide +kernel) rfl fun K hK =>?_|(refine .aE [0,2,3,7,19] hK ?_;clear hK K)|(with_reducible refine .done (hK _ ?_);clear hK K)|refine U.of rfl ?_|(with_reducible refine av.aF (fun h =>?_) (fun h =>?_) <;>try simp only[h])) <;>try simp only[aH,R,simprocAttr])
  all_goals clear R
  all_goals rfl
end Go.Proofs.YtoffnnjbplgnaaaGreatDoor
namespace Go.Proofs.YtoffnnjbplgnaaaGreatDoor
open Go Go.Abs Go.Shelf Go.RowKit
open Go.Abs.Enc (enc)
def cH(r:ah):List Value:=[.int .i64 r.aO,.int .i64 r.no,.int .i64 r.kind,.int .i64 r.dW,.int .i64 r.known,.int .i64 r.e9,.int .i64 r.fo,.string ⟨r.text.toArray⟩]
theorem Dg{w:World}{D:aJ}{E:aM}{r:ah}{cs:List Value}(h:ae w D E (enc r) cs):cs=cH r:=by
 obtain ⟨h1,_⟩:=Dn (fm (v:=.agg cs.toArray) (by simp[aY,show (enc r:I).isAgg=true from rfl]) h);simp only[Value.agg.injEq] at h1;have:=congrArg Array.toList h1;simpa[cH] using this
theorem AW{n:Int}(h:0≤n∧n<100000000):IntKind.i64.min≤n∧n≤IntKind.i64.max:=by
 have a:IntKind.i64.min=-9223372036854775808:=rfl;have b:IntKind.i64.max=9223372036854775807:=rfl;omega
theorem Xm{w:World}{D:aJ}{E:aM}{r:ah}(h:bd r=true):ae w D E (enc r) (cH r):=by
 have hn:=sv h;have ht:=sw h
 show ae w D E (.agg [.agg [.int .i64 r.aO,.int .i64 r.no],.int .i64 r.kind,.int .i64 r.dW,.int .i64 r.known,.agg [.int .i64 r.e9,.int .i64 r.fo],.aj ⟨r.text.toArray⟩]) _
 have g:∀ n∈eD r,ae w D E (.int .i64 n) [.int .i64 n]:=fun n hn'=>⟨rfl,AW (hn n hn')⟩
 simp only[ae,az];refine ⟨[.int .i64 r.aO,.int .i64 r.no],_,rfl,⟨[.int .i64 r.aO],_,rfl,by simpa only[ae] using g r.aO (by simp[eD]),[.int .i64 r.no],[],rfl,by simpa only[ae] using g r.no (by simp[eD]),rfl⟩,
  [.int .i64 r.kind],_,rfl,by simpa only[ae] using g r.kind (by simp[eD]),[.int .i64 r.dW],_,rfl,by simpa only[ae] using g r.dW (by simp[eD]),[.int .i64 r.known],_,rfl,by simpa only[ae] using g r.known (by simp[eD]),
  [.int .i64 r.e9,.int .i64 r.fo],_,rfl,⟨[.int .i64 r.e9],_,rfl,by simpa only[ae] using g r.e9 (by simp[eD]),[.int .i64 r.fo],[],rfl,by simpa only[ae] using g r.fo (by simp[eD]),rfl⟩,
  [.string ⟨r.text.toArray⟩],[],rfl,⟨rfl,?_⟩,rfl⟩
 show r.text.toArray.size≤maxLen
 simp only[List.size_toArray,maxLen];omega
theorem H7{z:Int}(hz:0≤z∧z<1000003){r:ah}(h:bd r=true)(W:World)(hl:ew Tryz.prog W (fun _=>False)):Calls Tryz.prog 81 #[.int .i64 z,.agg (cH r).toArray] W fun e w'=>e=.returned (.tuple #[.string ⟨(dy z r).toArray⟩,.int .i64 (du z (da r))])∧Below W.heap.size W w':=by
 have hc:=oL z hz r h;refine (hc.2 W (fun _ _=>False) [.int .i64 z,.agg (cH r).toArray] hl (fun _ _ h=>h.elim) ?_).mono ?_
 ·simp only[ak];refine ⟨_,_,[.int .i64 z],rfl,rfl,?_,_,_,cH r,rfl,by simp[aY,show (enc r:I).isAgg=true from rfl],Xm h,rfl⟩
  show ae _ _ _ (.int .i64 z) _
  simp only[ae];exact ⟨trivial,AW (by omega)⟩
 ·rintro e w' ⟨v,D',rfl,hv,hb,_⟩;refine ⟨?_,hb⟩;have hv':∃ vs:List Value,v=.tuple vs.toArray∧ak w' D' cd [enc (al.of (dy z r)),enc (du z (da r))] vs:=hv;obtain ⟨vs,rfl,h2⟩:=hv';simp only[ak] at h2;obtain ⟨v1,_,c1,rfl,p1,r1,v2,_,c2,rfl,p2,iw,rfl⟩:=h2;have r1':ae w' D' cd (.aj ⟨(dy z r).toArray⟩) c1:=r1;have r2':ae w' D' cd (.int .i64 (du z (da r))) c2:=iw;simp only[ae] at r1' r2';obtain ⟨rfl,_⟩:=r1';obtain ⟨rfl,_⟩:=r2';simp[aY,show (enc (al.of (dy z r)):I).isAgg=false from rfl,show (enc (du z (da r)):I).isAgg=false from rfl] at p1 p2;subst p1 p2;rfl
def oO(w:World)(a:Option Addr)(l:List ah):Prop:=∀ (j:Nat) (h:j<l.length),∃ b off,a=some ⟨b,off,none⟩∧w.rangeAt b (off+j*8) (cH l[j])∧b<w.heap.size
theorem oO.later{w w':World}{a:Option Addr}{l:List ah}(h:oO w a l)(hb:Below w.heap.size w w'):oO w' a l:=by
 intro j hj;obtain ⟨b,off,h1,h2,h3⟩:=h j hj;refine ⟨b,off,h1,fun k v hk =>?_,zy7 h3 hb.size⟩;have:=h2 k v hk;simp only[World.cell?] at this ⊢;rw[hb.block b h3];exact this
theorem XM{w:World}{D:aJ}(hD:∀ b o,D b o→b<w.heap.size){l:List ah}{v:Value}(h:aP w D cd (enc l) v):∃ a cap,v=.slice a l.length cap∧oO w a l:=by
 have h':aP w D cd (.slice 8 (l.map enc)) v:=h;obtain ⟨a,cap,h1,h2,h3,h4,h5⟩:=kz h';refine ⟨a,cap,by rw[h1,Z2],fun j hj =>?_⟩;rcases h4 with h4 | ⟨b,off,cs,rfl,h6,h7⟩
 ·rw[List.map_eq_nil_iff] at h4;rw[h4] at hj;exact absurd hj (by simp)
 ·obtain ⟨c2,k1,k2⟩:=uw (k:=j) (x:=enc l[j]) h6 h7 h5 (by simp[hj]);have e:=Dg k2;subst e;refine ⟨b,off,rfl,fun k v hk=>(k1 k v hk).1,hD b (off+j*8+0) (k1 0 _ rfl).2⟩
theorem Yh(l:List ah)(hl:l.length≤1000000)(h:∀ r∈l,bd r=true)(a:Option Addr)(cap:Nat)(w:World)(hL:ew Tryz.prog w (fun _=>False))(hR:oO w a l) :
  Calls Tryz.prog 135 #[.slice a l.length cap] w fun e w'=>e=.returned (.string ⟨(dZ 1 l).toArray⟩)∧Below w.heap.size w w':=by
 go_enter Tryz.func135,Tryz.ntmps135
 go_wp2
 go_loopw [4,10] (fun s i wr=>∃ j:Nat,j≤l.length∧i=.int .i64 j∧s=.int .i64 (dR 1 (l.take j))∧kI w.heap.size w.heap.size (dZ 1 (l.take j)) wr∧Below w.heap.size w wr) (fun _ i _=>l.length-(RowKit.intOf i).toNat)
 case atStart =>
  refine ⟨0,by omega,rfl,rfl,.inl ⟨by omega,.slice none 0 0,heap_alloc_new w _,⟨rfl,.inl ⟨rfl,rfl⟩⟩,by simp[Value.ownBlock]⟩,ja w _⟩
 case round =>
  obtain ⟨j,hj,rfl,rfl,hI,hbw⟩:=hrel;have hB1:w.heap.size≤wr.heap.size:=hbw.size;by_cases hlt:j<l.length
  ·obtain ⟨b,off,ha,hr,hb⟩:=hR.later hbw j hlt;subst ha;have hok:=h l[j] (List.getElem_mem hlt);have hst:=qn (l.take j);have hsn:=tf (l.take j) l[j] 1;rw[←jr hlt] at hsn;generalize l[j]=r at *;have hcall:=H7 hst hok;have k0:wr.cell? ⟨b,off+j*8,none⟩=some (.int .i64 r.aO):=hr 0 _ rfl;have k1:wr.cell? ⟨b,off+j*8+1,none⟩=some (.int .i64 r.no):=hr 1 _ rfl;have k2:wr.cell? ⟨b,off+j*8+2,none⟩=some (.int .i64 r.kind):=hr 2 _ rfl;have k3:wr.cell? ⟨b,off+j*8+3,none⟩=some (.int .i64 r.dW):=hr 3 _ rfl;have k4:wr.cell? ⟨b,off+j*8+4,none⟩=some (.int .i64 r.known):=hr 4 _ rfl;have k5:wr.cell? ⟨b,off+j*8+5,none⟩=some (.int .i64 r.e9):=hr 5 _ rfl;have k6:wr.cell? ⟨b,off+j*8+6,none⟩=some (.int .i64 r.fo):=hr 6 _ rfl;have k7:wr.cell? ⟨b,off+j*8+7,none⟩=some (.string ⟨r.text.toArray⟩):=hr 7 _ rfl;simp only[cH] at hcall;have hw:=eP (i:=j) (by omega);have hlt':decide ((j:Int)<(l.length:Int))=true:=fj hlt;have hll:=rY hst hok;have htl:=tg (l.take j) (s:=1) (by omega) fun q hq=>h q (zy8 hq);have hli:(l.take j).length=j:=by rw[Y0];omega
   have hsz:(⟨(dy (dR 1 (l.take j)) r).toArray⟩:ByteArray).size=(dy (dR 1 (l.take j)) r).length:=by show (dy _ r).toArray.size=_;simp
   go_wp2_with (first | (go_at_call 81;refine (hcall _ (A5 hL (hbw.trans ((ja wr _).mono hB1)))).mono ?_;rintro e W1 ⟨rfl,hb1⟩) | (go_at_call 156;refine (EG w.heap.size w.heap.size _ _ _ (rO (rO hI (ja wr _)) hb1) (by rw[hsz];omega) (by have:=hb1.size;simp at this;omega)).mono ?_;rintro e W2 ⟨rfl,hI2,hb2,hk2⟩))
   refine ⟨⟨j+1,by omega,rfl,?_,?_,?_⟩,by simp only[RowKit.intOf];omega⟩
   ·rw[hsn.2]
   ·rw[hsn.1];exact hI2
   ·exact ((hbw.trans ((ja wr _).mono hB1)).trans (hb1.mono (by simp;omega))).trans hb2
  ·have hge:j=l.length:=by omega
   subst hge;have hlt':decide ((l.length:Int)<(l.length:Int))=false:=by simp
   rw[List.take_length] at hI
   go_wp2_with (go_at_call 157;refine (xI w.heap.size w.heap.size _ _ hI hB1).mono ?_;rintro e W2 ⟨rfl,hI2,hb2,hk2⟩)
   go_ret
   exact ⟨rfl,hbw.trans hb2⟩
theorem wW(l:List ah)(hl:l.length≤1000000)(h:∀ r∈l,bd r=true):aR Tryz.prog 135 [enc l] (enc (al.of (dZ 1 l))):=by
 refine ⟨G8,fun w D vs hL hD hv =>?_⟩;simp only[ak] at hv;obtain ⟨v,rest,cs,rfl,h1,h2,rfl⟩:=hv;obtain ⟨a,cap,rfl,hR⟩:=XM hD (fm h1 h2);refine (Yh l hl h a cap w hL hR).mono ?_;rintro e w' ⟨rfl,hbl⟩;have hlen:=tg l (s:=1) (by omega) h;exact ⟨_,D,rfl,DG (l:=dZ 1 l) (by unfold maxLen;omega),hbl,fun b o hd=>zy7 (hD b o hd) hbl.size,fun _ _ h _=>h⟩
end Go.Proofs.YtoffnnjbplgnaaaGreatDoor
namespace Go.Proofs.YtoffnnjbplgnaaaGreatDoor
open Go Go.Abs
open Go.Abs.Enc (enc)
theorem zr{c:UInt8} : ∀ {l:List UInt8},dw c l=none→∀ b∈l,b≠c
 | [],_=>by simp
 |b::l,h=>by
  rw[dw] at h;by_cases e:b=c
  ·rw[if_pos e] at h;cases h
  ·rw[if_neg e] at h;cases h2:dw c l with
   |some p=>rw[h2] at h;cases h
   |none =>
    intro x hx;rcases zy0.1 hx with rfl | hx
    ·exact e
    ·exact zr h2 x hx
theorem qZ{c:UInt8} : ∀ {l w v:List UInt8},dw c l=some (w,v)→l=w++c::v∧∀ b∈w,b≠c
 | [],_,_,h=>by simp[dw] at h
 |b::l,w,v,h=>by
  rw[dw] at h;by_cases e:b=c
  ·rw[if_pos e] at h;cases h;exact ⟨by rw[e];rfl,by simp⟩
  ·rw[if_neg e] at h;cases h2:dw c l with
   |none=>rw[h2] at h;cases h
   |some p =>
    obtain ⟨w2,v2⟩:=p;rw[h2,Z9] at h;cases h;obtain ⟨h3,h4⟩:=qZ h2;refine ⟨by rw[h3];rfl,fun x hx =>?_⟩;rcases zy0.1 hx with rfl | hx
    ·exact e
    ·exact h4 x hx
theorem vh{u:List UInt8}(h:dw 10 u=none):dF u=[]:=Bh (zr h)
theorem rZ{u w v:List UInt8}(h:dw 10 u=some (w,v)):dF u=(w++[10])::dF v:=by
 obtain ⟨rfl,h2⟩:=qZ h;exact Vn v h2
def fp:Nat→List UInt8→List UInt8
 |0,t=>t
 |k+1,t=>match dw 10 t with
  |none=>t
  |some p=>fp k p.2
theorem vW:∀ {k:Nat} {t w v:List UInt8},dw 10 (fp k t)=some (w,v)→fp (k+1) t=v
 |0,t,w,v,h=>by rw[fp] at h;rw[fp,h];rfl
 |k+1,t,w,v,h=>by
  rw[fp] at h ⊢;cases h2:dw 10 t with
  |none=>rw[h2] at h;simp only at h;rw[h2] at h;cases h
  |some p=>rw[h2] at h;exact vW h
theorem vV:∀ {k:Nat} {t:List UInt8},k≤(dF t).length→dF (fp k t)=(dF t).drop k
 |0,t,_=>rfl
 |k+1,t,h=>by
  rw[fp];cases h2:dw 10 t with
  |none=>rw[vh h2] at h;simp at h
  |some p =>
   obtain ⟨w,v⟩:=p;rw[rZ h2] at h ⊢;simp only[zy1] at h;exact vV (k:=k) (t:=v) (by omega)
theorem Dv:∀ (k:Nat) (t:List UInt8),(fp k t).length≤t.length
 |0,_=>Z7 _
 |k+1,t=>by
  rw[fp];cases h2:dw 10 t with
  |none=>exact Z7 _
  |some p =>
   have:=re h2;have:=Dv k p.2;simp only;omega
def dq(u:List UInt8)(out:List ah)(s:Int)(z:Nat):List (Nat×ai):=[(1000001,.box (enc (al.of u))),(1000004,.box (.own 1000080 out.length)),(1000080,.bJ 50 8 (out.map enc)),(1000005,.box (.int .i64 s)),(1000006,.box (.int .i64 (z:Int)))]
theorem nf(u:List UInt8)(out:List ah)(s:Int)(z:Nat)(u':List UInt8)(out':List ah)(s':Int)(z':Nat):ff (dq u out s z) (dq u' out' s' z'):=by
 refine ⟨fun n=>by simp only[dq,aI,aD];(repeat' split) <;>rfl,fun n x h =>?_,fun n h =>?_⟩
 ·simp only[dq,aD] at h
  repeat' split at h
  all_goals first | (cases h;done) | (simp only[v6] at h;subst h;exact ⟨by simp[dq,aI,aD,ai.only,bI,I.only,sA],rfl⟩)
 ·simp only[dq,aI,aD] at h
  repeat' split at h
  all_goals first | omega | (simp at h;done)
section
variable (t:List UInt8) (P:Nat→List ah→Int→Nat→Prop) (bh:List ah→Nat→Prop)
def rM(k:Nat)(os:List (Nat×ai)):Prop:=∃ out s z,os=dq (fp k t) out s z∧P k out s z
def rN(k:Nat)(os:List (Nat×ai)):Prop:=∃ out s z,os=dq (fp k t) out s z∧P (k+1) out s z
def pA(e:Option Nat)(os:List (Nat×ai)):Prop:=e=some 0∧∃ u out s z,os=dq u out s z∧bh out z
def nX(k:Nat):List I:=[enc (al.of ((dF t).getD k []))]
end
def DN(o:Obj)(v:Value)(t:List UInt8)(x:Nat×List ah×Int×Nat):ab:=aw [(0,.raw v),(1,.ptr 1000001 [])] (bO o (dq (fp x.1 t) x.2.1 x.2.2.1 x.2.2.2))
theorem AO{o:Obj}{u:List UInt8}{out:List ah}{s:Int}{z:Nat}{ts:List (Nat×I)} : ∀ n x,aD (bO o (dq u out s z)) n=some x→(aw ts (bO o (dq u out s z))).o n=some x∧x.only (aI (bO o (dq u out s z)))=true∧x.ed=true:=fun n x h =>
 ⟨h,(((nf u out s z u out s z).bO o o).ok n x h)⟩
theorem X9:∀ A n b rest (x y:List UInt8),ep A none n [] b (enc (al.of x)) rest (some (enc (al.of y)))=ao rest (A.aQ n (.box (enc (al.of x)))) :=
 fun A n b rest x y=>by rw[fC (s:=none) (v:=enc (al.of x)) (old:=enc (al.of y)) (eZ _) rfl rfl,fA]
theorem Vo{t:List UInt8}(ht:t.length≤281474976710656){P:Nat→List ah→Int→Nat→Prop}{bh:List ah→Nat→Prop}{out0:List ah}{s0:Int}{z0:Nat}(h0:P 0 out0 s0 z0)
  (Y:Value→List I→List (Nat×ai)→bX→Prop) (v:Value) (o:Obj) (oX:Option Nat→Obj) (hv:v.oneCell'=true)
  (hY:∀ k osb post,k<(dF t).length→rM t P k osb→(∀ r os2,(r=.bool true∧∃ osb2,os2=bO o osb2∧rN t P k osb2)∨(r=.bool false∧∃ e osb2,os2=bO (oX e) osb2∧pA bh e osb2)→post r os2)→Y v (nX t k) (bO o osb) post) :
  iV Tryz.prog 122 Y [.raw v,.ptr 1000001 []] (bO o (dq t out0 s0 z0)) (fun r os'=>r=.tuple []∧((∃ osb,os'=bO o osb∧rM t P (dF t).length osb)∨∃ e osb,os'=bO (oX e) osb∧pA bh e osb)):=by
 refine iV.bK Tryz.func122 yY Ih JC (t8 rfl) (t8 rfl) (((nf t out0 s0 z0 t out0 s0 z0).bO o o).lP) (fun hwf W0 bB E1 =>?_);simp only[xU,Ci,bA,Z4];clear hwf;refine U.block (U.loop (DN o v t) (fun x=>x.1≤(dF t).length∧P x.1 x.2.1 x.2.2.1 x.2.2.2) (fun x=>(dF t).length-x.1) (0,out0,s0,z0) ⟨by simp,h0⟩ ?_ ?_)
 ·exact bC.refl _
 rintro ⟨k,out,s,z⟩ ⟨hk,hP⟩;simp only at hk hP;have hrl:=Dv k t;have hrd:=vV hk;have hrn:=fun w v=>vW (k:=k) (t:=t) (w:=w) (v:=v);obtain ⟨u,hu⟩:∃ u,u=fp k t:=⟨_,rfl⟩
 have hfin:dF u=[]→∃ osb,bO o (dq u out s z)=bO o osb∧rM t P (dF t).length osb:=fun e=>by
  rw[hu,hrd,List.drop_eq_nil_iff] at e;have:k=(dF t).length:=by omega
  exact ⟨_,rfl,out,s,z,by rw[←this,←hu],by rw[←this];exact hP⟩
 simp only[DN,←hu];rw[←hu] at hrl hrd hrn;have heldF:=fun ts=>AO (o:=o) (u:=u) (out:=out) (s:=s) (z:=z) (ts:=ts);rcases hq:decide (u=[])
 rotate_left
 ·have hu0:u=[]:=of_decide_eq_true hq;have hf:=hfin (by rw[hu0];exact Bh (by simp));simp only[bO,dq] at hf heldF ⊢;have R:=y6 @ij (y6 @gK (y6 @hq (y6 @bm aC)))
  repeat' ((first |(with_reducible refine .guard (fun hb =>?_) (fun hb =>?_) <;>try simp only[hb])|refine U.aG (by decide +kernel) rfl fun K hK =>?_|(refine .aE [0,1,3,5,18] hK ?_;clear hK K)|(with_reducible refine .done (hK _ ?_);clear hK K)|refine U.of rfl ?_|(with_reducible refine av.aF (fun h =>?_) (fun h =>?_) <;>try simp only[h])) <;>try simp only[aH,R,simprocAttr])
  all_goals clear R
  rw[XC];exact ⟨_,[],heldF _,trivial,rfl,.inl hf⟩
 have hF:=EP (al.of u) 10;rw[al.dn] at hF;rcases qY 10 u with ⟨h1,h2⟩ | ⟨i,hi,h2,h1⟩
 ·have hf:=hfin (vh h1);obtain ⟨n,hn1⟩:∃ n:Int,n=-1:=⟨_,rfl⟩
  rw[h2,←hn1] at hF;have hneg:decide (n<0)=true:=by rw[hn1];rfl
  simp only[bO,dq] at hf heldF ⊢;have R:=y6 @ij (y6 @gK (y6 @hq (y6 @hneg (y6 @bm aC))))
  repeat' ((first |(with_reducible refine .guard (fun hb =>?_) (fun hb =>?_) <;>try simp only[hb])|refine U.aG (by decide +kernel) rfl fun K hK =>?_|refine .flat _ (hF) rfl ?_|(refine .aE [0,1,3,5,18] hK ?_;clear hK K)|(with_reducible refine .done (hK _ ?_);clear hK K)|refine U.of rfl ?_|(with_reducible refine av.aF (fun h =>?_) (fun h =>?_) <;>try simp only[h])) <;>try simp only[aH,R,simprocAttr])
  all_goals clear R
  rw[jN];exact ⟨_,[],heldF _,trivial,rfl,.inl hf⟩
 rw[h2] at hF;have hlt:k<(dF t).length:=by
  have:=congrArg List.length hrd;rw[rZ h1,List.length_drop] at this;simp only[zy1] at this;omega
 have jC:nX t k=[enc (al.of (u.take (i+1)))]:=by
  have e:(dF t)[k]=u.take i++[10]:=by
   have h3:=hrd;rw[rZ h1,List.drop_eq_getElem_cons hlt] at h3;exact (List.cons.inj h3).1.symm
  have h10:u[i]=10:=by
   obtain ⟨e1,_⟩:=qZ h1;have:=congrArg (fun l=>l[i]?) e1;simp only[Y1 hi] at this;rw[zy4 (by rw[Y0];omega),Y0,show i-min i u.length=0 by omega] at this;exact Option.some.inj this
  rw[nX,Y8,Y1 hlt,Option.getD_some,e,jr hi,h10]
 have hlz:decide ((i:Int)<0)=false:=decide_eq_false (by omega);have hw:=eP (i:=i) (by omega);have hsh:=qg (al.of u) (j:=i+1) (by rw[al.dn];omega);have hsl:=sY (al.of u) (i:=i+1) (by rw[al.dn];omega);rw[al.dn] at hsh hsl;have hyy:=hY k (dq u out s z) _ hlt ⟨out,s,z,by rw[←hu],hP⟩ (fun r os2 h=>h);rw[jC] at hyy;simp only[bO,dq] at hyy ⊢;have R:=y6 @ij (y6 @gK (y6 @hq (y6 @hlz (y6 @hw (y6 @hsh (y6 @H8 (y6 @bm aC)))))))
 repeat' ((first |(with_reducible refine .guard (fun hb =>?_) (fun hb =>?_) <;>try simp only[hb])|refine U.aG (by decide +kernel) rfl fun K hK =>?_|refine .flat _ (hF) rfl ?_|(refine .aE [0,1,3,5,18] hK ?_;clear hK K)|(with_reducible refine .done (hK _ ?_);clear hK K)|refine U.of rfl ?_|(with_reducible refine av.aF (fun h =>?_) (fun h =>?_) <;>try simp only[h])) <;>try simp only[aH,R,simprocAttr])
 all_goals clear R
 refine aX.Yw (ow:=[]) (In:=fun os2=>∃ osb2,os2=bO o osb2∧rN t P k osb2) (Ix:=fun os2=>∃ e osb2,os2=bO (oX e) osb2∧pA bh e osb2) hyy ((nf t out0 s0 z0 u out s z).bO o o) (fun os' h =>?_) (fun os' h =>?_) (by simp[I.b7,j4]) (fun m h=>by simp[aI,aD] at h) (fun os2 h =>?_) (fun os2 h =>?_)
 ·obtain ⟨_,rfl,out',s',z',rfl,_⟩:=h;exact (nf ..).bO _ _
 ·obtain ⟨e,_,rfl,_,u',out',s',z',rfl,_⟩:=h;exact (nf ..).bO _ _
 ·obtain ⟨_,rfl,out',s',z',rfl,hP'⟩:=h;rw[←hu]
  try simp only[bO,dq,Y6,aZ,simprocAttr]
  refine .done (hK _ ?_);clear hK K;have hn:=hrn _ _ h1;have R:=y6 @hw (y6 @hsl (y6 @hlz (y6 @X9 (y6 @bm aC))))
  repeat' ((first |(with_reducible refine .guard (fun hb =>?_) (fun hb =>?_) <;>try simp only[hb])|refine U.aG (by decide +kernel) rfl fun K hK =>?_|(refine .aE [0,1,3,5,18] hK ?_;clear hK K)|(with_reducible refine .done (hK _ ?_);clear hK K)|refine U.of rfl ?_|(with_reducible refine av.aF (fun h =>?_) (fun h =>?_) <;>try simp only[h])) <;>try simp only[aH,R,simprocAttr])
  all_goals clear R
  refine ⟨(k+1,out',s',z'),⟨by simp only;omega,hP'⟩,by simp only;omega,?_⟩;simp only[hn];refine bC.slots ?_ (fun n =>?_)
  ·simp[cm,cj]
  ·simp only[dX];(repeat' split) <;>simp_all
 ·obtain ⟨e,_,rfl,he,u',out',s',z',rfl,hF'⟩:=h
  try simp only[bO,dq,Y6,aZ,simprocAttr]
  refine .done (hK _ ?_);clear hK K;have R:=y6 @bm aC
  repeat' ((first |(with_reducible refine .guard (fun hb =>?_) (fun hb =>?_) <;>try simp only[hb])|refine U.aG (by decide +kernel) rfl fun K hK =>?_|(refine .aE [0,1,3,5,18] hK ?_;clear hK K)|(with_reducible refine .done (hK _ ?_);clear hK K)|refine U.of rfl ?_|(with_reducible refine av.aF (fun h =>?_) (fun h =>?_) <;>try simp only[h])) <;>try simp only[aH,R,simprocAttr])
  all_goals clear R
  rw[jN];exact ⟨_,[],AO (o:=oX e) (u:=u') (out:=out') (s:=s') (z:=z'),trivial,rfl,.inr ⟨e,_,rfl,he,u',out',s',z',rfl,hF'⟩⟩
def WR(t:List UInt8):bX:=fun r os'=>r=.func 122 [.ptr 1 []]∧os'=[(1,.box (enc (al.of t)))]
theorem Fo(t:List UInt8):eL Tryz.prog 69 [enc (al.of t)] [] (WR t):=by
 refine eL.bK Tryz.func69 HD IT Kb (t8 rfl) (t8 rfl) (fun m hm=>by simp[aI,aD] at hm) (fun hwf W0 bB E1 =>?_);simp only[yD,CR,bA];clear hwf;have hall:([I.ptr 1 []].all fun y=>y.cC)=true:=rfl;have R:=y6 @hall (y6 @bm aC)
 repeat' ((first |refine U.aG (by decide +kernel) rfl fun K hK =>?_|(refine .aE [0,1,2] hK ?_;clear hK K)|(with_reducible refine .done (hK _ ?_);clear hK K)|refine U.of rfl ?_|(with_reducible refine av.aF (fun h =>?_) (fun h =>?_) <;>try simp only[h])) <;>try simp only[aH,R,simprocAttr])
 all_goals clear R
 exact ⟨[(1,.box (enc (al.of t)))],[.func 122 [.ptr 1 []]],nT rfl (fun p=>bI _ _),⟨⟨_,rfl,.inl ⟨rfl,rfl,rfl⟩⟩,trivial⟩,rfl,rfl⟩
end Go.Proofs.YtoffnnjbplgnaaaGreatDoor
namespace Go.Abs
open Go Go.RowKit
open Enc (enc)
def FI(P:Program)(nn:Nat)(x y:bl)(ps:List Nat)(tsR:List (Nat×I))(N:Nat)(item:Nat→List I)(bj J:Nat→List (Nat×ai)→Prop)(Ix:Option Nat→List (Nat×ai)→Prop):Prop :=
 ∀ k osb,k<N→bj k osb→∀ (w:World) (D:aJ) (E:aM) (l:Nat) (o1 o2:Obj),
  U ⟨P,w,D,nn,bR E,E,fw,some l,none⟩ x (cQ (fun B=>B.o 1999999=some (.c6 o1)∧U ⟨P,w,D,nn,bR E,E,fw,some l,none⟩ y (Dy o2 (J k) Ix) (B.aQ 1999999 (.c6 o2))) (fun _ _=>False)) (aw (sG ps (item k) tsR) (bO o1 osb))
theorem xy{aB:Bool}{A0:ab}{ρ:List (Nat×Nat)}{os:List (Nat×ai)} : ∀ {caps:List I},(∀ x∈caps,x.only (aI os)=true∧x.cC=true)→fO aB A0 ρ os (caps.map fun x=>x.aS (bq ρ)) caps
 | [],_=>trivial
 |x::xs,h=>⟨.inl ⟨rfl,(h x (by simp)).1,(h x (by simp)).2⟩,xy fun y hy=>h y (by simp[hy])⟩
theorem Ge{aB:Bool}{A0:ab}{ρ:List (Nat×Nat)}{os:List (Nat×ai)}{v:Value}{caps0 caps:List I}(hc:caps0=caps.map fun x=>x.aS (bq ρ))(h:∀ x∈caps,x.only (aI os)=true∧x.cC=true):fO aB A0 ρ os (.raw v::caps0) (.raw v::caps):=by
 subst hc;exact ⟨.inl ⟨by simp[I.aS],by simp[I.only],rfl⟩,xy h⟩
section
variable {c:b9} {Q:Exit→ab→Prop}
theorem U.XH{f:ay}{ps:List Nat}{x y:bl}{ts tsR:List (Nat×I)}{os0 osb0:List (Nat×ai)}{ρ:List (Nat×Nat)}{g:FuncId}{caps0 caps:List I}{N:Nat}{item:Nat→List I}
  (bj J:Nat→List (Nat×ai)→Prop) (Ix:Option Nat→List (Nat×ai)→Prop) (hr0:c.qc=none∧c.dK=none) (hn6:c.n≤1000000)
  (hf:af (aw ts os0) f=.func g caps0) (hc0:caps0=caps.map fun x=>x.aS (bq ρ)) (hcp:∀ x∈caps,x.only (aI osb0)=true∧x.cC=true) (hcb:dM c.P g=true)
  (jC:∀ (Y:Value→List I→List (Nat×ai)→bX→Prop) (v:Value) (o:Obj) (oX:Option Nat→Obj),v.oneCell'=true →
   (∀ k osb post,k<N→bj k osb→(∀ r os2,(r=.bool true∧∃ osb2,os2=bO o osb2∧J k osb2)∨(r=.bool false∧∃ e osb2,os2=bO (oX e) osb2∧Ix e osb2)→post r os2)→Y v (item k) (bO o osb) post) →
   iV c.P g Y (.raw v::caps) (bO o osb0) (fun r os'=>r=.tuple []∧((∃ osb,os'=bO o osb∧bj N osb)∨∃ e osb,os'=bO (oX e) osb∧Ix e osb))) (hlen:∀ k,(item k).length=ps.length)
  (hfree:aD os0 999999=none) (h19:aI osb0 1999999=false) (hρ:bq ρ 1999999=999999)
  (hgv:∀ o,eM ρ (bO o osb0) ((999999,.c6 o)::os0)) (hts:mc ρ (aI osb0) ts tsR)
  (hI:∀ k os,bj k os→ff osb0 os) (hIx:∀ e os,Ix e os→ff osb0 os) (h0:bj 0 osb0)
  (hround:FI c.P c.n x y ps tsR N item bj J Ix)
  (hdone:∀ os,bj N os→Q .normal (aw ts (cX ρ os++os0))) (hexit:∀ e os,Ix e os→Q (uC e) (aw ts (cX ρ os++os0))) :
  U c (.mU f ps x y) Q (aw ts os0):=by
 obtain ⟨hr,hbase⟩:=hr0;intro code hc a w hs;cases code <;>simp only[dL] at hc <;>try (first | (cases hc;done) | ((repeat' split at hc) <;>cases hc;done))
 rename_i cf cps cx cy;split at hc
 case h_2=>cases hc
 rename_i f' x' y' hcf hcx hcy;split at hc
 case isFalse=>cases hc
 rename_i hpn;simp only[v6,bl.mU.injEq] at hc;obtain ⟨rfl,rfl,rfl,rfl⟩:=hc;obtain ⟨D,E,hs⟩:=hs;have hF:c.bh=Fence.wide:=by unfold b9.bh;rw[hr]
 have hE0:c.cd 999999=none:=hs.jA (.inr (by decide));have hval:∃ vs:List Value,a.eval cf=.func (.func g) #[] vs.toArray∧ak w D E caps0 vs:=by
  have hv:=bp hs hcf;rw[hf] at hv;obtain ⟨cs,q1,q2⟩:=hv;simp only[ae] at q2;obtain ⟨vs,q3,q4⟩:=q2;exact ⟨vs,by rw[←lO (zb hcb)];simpa[aY,I.isAgg,q3] using q1.symm,q4⟩
 obtain ⟨vs,hval,hvs⟩:=hval;rw[hF];refine wpIn_rangeFunc fun fn hfn =>?_;obtain ⟨rec,hrec⟩:∃ rec:LoopState→Option Code→Loop,rec=fun aV pe => { state:=aV,pending:=pe,fn,tmps:=a.tmps,params:=cps,assign:=cx,body:=cy,defers:=w.heap.size } :=⟨_,rfl⟩
 obtain ⟨E1,hs1,hE1,hup⟩:=hs.enter hbase hfree hE0 (o:=.loop (rec .ready none)) rfl;obtain ⟨W1,hW1⟩:∃ W1,(w.alloc (.deferred (some []))).alloc (.loop (rec .ready none))=W1:=⟨_,rfl⟩
 rw[hW1] at hs1 hup;obtain ⟨l,hl⟩:∃ l,l=w.heap.size+1:=⟨_,rfl⟩
 rw[←hl] at hE1;obtain ⟨yv,hyv⟩:∃ yv:Value,yv=.func (.yield l) #[] #[]:=⟨_,rfl⟩
 obtain ⟨a1,ha1⟩:∃ a1:Act,a1 = { a with defers := { target:=.collected w.heap.size,args := #[] } :: a.defers } :=⟨_,rfl⟩
 rw[←ha1] at hs1;refine ⟨l,[{ target:=.collected w.heap.size,args := #[] }],W1,{ target:=.fn (.func g) vs.toArray,args := #[yv] },W1,g,#[yv]++vs.toArray,W1,?_,?_,?_,?_,fun _=>by decide,?_⟩
 ·rw[←hW1,hrec,hl];exact run_enterLoop_outer _ _ _ _ _
 ·simp only[resolve,hval,hyv];simp[go_sem]
 ·intro f' _;trivial
 ·simp only[invoke,ma hcb]
 ·-- the iterator's own bargain
  have hG0:=hI 0 osb0 h0;obtain ⟨I',hI'⟩:∃ I':Nat→List (Nat×ai)→Prop,I'=fun k os=>∃ osb,os=bO (.loop (rec .ready none)) osb∧bj k osb:=⟨_,rfl⟩
  obtain ⟨J',hJ'⟩:∃ J':Nat→List (Nat×ai)→Prop,J'=fun k os=>∃ osb,os=bO (.loop (rec .ready none)) osb∧J k osb:=⟨_,rfl⟩
  obtain ⟨Ix',hIx'⟩:∃ Ix':List (Nat×ai)→Prop,Ix'=fun os=>∃ e osb,os=bO (.loop (rec .done (some (rR e)))) osb∧Ix e osb:=⟨_,rfl⟩
  obtain ⟨os1,hos1⟩:∃ os1,os1=bO (.loop (rec .ready none)) osb0:=⟨_,rfl⟩
  obtain ⟨Y,hY⟩:∃ Y:Value→List I→List (Nat×ai)→bX→Prop,Y=fun v args os post=>v=yv∧∃ k,args=item k∧k<N∧I' k os∧∀ r os2,(r=.bool true∧J' k os2)∨(r=.bool false∧Ix' os2)→post r os2:=⟨_,rfl⟩
  have jB:∀ k os',I' k os'→ff os1 os':=fun k os' h=>by
   rw[hI'] at h;obtain ⟨osb,rfl,h⟩:=h;rw[hos1];exact (hI k osb h).bO _ _
  have goodx:∀ os',Ix' os'→ff os1 os':=fun os' h=>by
   rw[hIx'] at h;obtain ⟨e,osb,rfl,h⟩:=h;rw[hos1];exact (hIx e osb h).bO _ _
  have hctr:iV c.P g Y (.raw yv::caps) os1 (fun r os'=>r=.tuple []∧(I' N os'∨Ix' os')):=by
   rw[hI',hIx',hos1];refine jC Y yv (.loop (rec .ready none)) (fun e=>.loop (rec .done (some (rR e)))) (by rw[hyv];rfl) (fun k osb post hk h1 h2 =>?_);rw[hY];refine ⟨rfl,k,rfl,hk,by rw[hI'];exact ⟨osb,rfl,h1⟩,fun r os2 h3=>h2 r os2 ?_⟩;rw[hJ',hIx'] at h3;exact h3
  have hgv1:eM ρ os1 ((999999,.c6 (.loop (rec .ready none)))::os0):=by rw[hos1];exact hgv _
  obtain ⟨A0,hA0⟩:∃ A0:ab,A0=aw ts ((999999,.c6 (.loop (rec .ready none)))::os0):=⟨_,rfl⟩
  have hand:mi (Calls c.P g) (fun w D E=>∀ n,nz ⟨c.P,w,D,n,bR E,E,Y,none,none⟩) (.raw yv::caps) os1 (fun r os'=>r=.tuple []∧(I' N os'∨Ix' os')):=fun w D E vs hy hlive hheld hv=>by
   refine (hctr.2 w D E vs hy hlive hheld hv).mono fun e w' ⟨v,he,D',E',r,os',q⟩=>⟨v,D',E',r,os',he,q⟩
  have hshare:=hs1.na;obtain ⟨Dh,hDh⟩:∃ Dh,Dh=mW (aw ts ((999999,.c6 (.loop (rec .ready none)))::os0)) D E1:=⟨_,rfl⟩
  rw[←hDh] at hshare;have hsh:=hshare.1;obtain ⟨Eh,hEh⟩:∃ Eh,Eh=aq ρ os1 E1:=⟨_,rfl⟩
  have isrec:aI os1 1999999=true:=by rw[hos1,jE];simp
  have hEl:Eh 1999999=some (.op l):=by rw[hEh];simp only[aq,isrec,if_true,hρ];exact hE1
  have EhIn:∀ n e,Eh n=some e→aI os1 n=true:=fun n e h=>by
   rw[hEh] at h;simp only[aq] at h;split at h
   ·assumption
   ·cases h
  have hyok:∀ n,nz ⟨c.P,W1,Dh,n,bR Eh,Eh,Y,none,none⟩:=by
   refine fun n=>⟨by rw[hEh];exact hs1.nZ,?_⟩
   intro v' args os' post' hYv w2 D2 E2 vs2 hsince hlive hheld hrvs;rw[hY] at hYv;obtain ⟨rfl,k,rfl,hkN,hIk,hpost⟩:=hYv;have hIk0:=hIk;rw[hI'] at hIk;obtain ⟨osb,rfl,hIk⟩:=hIk;have gk:=jB k _ hIk0;have gkb:=hI k osb hIk;have in2:∀ m,aI os1 m=true→E2 m≠none:=fun m hm=>by
    rw[←gk.same m] at hm;cases hx:aD (bO (.loop (rec .ready none)) osb) m with
    |none=>simp[aI,hx] at hm
    |some x=>have:=hheld.bx m;rw[hx] at this;exact pP this
   have same2:∀ m e,Eh m=some e→e.ed=true→E2 m=some e:=fun m e he hfx=>by
    rcases hsince.dx m e he with h | ⟨e',h,hle⟩
    ·exact absurd h (in2 m (EhIn m e he))
    ·rw[hle.eq hfx] at h;exact h
   have hEl2:E2 1999999=some (.op l):=same2 _ _ hEl rfl;have hob:=hheld.bx 1999999;rw[oa,if_pos rfl] at hob;obtain ⟨b,j1,_,j3,_,_⟩:=hob;rw[hEl2] at j1;cases j1;have hsz:vs2.toArray.size=cps.size:=by have:=qe hrvs;rw[hlen] at this;simpa using this
   have hyr:=run_yield (P:=c.P) (args:=vs2.toArray) j3 (by rw[hrec];exact hsz);rw[hrec] at hyr;refine ⟨l,hyv,fn,_,cx,cy,hyr,roundIn_of_wpIn trivial ?_⟩;clear hyr
   -- the round's own frame
   obtain ⟨cr,hcr⟩:∃ cr:b9,cr=⟨c.P,w2,D2,c.n,bR E2,E2,fw,some l,none⟩:=⟨_,rfl⟩
   have hFr:cr.bh=Fence.wide.inRound l:=by rw[hcr];rfl
   have hlat:df W1 Dh Eh w2 D2 E2:=by
    refine ⟨hsince.cw,hsince.fq.cell,fun m b aK he=>same2 m _ he rfl,fun m aA l he =>?_,fun m b he=>same2 m _ he rfl,fun m b he=>same2 m _ he rfl,hsince.fq.iq⟩;rcases hsince.dx m _ he with h | ⟨e',h,hle⟩
    ·exact absurd h (in2 m (EhIn m _ he))
    ·rcases hle with rfl | ⟨_,_,blk',l',e,rfl,k1,k2⟩
     ·exact ⟨aA,l,h,Z7 _,fun _=>rfl⟩
     ·cases e;exact ⟨blk',l',h,k1,k2⟩
   have hslots:mc ρ (aI os1) ts tsR:=by
    have:∀ tsR:List (Nat×I),mc ρ (aI osb0) ts tsR→mc ρ (aI os1) ts tsR:=by
     intro tsR
     induction tsR with
     |nil=>exact fun h=>h
     |cons q r ih =>
      intro h;obtain ⟨h1,h2,h3⟩:=h;exact ⟨h1,jm (fun n hn=>by rw[hos1,jE,hn];simp) _ h2,ih h3⟩
    exact this tsR hts
   have hsr:aL cr (aw tsR (bO (.loop (rec .ready none)) osb)) { tmps:=a.tmps,defers:=[] } w2 D2 E2:=by
    rw[hcr];refine ⟨hs.sz,⟨[],rfl,.nil,fun _ h=>by simp at h⟩,fun t =>?_,ej.refl _ _,fun _ _ h _=>h,hlive,fun m=>(hheld.bx m).jj fun e b he hb=>.inr ⟨m,e,he,hb⟩,hheld.cu,fun _ e h=>.inr ⟨e,h,.refl e⟩,fun m hm =>?_,fun _ _ h=>h,⟨hsince.pG,fun _ _ _ _ h=>h.elim⟩,.refl _ _⟩
    ·rcases Ea hslots t with h | ⟨h1,h2⟩
     ·simp only[aw];rw[h];simp[aP]
     ·have h3:=hsh.dB t;rw[ha1] at h3;simp only[aw] at h3 ⊢;rw[h1] at h3;have h4:=(aP.aS (w:=W1) (D:=Dh) (p:=aI os1) (ρ:=bq ρ) (E:=Eh) (E':=E1) (fun n hn=>by rw[hEh];simp only[aq,hn,if_true]) h2).1 h3;exact aP.later hlat h4
    ·have hmi:aI os1 m=true:=by
      rw[←gk.same m];have:=hheld.bx m;cases hx:aD (bO (.loop (rec .ready none)) osb) m with
      |none=>rw[hx] at this;exact absurd this hm
      |some x=>simp[aI,hx]
     have:=gk.lP m hmi;exact ⟨Nat.le_trans hn6 this,this⟩
   have hsp:=aL.Cd cps.toList vs2 (item k) tsR _ hsr (fun p hp=>by rw[hcr];have:=zz6.1 hpn p hp;simpa using this) hrvs (by have:=hsz;simpa using this.symm);have htm:(cps.zip vs2.toArray).foldl (fun t (q:Tmp×Value)=>t.setIfInBounds q.1 q.2) a.tmps=(cps.toList.zip vs2).foldl (fun t q=>t.setIfInBounds q.1 q.2) a.tmps:=by
    rw[←Array.foldl_toList];simp
   have hx:=hround k osb hkN hIk w2 D2 E2 l (.loop (rec .ready none)) (.loop { rec .ready none with state:=.busy });rw[←hcr] at hx;have hx1:=hx cx (by rw[hcr];exact hcx) _ w2 ⟨D2,E2,hsp⟩;rw[hFr] at hx1;simp only[←htm] at hx1;rw[hcr] at hx1;refine wpIn_mono hx1 ?_;rintro e ax wx ⟨B,hq,hsx⟩;rw[←hcr] at hq hsx;cases e <;>simp only[cQ] at hq <;>try exact hq.elim
   simp only[Exit.then];obtain ⟨hB1,hB2⟩:=hq;obtain ⟨Dx,Ex,hsx⟩:=hsx;have hElx:Ex 1999999=some (.op l):=by
    have ho:=hsx.bx 1999999;rw[hB1] at ho;rcases hsx.uO (n:=1999999) (by rw[hcr];exact hEl2) rfl with h | h
    ·exact absurd h (pP ho)
    ·exact h
   have hLx:wx.heap[l]?=some (.loop (rec .ready none)):=by
    have ho:=hsx.bx 1999999;rw[hB1] at ho;obtain ⟨b,k1,_,k3,_⟩:=ho;rw[hElx] at k1;cases k1;exact k3
   refine ⟨_,run_beginRound hLx (by rw[hrec]),?_⟩;have hsb:=hsx.wk (o':=.loop { rec .ready none with state:=.busy }) hB1 hElx rfl;have hy1:=hB2 cy (by rw[hcr];exact hcy) _ _ ⟨Dx,Ex,hsb⟩;rw[hFr] at hy1;rw[hcr] at hy1;refine wpIn_mono hy1 ?_;rintro e a3 w3 ⟨A3,hq3,D3,E3,hs3⟩;rw[←hcr] at hs3
   -- the end of the round
   have ba:∀ (os:List (Nat×ai)) (jump:Option Code),oH (.loop { rec .ready none with state:=.busy }) A3 os→(post' (.bool jump.isNone) (bO (.loop (rec (if jump.isNone then .ready else .done) jump)) os)) →
     ∃ v w',(Instr.endRound l jump).run c.P w3=.ok v w'∧(fun e w'=>∃ v D' E' r os',e=Ending.returned v∧post' r os'∧aP w' D' E' r v∧iW (fun b=>w2.heap.size≤b∨bR E2 b) w' D' E' (aD os') ∧
      ej (fun b=>w2.heap.size≤b∨bR E2 b) w2 w'∧(∀ b o,D2 b o→D' b o)∧(∀ b o,D' b o→b<w'.heap.size)∧(∀ b o,D' b o→b<w2.heap.size→¬ bR E2 b→D2 b o) ∧
      (∀ n e,E2 n=some e→aI os' n=true→∃ e',E' n=some e'∧e.e8 e')∧fN w2 D2 w') (.returned v) w':=fun os jump hbk hp=>by
    have hA3:A3.o 1999999=some (.c6 (.loop { rec .ready none with state:=.busy })):=(hbk 1999999 _ (by rw[oa,if_pos rfl])).1;have hEl3:E3 1999999=some (.op l):=by
     have ho:=hs3.bx 1999999;rw[hA3] at ho;rcases hs3.uO (n:=1999999) (by rw[hcr];exact hEl2) rfl with h | h
     ·exact absurd h (pP ho)
     ·exact h
    have hL3:w3.heap[l]?=some (.loop { rec .ready none with state:=.busy }):=by
     have ho:=hs3.bx 1999999;rw[hA3] at ho;obtain ⟨b,k1,_,k3,_⟩:=ho;rw[hEl3] at k1;cases k1;exact k3
    have hend:=run_endRound (P:=c.P) jump hL3;have erec:({ rec .ready none with state:=if jump.isNone then LoopState.ready else .done,pending:=jump } : Loop)=rec (if jump.isNone then .ready else .done) jump:=by rw[hrec]
    have hend':(Instr.endRound l jump).run c.P w3=.ok (.bool jump.isNone) (w3.putObj l (.loop (rec (if jump.isNone then .ready else .done) jump))):=by
     rw[hend];rw[hrec]
    have hs4:=hs3.wk (o':=.loop (rec (if jump.isNone then .ready else .done) jump)) hA3 hEl3 rfl;rw[hcr] at hs4;obtain ⟨D',E',_,_,_,q1,q2,q3,q4,q5,q6⟩:=hs4.vg (UD hbk _);exact ⟨_,_,hend',_,D',E',.bool jump.isNone,_,rfl,hp,⟨[.bool jump.isNone],by simp[aY,I.isAgg],by simp[ae]⟩,q1,q2,q3,q4,q5,q6⟩
   cases e with
   |normal =>
    obtain ⟨os,hbk,hin⟩:=hq3;exact ba os none hbk (hpost _ _ (.inl ⟨rfl,by rw[hJ'];exact ⟨os,rfl,hin⟩⟩))
   |ret =>
    obtain ⟨os,hbk,hin⟩:=hq3;exact ba os (some .ret) hbk (hpost _ _ (.inr ⟨rfl,by rw[hIx'];exact ⟨none,os,rfl,hin⟩⟩))
   |exit id =>
    obtain ⟨os,hbk,hin⟩:=hq3;exact ba os (some (.exit id)) hbk (hpost _ _ (.inr ⟨rfl,by rw[hIx'];exact ⟨some id,os,rfl,hin⟩⟩))
   |goto t=>exact hq3.elim
   |panic ch=>exact hq3.elim
   |outgrown=>exact hq3.elim
  -- the call
  have hargs:dS (aP W1 D E1) (.raw yv::caps0) (yv::vs):=by
   exact .cons ⟨[yv],by simp[aY,I.isAgg],by rw[hyv];exact ⟨rfl,rfl⟩⟩ (ou (hup caps0 vs hvs))
  have hus:=hand.use (ρ:=ρ) hs1 false (fun h=>h.mono) ⟨(fun h=>by cases h),fun _=>by rw[←hDh,←hEh];exact hyok⟩ hgv1 (Ge hc0 fun x hx=>⟨jm (fun n hn=>by rw[hos1,jE,hn];simp) _ (hcp x hx).1,(hcp x hx).2⟩)
   (fun r os' hp=>by
    have gg:ff os1 os':=by
     rcases hp.2 with h | h
     ·exact jB _ _ h
     ·exact goodx _ h
    refine ⟨fun m x hx=>⟨(gg.ok m x hx).1,(gg.ok m x hx).2,fun h=>by cases h⟩,fun m m' h1 h2=>hgv1.inj m m' (by rw[←gg.same];exact h1) (by rw[←gg.same];exact h2),fun m hm=>by rw[gg.same];exact hm,fun m h1 h2=>(by rw[gg.same,h2] at h1;cases h1),(by rw[hp.1];simp[I.only,I.cJ]),fun h=>by cases h⟩) hargs
  have ecl : #[yv]++vs.toArray=(yv::vs).toArray:=by simp
  rw[ecl];refine CallsIn.mono (callsIn_wide.2 hus) ?_;rintro e w3 ⟨v,r,os',D2,E2,rfl,hp,hs2,_,hE2⟩;have key:∀ (o3:Obj) (osb:List (Nat×ai)),os'=bO o3 osb→nW o3=true→E2 999999=some (.op l)∧w3.heap[l]?=some o3∧∀ o4,nW o4=true→bz c (aw ts (cX ρ osb++os0)) a1 (w3.putObj l o4):=fun o3 osb he h3=>by
   subst he;have hn2:E2 999999=some (.op l):=by
    obtain ⟨e',h1,h2⟩:=hE2 1999999 (.op l) (by rw[←hEh];exact hEl) (by rw[jE];simp);rw[hρ] at h1;rw[h1,h2.eq rfl]
   have eos:cX ρ (bO o3 osb)=(999999,.c6 o3)::cX ρ osb:=by simp only[bO,cX,Z3,hρ,ai.aS]
   rw[eos] at hs2;have ha:(aw ts ((999999,ai.c6 o3)::cX ρ osb++(999999,.c6 (.loop (rec .ready none)))::os0)).o 999999=some (.c6 o3):=by simp[aw,aD]
   have hgb:∀ m,aI osb m=true→bq ρ m≠999999:=fun m hm e=>by
    have h5:aI (bO o3 osb) m=true:=by rw[jE,hm];simp
    have g5:ff os1 (bO o3 osb):=by
     rcases hp.2 with h | h
     ·exact jB _ _ h
     ·exact goodx _ h
    have h6:=hgv1.inj m 1999999 (by rw[←g5.same];exact h5) isrec (by rw[hρ];exact e);subst h6;have h7:ff osb0 osb:=by
     rcases hp.2 with h | h
     ·rw[hI'] at h;obtain ⟨osb',h8,h9⟩:=h;simp only[bO,Y7] at h8;rw[h8.2];exact hI _ _ h9
     ·rw[hIx'] at h;obtain ⟨e,osb',h8,h9⟩:=h;simp only[bO,Y7] at h8;rw[h8.2];exact hIx _ _ h9
    rw[h7.same,h19] at hm;cases hm
   refine ⟨hn2,?_,fun o4 h4 =>?_⟩
   ·have ho:=hs2.bx 999999;rw[ha] at ho;obtain ⟨b,k1,_,k3,_⟩:=ho;rw[hn2] at k1;cases k1;exact k3
   ·have h5:=(hs2.wk (o':=o4) ha hn2 h4).Lz hn2;have hst:(⟨((aw ts ((999999,ai.c6 o3)::cX ρ osb++(999999,.c6 (.loop (rec .ready none)))::os0)).aQ 999999 (.c6 o4)).t,fun m=>if m=999999 then none else
      ((aw ts ((999999,ai.c6 o3)::cX ρ osb++(999999,.c6 (.loop (rec .ready none)))::os0)).aQ 999999 (.c6 o4)).o m⟩:ab)=aw ts (cX ρ osb++os0):=by
     simp only[aw,ab.aQ]
     congr 1
     funext m
     by_cases hm:m=999999
     ·subst hm;simp only[if_true,r3];cases hq:pre ρ osb 999999 with
      |none=>exact hfree.symm
      |some k=>exact absurd (lh hq).2 (hgb k (lh hq).1)
     ·simp only[if_neg hm,Y3,aD,r3]
    rw[hst] at h5;exact ⟨D2,_,h5⟩
  rcases hp.2 with h | h
  ·rw[hI'] at h;obtain ⟨osb,he,hin⟩:=h;obtain ⟨k1,k2,k3⟩:=key _ osb he rfl;refine ⟨none,_,(by have:=run_endLoop (P:=c.P) k2 (by rw[hrec];simp);rw[hrec] at this;exact this),_,hdone osb hin,?_⟩;have:=k3 (.loop { rec .ready none with state:=.exhausted }) rfl;rw[ha1] at this;rw[hrec] at this;exact this
  ·rw[hIx'] at h;obtain ⟨e,osb,he,hin⟩:=h;obtain ⟨k1,k2,k3⟩:=key _ osb he rfl;refine ⟨some (rR e),_,(by have:=run_endLoop (P:=c.P) k2 (by rw[hrec];simp);rw[hrec] at this;exact this),?_⟩;have:=k3 (.loop { rec .done (some (rR e)) with state:=.exhausted }) rfl;rw[ha1] at this;rw[hrec] at this;have hq:rX c Q (uC e) { a with defers := { target:=.collected w.heap.size,args := #[] } :: a.defers } _:=⟨_,hexit e osb hin,this⟩
   cases e with
   |none=>exact wpIn_ret hq
   |some id=>exact wpIn_exit hq
end
end Go.Abs
namespace Go.Proofs.YtoffnnjbplgnaaaGreatDoor
open Go Go.Abs
open Go.Abs.Enc (enc)
theorem XU{out:List ah}{s:Int}{z:Nat}{x:List UInt8}{ar:List (List UInt8)}(h:dY bd s x=none):iQ (dY bd) c8 out s z (x::ar)=(out,z):=by rw[iQ,h]
theorem XV{out:List ah}{s:Int}{z:Nat}{x:List UInt8}{ar:List (List UInt8)}{q:ah×Int}(h:dY bd s x=some q):iQ (dY bd) c8 out s z (x::ar)=if c8 out q.1=true then iQ (dY bd) c8 (out++[q.1]) q.2 (z+x.length) ar else (out,z):=by rw[iQ,h]
structure oM (t:List UInt8) (k:Nat) (out:List ah) (s:Int) (z:Nat):Prop where
 eq:iQ (dY bd) c8 [] 1 0 (dF t)=iQ (dY bd) c8 out s z ((dF t).drop k)
 sum:0≤s∧s<1000003
 ok:∀ r∈out,bd r=true
 len:out.length≤60
 size:z+(fp k t).length=t.length
structure qy (t:List UInt8) (out:List ah) (z:Nat):Prop where
 eq:iQ (dY bd) c8 [] 1 0 (dF t)=(out,z)
 len:out.length≤60
 size:z≤t.length
theorem Xy{t:List UInt8}{k:Nat}(hk:k<(dF t).length):∃ w v,dw 10 (fp k t)=some (w,v)∧(dF t)[k]=w++[10]∧fp (k+1) t=v∧fp k t=w++10::v:=by
 have hrd:=vV (Nat.le_of_lt hk);cases h:dw 10 (fp k t) with
 |none=>rw[vh h] at hrd;have:=congrArg List.length hrd;simp at this;omega
 |some p =>
  obtain ⟨w,v⟩:=p;refine ⟨w,v,rfl,?_,vW h,(qZ h).1⟩;rw[rZ h,List.drop_eq_getElem_cons hk] at hrd;exact (List.cons.inj hrd).1.symm
theorem B7(t:List UInt8):oM t 0 [] 1 0:=⟨rfl,by omega,by simp,by simp,by simp[fp]⟩
theorem WY{t:List UInt8}{out:List ah}{s:Int}{z:Nat}(h:oM t (dF t).length out s z):qy t out z :=
 ⟨by rw[h.eq,List.drop_length,iQ],h.len,by have:=h.size;omega⟩
theorem Ai{t:List UInt8}{out:List ah}{z:Nat}(h:qy t out z):jo bd c8 t=(out,t.take z):=by rw[jo,h.eq]
theorem VK{out:List ah}{r:ah}(h:c8 out r=true):out.length<60:=by
 simp only[c8,Z0,decide_eq_true_eq] at h;exact h.1
theorem wY(t:List UInt8)(ht:t.length≤281474976710656):aR Tryz.prog 15 [enc (al.of t)] (.tuple [enc (jo bd c8 t).1,enc (al.of (jo bd c8 t).2)]):=by
 refine aR.bK Tryz.func15 Hg Iu JP (t8 rfl) (fun hwf W0 bB E1 =>?_);simp only[yf,Cv,bA];clear hwf;have h69:=Fo t;have R:=y6 @qk (y6 @bm aC)
 repeat' ((first |(with_reducible refine .guard (fun hb =>?_) (fun hb =>?_) <;>try simp only[hb])|refine U.aG (by decide +kernel) rfl fun K hK =>?_|(refine .aE [0,2,3,4,5,6,7,8,9,10,12,13,28] hK ?_;clear hK K)|(with_reducible refine .done (hK _ ?_);clear hK K)|refine U.of rfl ?_|(with_reducible refine av.aF (fun h =>?_) (fun h =>?_) <;>try simp only[h])) <;>try simp only[aH,R,simprocAttr])
 all_goals clear R
 refine .bx false [] [] [enc (al.of t)] _ rfl h69 ⟨fun m y hy=>by simp[aD] at hy,fun m m' h=>by simp[aI,aD] at h⟩ ⟨.inl ⟨(il _ _).symm,bI _ _,eZ _⟩,trivial⟩ ?_ ?_
 ·rintro r os' ⟨rfl,rfl⟩;refine ⟨fun m y hy =>?_,fun m m' _ _ h=>h,fun m hm=>by simp[aI,aD] at hm,fun m hm _ =>?_,⟨rfl,fun h=>by cases h⟩⟩
  ·simp only[aD] at hy;split at hy
   ·cases hy;exact ⟨bI _ _,rfl,fun h=>by cases h⟩
   ·cases hy
  ·simp only[aI,aD] at hm;split at hm
   ·rename_i e;subst e;exact ⟨rfl,by decide⟩
   ·simp at hm
 rintro r os' ⟨rfl,rfl⟩
 try simp only[cX,Z3,zz0,ai.aS,il,bq,I.aS,I.cT,Y3,Y6,aZ,simprocAttr]
 refine .done (hK _ ?_);clear hK K;refine U.sub (bC.FU 4 80 50 8 8 [] _ rfl rfl rfl (B:=aw [(0,enc (al.of t)),(4,.ptr 4 []),(5,.ptr 5 []),(6,.ptr 6 []),(12,.func 122 [.ptr 1 []])] [(4,.box (.own 80 0)),(80,.bJ 50 8 []),(1,.box (enc (al.of t))),(5,.box (.int .i64 1)),(6,.box (.int .i64 0))]) ?_) ?_
 ·simp only[fA];refine bC.cO ?_ ?_ ?_ ?_ <;>simp[cm,cv,ct,bW,aI,cj,dX,I.only,I.cJ,ai.only,bI]
 refine U.block (U.XH (osb0:=dq t [] 1 0) (tsR:=[(4,.ptr 1000004 []),(5,.ptr 1000005 []),(6,.ptr 1000006 [])]) (ρ:=[(1999999,999999),(1000001,1),(1000004,4),(1000080,80),(1000005,5),(1000006,6)]) (g:=122) (caps0:=[.ptr 1 []]) (caps:=[.ptr 1000001 []]) (N:=(dF t).length) (item:=nX t)
  (rM t (oM t)) (rN t (oM t)) (pA (qy t)) ⟨rfl,rfl⟩ (t8 rfl) (by simp only[aZ,simprocAttr]) (by simp[I.aS,bq]) ?_ yY (Vo ht (B7 t)) (fun _=>rfl) rfl rfl rfl (fun o=>⟨?_,?_⟩) ?_ ?_ ?_ ?_ ?_ ?_ ?_)
 ·intro x hx;simp only[zy2] at hx;subst hx;exact ⟨rfl,rfl⟩
 ·intro n x hx;simp only[bO,dq,aD] at hx
  repeat' split at hx
  all_goals first | (cases hx;done) | (subst_vars;simp only[v6] at hx;subst hx;simp[bO,dq,aI,bq,aD,ai.aS,I.aS,I.cT,il,ai.only,I.only,I.cJ,bI,ai.ed])
 ·intro a b ha hb;simp only[bO,dq,aI,aD] at ha hb
  repeat' split at ha
  all_goals first | (simp at ha;done) | skip
  all_goals (repeat' split at hb)
  all_goals first | (simp at hb;done) | (subst_vars;simp[bq])
 ·simp[mc,cj,I.aS,bq,I.only,dq,aI,aD]
 ·rintro k os ⟨out,s,z,rfl,_⟩;exact nf ..
 ·rintro e os ⟨_,u,out,s,z,rfl,_⟩;exact nf ..
 ·exact ⟨[],1,0,rfl,B7 t⟩
 ·rintro k osb hk ⟨out,s,z,rfl,hP⟩ W1 D1 E1 YD o1 o2;obtain ⟨w,v,hcut,hL,hnext,hrest⟩:=Xy hk;have jC:nX t k=[enc (al.of (w++[10]))]:=by
   rw[nX,Y8,Y1 hk,Option.getD_some,hL]
  have hdrop:(dF t).drop k=(w++[10])::(dF t).drop (k+1):=by rw[List.drop_eq_getElem_cons hk,hL]
  have hsz:=hP.size;rw[hrest] at hsz;have hll:(w++[10]).length+v.length=(w++10::v).length:=by simp;omega
  generalize hx:w++[10]=line at jC hdrop hll;have hlen:z+line.length+v.length=t.length:=by omega
  have h70:=xa hP.sum (t:=line) (by omega);have hlt:=mY line;have hwz:IntKind.i64.wrap ((z:Int)+(line.length:Int))=((z+line.length:Nat):Int):=by rw[ea _ (by omega) (by omega)];rfl
  have hfo:kV out.length (some (.bJ 50 8 (out.map enc)))=some (enc out):=rl 8 rfl rfl;have hpe:=hP.eq;rw[hdrop] at hpe;generalize hu:fp k t=u at *;rw[jC];simp only[sG,bO,dq];have R:=y6 @bm aC
  repeat' ((first |(with_reducible refine .guard (fun hb =>?_) (fun hb =>?_) <;>try simp only[hb])|refine U.aG (by decide +kernel) rfl fun K hK =>?_|(refine .aE [0,2,3,4,5,6,7,8,9,10,12,13,28] hK ?_;clear hK K)|(with_reducible refine .done (hK _ ?_);clear hK K)|refine U.of rfl ?_|(with_reducible refine av.aF (fun h =>?_) (fun h =>?_) <;>try simp only[h])) <;>try simp only[aH,R,simprocAttr])
  all_goals clear R
  refine ⟨by simp[],?_⟩;have stop:iQ (dY bd) c8 [] 1 0 (dF t)=(out,z)→∀ ts z1 z2 z3,Dy o2 (rN t (oM t) k) (pA (qy t)) (.exit 0)
    (aw ts ([(8,z1),(8,z2),(1999999,.c6 o2),(1999999,z3)]++dq u out s z)):=fun h ts z1 z2 z3=>by
   refine ⟨dq u out s z,?_,rfl,u,out,s,z,rfl,h,hP.len,by omega⟩;intro n x hx;simp only[bO,dq,aD] at hx
   (repeat' split at hx) <;>first
    |(cases hx;done)
    |(subst_vars;simp only[v6] at hx;subst hx;simp[bO,dq,aI,aw,aD,ai.only,I.only,bI,ai.ed,sA])
  cases hq:dY bd s line with
  |none =>
   rw[gJ,hq,kF] at h70;rw[XU hq] at hpe;have R:=y6 @fu (y6 @fD (y6 @bm aC))
   repeat' ((first |(with_reducible refine .guard (fun hb =>?_) (fun hb =>?_) <;>try simp only[hb])|refine U.aG (by decide +kernel) rfl fun K hK =>?_|refine .lead _ (h70) ?_|(refine .aE [0,2,3,4,5,6,7,8,9,10,12,13,28] hK ?_;clear hK K)|(with_reducible refine .done (hK _ ?_);clear hK K)|refine U.of rfl ?_|(with_reducible refine av.aF (fun h =>?_) (fun h =>?_) <;>try simp only[h])) <;>try simp only[aH,R,simprocAttr])
   all_goals clear R
   exact stop hpe _ _ _ _
  |some q =>
   obtain ⟨r,n⟩:=q;obtain ⟨hok,_,hns⟩:=Xk bd hq;simp only at hok hns;rw[gJ,hq,kF] at h70;rw[XV hq] at hpe;simp only at hpe;have h71:=xb out r (by have:=hP.len;omega) (fun q hq=>kg (hP.ok q hq)) (kg hok);cases hn:c8 out r
   ·rw[hn] at h71 hpe;rw[if_neg (by decide)] at hpe;have R:=y6 @hfo (y6 @fu (y6 @fD (y6 @bm aC)))
    repeat' ((first |(with_reducible refine .guard (fun hb =>?_) (fun hb =>?_) <;>try simp only[hb])|refine U.aG (by decide +kernel) rfl fun K hK =>?_|refine .lead _ (h70) ?_|refine .flat _ (h71) rfl ?_|(refine .aE [0,2,3,4,5,6,7,8,9,10,12,13,28] hK ?_;clear hK K)|(with_reducible refine .done (hK _ ?_);clear hK K)|refine U.of rfl ?_|(with_reducible refine av.aF (fun h =>?_) (fun h =>?_) <;>try simp only[h])) <;>try simp only[aH,R,simprocAttr])
    all_goals clear R
    exact stop hpe _ _ _ _
   ·have hol:=VK hn;rw[hn] at h71 hpe;rw[if_pos rfl] at hpe;have stOwn:∀ (A:ab) n b m k m' k' rest,ep A none n [] b (.own m k) rest (some (.own m' k'))=ao rest (A.aQ n (.box (.own m k))) :=
     fun _ _ _ m k m' k' _=>by rw[fC (s:=none) (v:=.own m k) (old:=.own m' k') rfl rfl rfl,fA]
    have hbs:gz 8 (some [enc r])=some (enc [r]):=oZ 8 r rfl;have hap:=fun (A:ab) d rest=>F6 (A:=A) (d:=d) 50 8 72 1000080 (l:=out.length) (es:=out) (ys:=[r]) (rest:=rest) rfl rfl (by simp) (by simp[maxLen];omega) (by simp;omega);have R:=y6 @hfo (y6 @hbs (y6 @hap (y6 @stOwn (y6 @hlt (y6 @hwz (y6 @fu (y6 @fD (y6 @qk (y6 @bm aC)))))))))
    repeat' ((first |(with_reducible refine .guard (fun hb =>?_) (fun hb =>?_) <;>try simp only[hb])|refine U.aG (by decide +kernel) rfl fun K hK =>?_|refine .lead _ (h70) ?_|refine .flat _ (h71) rfl ?_|(refine .aE [0,2,3,4,5,6,7,8,9,10,12,13,28] hK ?_;clear hK K)|(with_reducible refine .done (hK _ ?_);clear hK K)|refine U.of rfl ?_|(with_reducible refine av.aF (fun h =>?_) (fun h =>?_) <;>try simp only[h])) <;>try simp only[aH,R,simprocAttr])
    all_goals clear R
    refine ⟨dq u (out++[r]) n (z+line.length),?_,out++[r],n,z+line.length,by rw[hu],⟨hpe,?_,?_,?_,?_⟩⟩
    ·intro n x hx;simp only[bO,dq,aD] at hx
     (repeat' split at hx) <;>first
      |(cases hx;done)
      |(subst_vars;simp only[v6] at hx;subst hx;simp[bO,dq,aI,aw,aD,ai.only,I.only,bI,ai.ed,sA,-List.map_append])
    ·rw[hns];exact oB hP.sum _
    ·intro q hq;rcases zz7.1 hq with h1 | h1
     ·exact hP.ok q h1
     ·rw[zy2.1 h1];exact hok
    ·simp;omega
    ·rw[hnext];exact hlen
 ·rintro os ⟨out,s,z,rfl,hP⟩;have hF:=WY hP;have hfo:kV out.length (some (.bJ 50 8 (out.map enc)))=some (enc out):=rl 8 rfl rfl;have hsh:=qg (al.of t) (j:=z) (by rw[al.dn];exact hF.size);rw[al.dn] at hsh;rw[Ai hF];simp only[dq,cX,Z3,zz0,bq,ai.aS,I.aS,il,kr,cQ,kP,reduceIte,Nat.reduceEqDiff,Y3,Y6];have R:=y6 @hfo (y6 @hsh (y6 @bm aC))
  repeat' ((first |(with_reducible refine .guard (fun hb =>?_) (fun hb =>?_) <;>try simp only[hb])|refine U.aG (by decide +kernel) rfl fun K hK =>?_|(refine .aE [0,2,3,4,5,6,7,8,9,10,12,13,28] hK ?_;clear hK K)|(with_reducible refine .done (hK _ ?_);clear hK K)|refine U.of rfl ?_|(with_reducible refine av.aF (fun h =>?_) (fun h =>?_) <;>try simp only[h])) <;>try simp only[aH,R,simprocAttr])
  all_goals clear R
  all_goals rfl
 ·rintro e os ⟨rfl,u,out,s,z,rfl,hF⟩;have hfo:kV out.length (some (.bJ 50 8 (out.map enc)))=some (enc out):=rl 8 rfl rfl;have hsh:=qg (al.of t) (j:=z) (by rw[al.dn];exact hF.size);rw[al.dn] at hsh;rw[Ai hF];simp only[dq,cX,Z3,zz0,bq,ai.aS,I.aS,il,kr,uC,cQ,kP,reduceIte,Nat.reduceEqDiff,Y3,Y6];have R:=y6 @hfo (y6 @hsh (y6 @bm aC))
  repeat' ((first |(with_reducible refine .guard (fun hb =>?_) (fun hb =>?_) <;>try simp only[hb])|refine U.aG (by decide +kernel) rfl fun K hK =>?_|(refine .aE [0,2,3,4,5,6,7,8,9,10,12,13,28] hK ?_;clear hK K)|(with_reducible refine .done (hK _ ?_);clear hK K)|refine U.of rfl ?_|(with_reducible refine av.aF (fun h =>?_) (fun h =>?_) <;>try simp only[h])) <;>try simp only[aH,R,simprocAttr])
  all_goals clear R
  all_goals rfl
def sg(a n:Int):Int:=(IntKind.i64.wrap (a.tmod n+n)).tmod n
theorem YB(a n:Int)(hn:n≠0):aR Tryz.prog 28 [enc a,enc n] (enc (sg a n)):=by
 refine aR.bK Tryz.func28 Hu II J2 (t8 rfl) (fun hwf W0 bB E1 =>?_);simp only[yr,CI,bA,Z4];clear hwf;have R:=y6 @hn aC
 repeat' ((first |refine U.aG (by decide +kernel) rfl fun K hK =>?_|(refine .aE [0,1,4] hK ?_;clear hK K)|(with_reducible refine .done (hK _ ?_);clear hK K)|refine U.of rfl ?_|(with_reducible refine av.aF (fun h =>?_) (fun h =>?_) <;>try simp only[h])) <;>try simp only[aH,R,simprocAttr])
 all_goals clear R
 all_goals rfl
theorem VD{a n:Int}(ha:-9223372036854775808≤a∧a≤9223372036854775807)(hn:0<n∧n≤4611686018427387904):sg a n=a%n:=by
 have h1:-n<a.tmod n∧a.tmod n<n:=⟨Int.lt_tmod_of_pos a hn.1,Int.tmod_lt_of_pos a hn.1⟩
 have h2:(a.tmod n+n).tmod n=a%n:=by
  rw[Int.tmod_eq_emod_of_nonneg (by omega),Int.add_emod_right];have:=Int.tmod_add_mul_tdiv a n
  conv=>rhs;rw[←this]
  rw[Int.add_mul_emod_self_left]
 have h3:=Int.emod_nonneg a (show n≠0 by omega);have h4:=Int.emod_lt_of_pos a hn.1;rw[sg,ea _ (by omega) (by omega),h2]
theorem Fc(a b:List ah)(hl:a.length≤4000000000000):aR Tryz.prog 17 [enc a,enc b] (enc (decide (a=b))):=by
 refine aR.bK Tryz.func17 Hn IA JU (t8 rfl) (fun hwf W0 bB E1 =>?_);simp only[yk,CA,bA,Z4];clear hwf;cases q:((a.length:Int)==(b.length:Int))
 ·have hne:decide (a=b)=false:=decide_eq_false fun e=>by rw[e] at q;simp at q
  rw[hne];by_cases h0:0<a.length
  ·have hlc:decide ((0:Int)<(a.length:Int))=true:=decide_eq_true (by omega);have R:=y6 @q aC
   repeat' ((first |(with_reducible refine .guard (fun hb =>?_) (fun hb =>?_) <;>try simp only[hb])|refine U.aG (by decide +kernel) rfl fun K hK =>?_|(refine .aE [0,1,4,5,6,18] hK ?_;clear hK K)|(with_reducible refine .done (hK _ ?_);clear hK K)|refine U.of rfl ?_|(with_reducible refine av.aF (fun h =>?_) (fun h =>?_) <;>try simp only[h])) <;>try simp only[aH,R,simprocAttr])
   all_goals clear R
   refine U.loop (fun _:Unit=>aw [(0,enc a),(1,enc b),(5,.bool false),(6,.int .i64 0)] []) (fun _=>True) (fun _=>0) () trivial ?_ ?_
   ·refine bC.cO ?_ ?_ ?_ ?_ <;>simp[cm,cv,ct,bW,cj,I.only,bI]
   intro _ _;have R:=y6 @q (y6 @hlc aC)
   repeat' ((first |(with_reducible refine .guard (fun hb =>?_) (fun hb =>?_) <;>try simp only[hb])|refine U.aG (by decide +kernel) rfl fun K hK =>?_|(refine .aE [0,1,4,5,6,18] hK ?_;clear hK K)|(with_reducible refine .done (hK _ ?_);clear hK K)|refine U.of rfl ?_|(with_reducible refine av.aF (fun h =>?_) (fun h =>?_) <;>try simp only[h])) <;>try simp only[aH,R,simprocAttr])
   all_goals clear R
   all_goals rfl
  ·have hlc:decide ((0:Int)<(a.length:Int))=false:=decide_eq_false (by omega);have R:=y6 @q aC
   repeat' ((first |(with_reducible refine .guard (fun hb =>?_) (fun hb =>?_) <;>try simp only[hb])|refine U.aG (by decide +kernel) rfl fun K hK =>?_|(refine .aE [0,1,4,5,6,18] hK ?_;clear hK K)|(with_reducible refine .done (hK _ ?_);clear hK K)|refine U.of rfl ?_|(with_reducible refine av.aF (fun h =>?_) (fun h =>?_) <;>try simp only[h])) <;>try simp only[aH,R,simprocAttr])
   all_goals clear R
   refine U.loop (fun _:Unit=>aw [(0,enc a),(1,enc b),(5,.bool false),(6,.int .i64 0)] []) (fun _=>True) (fun _=>0) () trivial ?_ ?_
   ·refine bC.cO ?_ ?_ ?_ ?_ <;>simp[cm,cv,ct,bW,cj,I.only,bI]
   intro _ _;have R:=y6 @q (y6 @hlc aC)
   repeat' ((first |(with_reducible refine .guard (fun hb =>?_) (fun hb =>?_) <;>try simp only[hb])|refine U.aG (by decide +kernel) rfl fun K hK =>?_|(refine .aE [0,1,4,5,6,18] hK ?_;clear hK K)|(with_reducible refine .done (hK _ ?_);clear hK K)|refine U.of rfl ?_|(with_reducible refine av.aF (fun h =>?_) (fun h =>?_) <;>try simp only[h])) <;>try simp only[aH,R,simprocAttr])
   all_goals clear R
   all_goals rfl
 have hlen:a.length=b.length:=by have:=eq_of_beq q;omega
 have R:=y6 @q aC
 repeat' ((first |(with_reducible refine .guard (fun hb =>?_) (fun hb =>?_) <;>try simp only[hb])|refine U.aG (by decide +kernel) rfl fun K hK =>?_|(refine .aE [0,1,4,5,6,18] hK ?_;clear hK K)|(with_reducible refine .done (hK _ ?_);clear hK K)|refine U.of rfl ?_|(with_reducible refine av.aF (fun h =>?_) (fun h =>?_) <;>try simp only[h])) <;>try simp only[aH,R,simprocAttr])
 all_goals clear R
 refine U.loop (fun x:Nat×Bool=>aw [(0,enc a),(1,enc b),(5,.bool x.2),(6,.int .i64 x.1)] []) (fun x=>x.1≤a.length∧(x.2=true→a.take x.1=b.take x.1)∧(x.2=false→a≠b)) (fun x=>a.length-x.1) (0,true) ⟨zy9 _,by simp,by simp⟩ ?_ ?_
 ·refine bC.cO ?_ ?_ ?_ ?_ <;>simp[cm,cv,ct,bW,cj,I.only,bI]
 rintro ⟨i,t⟩ ⟨hi,h1,h2⟩;simp only at hi h1 h2 ⊢;cases t
 ·have hne:decide (a=b)=false:=decide_eq_false (h2 rfl);rw[hne];by_cases h0:i<a.length
  ·have hlc:=fj h0;have R:=y6 @hlc aC
   repeat' ((first |(with_reducible refine .guard (fun hb =>?_) (fun hb =>?_) <;>try simp only[hb])|refine U.aG (by decide +kernel) rfl fun K hK =>?_|(refine .aE [0,1,4,5,6,18] hK ?_;clear hK K)|(with_reducible refine .done (hK _ ?_);clear hK K)|refine U.of rfl ?_|(with_reducible refine av.aF (fun h =>?_) (fun h =>?_) <;>try simp only[h])) <;>try simp only[aH,R,simprocAttr])
   all_goals clear R
   all_goals rfl
  ·have hlc:=fH h0;have R:=y6 @hlc aC
   repeat' ((first |(with_reducible refine .guard (fun hb =>?_) (fun hb =>?_) <;>try simp only[hb])|refine U.aG (by decide +kernel) rfl fun K hK =>?_|(refine .aE [0,1,4,5,6,18] hK ?_;clear hK K)|(with_reducible refine .done (hK _ ?_);clear hK K)|refine U.of rfl ?_|(with_reducible refine av.aF (fun h =>?_) (fun h =>?_) <;>try simp only[h])) <;>try simp only[aH,R,simprocAttr])
   all_goals clear R
   all_goals rfl
 by_cases hlt:i<a.length
 ·have hlc:=fj hlt;have he:=fun A=>fi (A:=A) 8 hlt rfl;have he2:=fun A=>fi (A:=A) (l:=b) (k:=i) 8 (by omega) rfl;have hw:=eP (i:=i) (by omega);have e1:=jr hlt;have e2:=jr (l:=b) (i:=i) (by omega);have hg:a=b→a[i]=b[i]'(by omega):=fun e=>by subst e;rfl
  have h1':=h1 rfl;generalize a[i]=r at *;generalize (b[i]'(by omega))=r' at *;have R:=y6 @hlc (y6 @he (y6 @he2 (y6 @hw aC)))
  repeat' ((first |(with_reducible refine .guard (fun hb =>?_) (fun hb =>?_) <;>try simp only[hb])|refine U.aG (by decide +kernel) rfl fun K hK =>?_|(refine .aE [0,1,4,5,6,18] hK ?_;clear hK K)|(with_reducible refine .done (hK _ ?_);clear hK K)|refine U.of rfl ?_|(with_reducible refine av.aF (fun h =>?_) (fun h =>?_) <;>try simp only[h])) <;>try simp only[aH,R,simprocAttr])
  all_goals clear R
  refine ⟨(i+1,decide (r=r')),⟨by simp only;omega,fun h =>?_,fun h =>?_⟩,by simp only;omega,?_⟩
  ·simp only at h ⊢;rw[e1,e2,h1',of_decide_eq_true h]
  ·simp only at h;exact fun e=>of_decide_eq_false h (hg e)
  ·clear hg h1 h2 h1';refine bC.cO ?_ ?_ ?_ ?_ <;>simp[cm,cv,ct,bW,cj,I.only,bI]
   all_goals rfl
 ·have hlc:=fH hlt;have heq:a=b:=by
   have:=h1 rfl
   rwa [List.take_of_length_le (by omega),List.take_of_length_le (by omega)] at this
  rw[decide_eq_true heq];have R:=y6 @hlc aC
  repeat' ((first |(with_reducible refine .guard (fun hb =>?_) (fun hb =>?_) <;>try simp only[hb])|refine U.aG (by decide +kernel) rfl fun K hK =>?_|(refine .aE [0,1,4,5,6,18] hK ?_;clear hK K)|(with_reducible refine .done (hK _ ?_);clear hK K)|refine U.of rfl ?_|(with_reducible refine av.aF (fun h =>?_) (fun h =>?_) <;>try simp only[h])) <;>try simp only[aH,R,simprocAttr])
  all_goals clear R
  all_goals rfl
end Go.Proofs.YtoffnnjbplgnaaaGreatDoor
