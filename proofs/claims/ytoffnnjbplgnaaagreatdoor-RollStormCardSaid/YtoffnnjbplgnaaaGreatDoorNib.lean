/-
  A part of the proof that the law RollStorm returns true for every input; five variables of Go's library start as the text lays them (the card ties them); conditions: none beyond the statement's own. (part 2 of 6)
-/
import Derived.Lib.AppendZerosOnto
import Derived.Lib.Strings
import Derived.Maps.RangeRun
import Derived.Laws.MakeOwn
import Derived.Laws.BytesArg
import Derived.Lib.ConvBytes
import Derived.Lib.AtoiErrMem
import Derived.Orders
import Derived.OrdersIn
import Derived.Test.YtoffnnjbplgnaaaGreatDoorNia
set_option linter.unusedSimpArgs false
set_option linter.unusedVariables false
set_option maxHeartbeats 16000000
set_option maxRecDepth 100000
namespace Go.Abs
open Go Go.RowKit
section
variable {c:ct} {A:ae} {o:Oper} {x:I}
theorem lQ{P:Program}{w:World}(k:IntKind)(n:Int)(y:Nat)(code:BoundsCode)(g1:0≤n)(g2:n≤y):(Instr.sliceBound (.int k n) y code).run P w=.ok n.toNat w:=by
 simp[Instr.sliceBound,asIntOf,g1,g2]
theorem Vr{t e:TypeId}{y:Operand}{y':ay}{lo hi mx:Option Operand}{lo' hi' mx':Option ay}{i:TypeInfo}{fs:List I}{n:Nat}{p:List Nat}{sz l0 k:Nat}(ho:o.op=.slice t y lo hi mx)(hu:c.P.underlying t=some (.slice e))(hi0:c.P.info? e=some i)
  (hy:aU c.P 0 y=some y') (h1:ir c.P lo=some lo') (h2:ir c.P hi=some hi') (h3:ir c.P mx=some mx') (hmh:mx'.isSome=true→hi'.isSome=true) (hsz:sz=c.P.cellsOf e)
  (h:ah A y'=.view n p sz l0 k) (hd:bT A (.ptr n p)=some (.agg fs)) (hx:iX n p sz l0 k fs.length (lo'.map (ah A)) (hi'.map (ah A)) (mx'.map (ah A))=some x):cM c A o x :=
 .same fun a w D E hs=>by
  have opt:∀ {q:Option Operand} {q':Option ay},ir c.P q=some q'→ic w D E (q'.map (ah A)) (q.map a.eval):=by
   intro q q' hq;cases q with
   |none=>simp only[ir,v6] at hq;subst hq;simp[ic]
   |some z =>
    simp only[ir,t7] at hq;obtain ⟨z',hz,rfl⟩:=hq;simpa[ic] using bn hs hz
  have h0:=bn hs hy;rw[h] at h0;obtain ⟨yy,b,cs,T,off,c1,c2,c3,k1,k2,k3,k4,k5,k6,k7,k8,k9,k10,k11,k12,hval⟩:=hs.view h0 hd;have hmh':(mx'.map (ah A)).isSome=true→(hi'.map (ah A)).isSome=true:=by simpa using hmh
  unfold iX at hx;split at hx
  ·cases hx
  rename_i hh hbh;split at hx
  ·cases hx
  rename_i ll hbl;have d1:=qD (opt h1) hbl;have d2:=qD (opt h2) hbh;have o3:=opt h3;split at hx
  ·rename_i hmx;split at hx
   case isFalse=>cases hx
   rename_i hb;obtain ⟨b1,b2,b3⟩:=hb;have hvmx:mx.map a.eval=none:=by
    rw[hmx] at o3;cases hq:mx.map a.eval with
    |none=>rfl
    |some v=>rw[hq] at o3;simp[ic] at o3
   have hsb:(Instr.sliceBounds true k (fs.length-l0) (lo.map a.eval) (hi.map a.eval) (mx.map a.eval)).run c.P w=.ok (ll.toNat,hh.toNat,fs.length-l0) w:=by
    rw[hvmx];rcases d2 with ⟨_,g2,hm2⟩ | ⟨_,q2,g2⟩ <;>rcases d1 with ⟨_,g1,hm1⟩ | ⟨_,q1,g1⟩ <;>rw[g1,g2]
    ·subst hm1 hm2;simp[Instr.sliceBounds]
    ·subst hm2;simp[Instr.sliceBounds,lQ q1 ll k _ b1 (by omega)]
    ·subst hm1;simp[Instr.sliceBounds,lQ q2 hh (fs.length-l0) _ (by omega) (by omega)]
    ·simp[Instr.sliceBounds,lQ q2 hh (fs.length-l0) _ (by omega) (by omega),lQ q1 ll hh.toNat _ b1 (by omega)]
   have hrun:(Instr.sliceAt t (a.eval y) (lo.map a.eval) (hi.map a.eval) (mx.map a.eval)).run c.P w =
     .ok (.slice (if fs.length-l0=ll.toNat then some ⟨b,off+l0*sz,none⟩ else some ⟨b,off+l0*sz+ll.toNat*c.P.cellsOf e,none⟩) (hh.toNat-ll.toNat) (fs.length-l0-ll.toNat)) w:=by
    rw[hval];simp only[Instr.sliceAt,Instr.slice,Sem.run_bind,run_underlying hu,Result.andThen_ok,hsb,gT hi0,Sem.run_pure,zz7,l8]
   refine ⟨_,by simp only[execOp,ho,Sem.run_bind,hrun];rfl,?_⟩;split at hx
   ·rename_i hl;simp only[v6] at hx;subst hx;have e1:fs.length-l0=ll.toNat:=by omega
    have e2:hh.toNat-ll.toNat=0:=by omega
    rw[if_pos e1,e2,e1,Nat.sub_self];exact ⟨_,by simp[ba,I.isAgg];rfl,by simp only[af];exact ⟨_,rfl⟩⟩
   ·rename_i hl;simp only[v6] at hx;subst hx;rw[if_neg (by omega)];refine ⟨_,by simp[ba,I.isAgg];rfl,?_⟩;simp only[af];refine ⟨b,yy.aL,off,I.cJ fs,k2,k5,lS p yy _ k4,?_,?_,?_,?_⟩
    ·rw[I.cL,Z9,Nat.add_mul,Nat.add_assoc,hsz,Nat.sub_sub]
    ·rw[I.cL,Z9];exact k12
    ·rw[I.cL,Z9];omega
    ·rw[I.cL];intro s hs';obtain ⟨f,hf,rfl⟩:=zx4.1 hs';rw[I.iH];exact k10 f hf
  ·rename_i kk m hmx;split at hx
   case isFalse=>cases hx
   rename_i hb;obtain ⟨b1,b2,b3,b4⟩:=hb;simp only[v6] at hx;subst hx;obtain ⟨vmx,hvmx,hvm⟩:∃ v,mx.map a.eval=some v∧v=.int kk m:=by
    rw[hmx] at o3;cases hq:mx.map a.eval with
    |none=>rw[hq] at o3;simp[ic] at o3
    |some v=>rw[hq] at o3;simp only[ic] at o3;exact ⟨v,rfl,(dB o3).1⟩
   subst hvm;have hsb:∃ r,(Instr.sliceBounds true k (fs.length-l0) (lo.map a.eval) (hi.map a.eval) (mx.map a.eval)).run c.P w=.ok r w:=by
    rw[hvmx];rcases d2 with ⟨g0,g2,hm2⟩ | ⟨_,q2,g2⟩
    ·rw[hmx,g0] at hmh';simp at hmh'
    ·rcases d1 with ⟨_,g1,hm1⟩ | ⟨_,q1,g1⟩ <;>rw[g1,g2]
     ·exact ⟨_,by simp[Instr.sliceBounds,lQ kk m (fs.length-l0) _ (by omega) b4,lQ q2 hh m.toNat _ (by omega) (by omega)];rfl⟩
     ·exact ⟨_,by simp[Instr.sliceBounds,lQ kk m (fs.length-l0) _ (by omega) b4,lQ q2 hh m.toNat _ (by omega) (by omega),lQ q1 ll hh.toNat _ b1 (by omega)];rfl⟩
   obtain ⟨⟨r1,iB,tj⟩,hsb⟩:=hsb;have hrun:∃ v,(Instr.sliceAt t (a.eval y) (lo.map a.eval) (hi.map a.eval) (mx.map a.eval)).run c.P w=.ok v w:=by
    rw[hval];exact ⟨_,by simp only[Instr.sliceAt,Instr.slice,Sem.run_bind,run_underlying hu,Result.andThen_ok,hsb,gT hi0,Sem.run_pure,zz7];rfl⟩
   obtain ⟨v,hrun⟩:=hrun;exact ⟨v,by simp only[execOp,ho,Sem.run_bind,hrun];rfl,by simp[aR]⟩
  ·cases hx
theorem Vc{t e:TypeId}{y z:Operand}{y' z':ay}{i:TypeInfo}{fs:List I}{n:Nat}{p:List Nat}{sz lo k:Nat}{kk:IntKind}{j:Int}(ho:o.op=.indexAddr t y z)(hu:c.P.underlying t=some (.slice e))(hi:c.P.info? e=some i)
  (hy:aU c.P 0 y=some y') (hz:aU c.P 0 z=some z') (hsz:sz=c.P.cellsOf e) (h:ah A y'=.view n p sz lo k) (hd:bT A (.ptr n p)=some (.agg fs)) (h':ah A z'=.int kk j) (hj:0≤j∧j<k):cM c A o (.ptr n (p++[lo+j.toNat])) :=
 .same fun a w D E hs=>by
  have h0:=bn hs hy;rw[h] at h0;have h1':=bn hs hz;rw[h'] at h1';obtain ⟨yy,b,cs,T,off,c1,c2,c3,k1,k2,k3,k4,k5,k6,k7,k8,k9,k10,k11,k12,hval⟩:=hs.view h0 hd;refine ⟨.pointer (some ⟨b,off+lo*sz+j.toNat*c.P.cellsOf e,none⟩),by simp only[execOp,ho,hval,(dB h1').1,Sem.run_bind,w8 hu hi hj];rfl,?_⟩;refine ⟨_,by simp[ba,I.isAgg];rfl,?_⟩;simp only[af];refine ⟨b,yy.aL,off+(lo+j.toNat)*sz,k2,?_,by rw[Nat.add_mul,←Nat.add_assoc,hsz]⟩;have hl:lo+j.toNat<fs.length:=by omega
  rw[bP.s9 p yy.aL off (lo+j.toNat) _ k5 (lS p yy _ k4) (by rw[I.cL];simpa using hl),I.cL,←List.map_take,←I.cL,I.lT,nI fs _ k10 (by omega)]
theorem vF{ty:TypeId}{y:Operand}{y':ay}{n:Nat}{e:TypeId}(ho:o.op=.call { callee:=.builtin .cap,args := #[y],argTypes := #[ty] })(hu:c.P.underlying ty=some (.slice e))
  (hy:aU c.P ty y=some y') (h:∀ a w D E,aM c A a w D E→∀ v,aR w D E (ah A y') v→n≤maxLen∧∃ ad l,v=.slice ad l n):cM c A o (.int .i64 n) :=
 .same fun a w D E hs=>by
  obtain ⟨h0,ad,l,ab⟩:=h a w D E hs _ (bn hs hy);exact ⟨.int .i64 n,by simp[execOp,ho,resolve,invoke,builtin,Builtin.cap_,run_underlying hu,ab,goInt],iy (v8 h0)⟩
theorem UW{t e:TypeId}{i:TypeInfo}(ho:o.op=.buildSlice t 0 #[])(hu:c.P.underlying t=some (.slice e))(hi:c.P.info? e=some i):cM c A o (.c0 (c.P.cellsOf e)):=by
 intro a w D E hs;have hs':=hs.newRow (.cells #[] e);refine ⟨.slice (some ⟨w.heap.size,0,none⟩) 0 0,_,_,?_,hs',⟨_,by simp[ba,I.isAgg];rfl,by simp only[af];exact ⟨_,rfl⟩⟩⟩;simp[execOp,ho,Instr.buildSlice,run_underlying hu,gT hi,newRow,Instr.fill,show (Array.range 0) = #[] from rfl]
theorem WL{neg:Bool}{t e:TypeId}{y z:Operand}{y':ay}{yt:TypeId}{s:Nat}(ho:o.op=.binOp (if neg then .neq else .eql) t y z yt)(hu:c.P.underlying t=some (.slice e))(hy:aU c.P 0 y=some y')(hz:aU c.P 0 z=some (.c (.nils s)))
  (h:∃ sz,ah A y'=.slice sz []∨ah A y'=.c0 sz) {a:Act} {w:World} {D:aH} {E:aN} (hs:aM c A a w D E):∃ b,(execOp a.eval o).run c.P w=.ok (.value (.bool b)) w:=by
 have h0:=bn hs hy;have h1:aR w D E (.nils s) (a.eval z):=bn hs hz;have ab:∃ ad cp,a.eval y=.slice ad 0 cp:=by
  obtain ⟨sz,h | h⟩:=h <;>rw[h] at h0
  ·obtain ⟨ad,cap,e1,_⟩:=kU h0;exact ⟨ad,cap,by simpa using e1⟩
  ·obtain ⟨cs,q1,q2⟩:=h0;simp only[af] at q2;obtain ⟨ad,q2⟩:=q2;exact ⟨ad,0,by simpa[ba,I.isAgg,q2] using q1.symm⟩
 obtain ⟨ad,cp,hyv⟩:=ab;have ab:a.eval z=.slice none 0 0:=by
  obtain ⟨cs,q1,q2⟩:=h1;simp only[af] at q2;simpa[ba,I.isAgg,q2] using q1.symm
 have he:∀ d,(Op.equalIn (d+1) t (.slice ad 0 cp) (.slice none 0 0)).run c.P w=.ok ad.isNone w:=fun d=>by
  cases ad <;>simp[Op.equalIn,run_underlying hu]
 refine ⟨if neg then !ad.isNone else ad.isNone,?_⟩;cases neg <;>simp only[execOp,ho,hyv,ab,if_true,zz3,if_false,Sem.run_bind,eqGuard] <;>simp[binOp,Op.equal,Op.maxDepth,he]
def iG(y:I)(p:List Nat)(j:Nat)(fs ys:List I):I:=y.dI p (.agg (fs.take j++(ys++fs.drop (j+ys.length))))
theorem L8{t e:TypeId}{y:Operand}{y':ay}{z:I}{n:Nat}{p:List Nat}{lo k:Nat}{b:I}{fs:List I}(ho:o.op=.call { callee:=.builtin .clear,args := #[y],argTypes := #[t] })(hu:c.P.underlying t=some (.slice e))(hy:aU c.P t y=some y')
  (hz:fm c.P e=some z) (ab:ah A y'=.view n p (c.P.cellsOf e) lo k) (hn:A.o n=some (.box b)) (hat:b.at p=some (.agg fs)) (hsh:I.cJ (List.replicate k z)=I.cJ ((fs.drop lo).take k)) (hd:o.dst=none) :
  gp c A o (A.aQ n (.box (iG b p lo fs (List.replicate k z)))):=by
 intro a w D E hs;obtain ⟨i,zv,hi,hzv,hzr⟩:=kj hz;have h0:=bn hs hy;rw[ab] at h0;have hx:bT A (.ptr n p)=some (.agg fs):=by simp only[bT,hn,hat]
 obtain ⟨yy,bk,cs,T,off,c1,c2,c3,k1,k2,k3,k4,k5,k6,k7,k8,k9,k10,k11,k12,hval⟩:=hs.view h0 hx;rw[hn] at k1;simp only[v6,aj.box.injEq] at k1;subst k1;have hr:aA w D E (List.replicate k z) (Builtin.zeroCells zv.cells k).toList:=by
  rw[ua];exact qH (hzr w D E) k
 obtain ⟨w',h1,h2⟩:=hs.iG (j:=lo) (ys:=List.replicate k z) hn k2 k3 k4 k5 k6 k7 k8 k9 k10 hr (by simpa using k11) (by simpa using hsh) c.P;cases k with
 |zero =>
  refine ⟨w,.inl ⟨.tuple #[],?_,D,E,?_⟩⟩
  ·simp[execOp,ho,resolve,invoke,builtin,Builtin.clear_,run_underlying hu,hval]
  ·rw[hd];have:iG b p lo fs (List.replicate 0 z)=b.dI p (.agg fs):=by simp[iG]
   have hw:w'=w:=by
    simp[Builtin.zeroCells,storeCells] at h1;exact h1.symm
   rw[hw] at h2;exact h2
 |succ k =>
  refine ⟨w',.inl ⟨.tuple #[],?_,D,E,?_⟩⟩
  ·simp[execOp,ho,resolve,invoke,builtin,Builtin.clear_,run_underlying hu,hval,zeroValue,typeInfo,hi,hzv,h1]
  ·rw[hd];exact h2
theorem Et{w:World}{D:aH}{E:aN} : ∀ l:List UInt8,aA w D E (l.map fun b=>I.int .u8 b.toNat) (l.map fun b=>Value.int .u8 b.toNat)
 | []=>rfl
 |b::l=>by
  simp only[zz1,aA];refine ⟨[.int .u8 b.toNat],_,rfl,?_,Et l⟩;simp only[af,true_and];have:=b.toNat_lt;simp[IntKind.min,IntKind.max,IntKind.bits,IntKind.signed];omega
theorem aM.Fv{a:Act}{w:World}{D:aH}{E:aN}(hsim:aM c A a w D E){sz:Nat}{x:I}{v:Value}{ys:List I}(ab:aR w D E x v)(hs:kg A sz x=some ys) :
  ∃ news:List Value,aA w D E ys news∧(∀ y∈ys,y.size=sz)∧ys.length≤maxLen∧(∀ P:Program,(Builtin.lenOf v).run P w=.ok ys.length w)∧∀ (P:Program) (m:Nat) (d2 rest:List Value),m≤ys.length→news=d2++rest→d2.length=m*sz→(Builtin.firstCells sz m v).run P w=.ok d2.toArray w:=by
 unfold kg at hs;split at hs
 ·rename_i s;split at hs
  case isFalse=>cases hs
  rename_i h1;subst h1;simp only[v6] at hs;subst hs;obtain ⟨rfl,hsz⟩:=gn ab;refine ⟨s.data.toList.map fun b=>.int .u8 b.toNat,Et _,?_,by simpa using hsz,fun P=>by simp[Builtin.lenOf],fun P m d2 rest hm e hl =>?_⟩
  ·intro y hy;obtain ⟨b,_,rfl⟩:=zx4.1 hy;simp[I.size]
  ·have e2:d2=(s.data.toList.map fun b=>Value.int .u8 b.toNat).take m:=by rw[e,List.take_left' (by omega)]
   have e3:=Lib.extract_data s 0 m;simp only[Builtin.firstCells,Sem.run_pure]
   congr 1
   apply Array.ext';rw[e2,Array.toList_map,e3];simp
 ·obtain ⟨ad,cp,news,s1,s2,s3,s4,s5,s6⟩:=hsim.lV ab hs;refine ⟨news,s4,s5,by omega,fun P=>by rw[s1];simp[Builtin.lenOf],fun P m d2 rest hm e hl =>?_⟩;rw[s1];by_cases hm0:m=0
  ·have:d2=[]:=zw1 (by rw[hl,hm0];simp);subst this;cases ad with
   |none=>exact run_firstCells_none _ _ _ _ _
   |some ad=>exact run_firstCells_some w sz m ad ys.length cp [] (by simp[hm0]) (by simp)
  ·obtain ⟨b2,o2,rfl,hr⟩:=s6 (fun h=>by rw[h] at hm;simp at hm;omega);refine run_firstCells_some w sz m _ ys.length cp d2 hl fun j v hj =>?_;rw[Addr.add_lit];refine hr j v ?_;rw[e,zy6 (zz6.1 hj).1];exact hj
theorem L9{t t' e:TypeId}{y x:Operand}{y' x':ay}{n:Nat}{p:List Nat}{lo k m:Nat}{b:I}{fs ys:List I}(ho:o.op=.call { callee:=.builtin .copy,args := #[y,x],argTypes := #[t,t'] })(hu:c.P.underlying t=some (.slice e))(hi:(c.P.info? e).isSome=true)
  (hy:aU c.P t y=some y') (hx:aU c.P t' x=some x') (ab:ah A y'=.view n p (c.P.cellsOf e) lo k) (hn:A.o n=some (.box b)) (hat:b.at p=some (.agg fs)) (hs:kg A (c.P.cellsOf e) (ah A x')=some ys) (hm:m=min ys.length k)
  (hsh:I.cJ (ys.take m)=I.cJ ((fs.drop lo).take m)) (hdn:∀ k,o.dst=some k→k<c.n) :
  gp c A o ((A.aQ n (.box (iG b p lo fs (ys.take m)))).aP o.dst (.int .i64 m)):=by
 intro a w D E hsim;obtain ⟨i,hi⟩:=zy4.1 hi;have h0:=bn hsim hy;rw[ab] at h0;have hxx:bT A (.ptr n p)=some (.agg fs):=by simp only[bT,hn,hat]
 obtain ⟨yy,bk,cs,T,off,c1,c2,c3,k1,k2,k3,k4,k5,k6,k7,k8,k9,k10,k11,k12,hval⟩:=hsim.view h0 hxx;rw[hn] at k1;simp only[v6,aj.box.injEq] at k1;subst k1;obtain ⟨news,s4,s5,s3,s1,s6⟩:=hsim.Fv (bn hsim hx) hs;have hmy:m≤ys.length:=by omega
 have hci:c.P.cellsOf e=i.size:=by simp[Program.cellsOf,hi]
 obtain ⟨d1,d2,d3,e1,e2,e3,e4⟩:=tp s4 s5 0 m (by omega);simp only[Nat.zero_mul,List.drop_zero] at e2 e3;have e2':d1=[]:=zw1 e2;subst e2';simp only[zy3] at e1;have hlen:(ys.take m).length=m:=by rw[zz4];omega
 have hd2:d2.length=m*i.size:=by rw[aA.length _ _ e3,I.gF (sz:=c.P.cellsOf e) _ (fun y hy=>s5 y (zw5 hy)),hlen,hci]
 obtain ⟨w',h1,h2⟩:=hsim.iG (j:=lo) (ys:=ys.take m) hn k2 k3 k4 k5 k6 k7 k8 k9 k10 e3 (by rw[hlen];omega) (by rw[hlen];exact hsh) c.P;have hf:=s6 c.P m d2 d3 hmy e1 (by rw[hd2,hci]);have h63:m≤maxLen:=by omega
 refine ⟨w',.inl ⟨.int .i64 m,?_,D,E,h2.aP hdn (iy (v8 h63))⟩⟩;have hmin:Nat.min ys.length k=m:=hm.symm;have hlo:=s1 c.P;simp only[execOp,ho,resolve,invoke,builtin,Sem.run_bind,Sem.run_pure,Result.andThen_ok,List.map_toArray,zz1,zy5,hval];simp[Builtin.copy_,run_underlying hu,hlo,hmin,gT hi,hf,h1,goInt]
theorem Ma{t t' e:TypeId}{y x:Operand}{y' x':ay}{z0:Nat}{ys:List I}(ho:o.op=.call { callee:=.builtin .copy,args := #[y,x],argTypes := #[t,t'] })(hu:c.P.underlying t=some (.slice e))(hi:(c.P.info? e).isSome=true)
  (hy:aU c.P t y=some y') (hx:aU c.P t' x=some x') (ab:ah A y'=.c0 z0) (hs:kg A (c.P.cellsOf e) (ah A x')=some ys) (hdn:∀ k,o.dst=some k→k<c.n) :
  gp c A o (A.aP o.dst (.int .i64 0)):=by
 intro a w D E hsim;obtain ⟨i,hi⟩:=zy4.1 hi;have h0:=bn hsim hy;rw[ab] at h0;obtain ⟨cs,q1,q2⟩:=h0;simp only[af] at q2;obtain ⟨ad,q2⟩:=q2;have hval:a.eval y=.slice ad 0 0:=by simpa[ba,I.isAgg,q2] using q1.symm
 obtain ⟨news,s4,s5,s3,s1,s6⟩:=hsim.Fv (bn hsim hx) hs;have hf:=s6 c.P 0 [] news (by omega) (by simp) (by simp);have hlo:=s1 c.P;refine ⟨w,.inl ⟨.int .i64 0,?_,D,E,hsim.aP hdn (iy ⟨by decide,by decide⟩)⟩⟩;have hmin:Nat.min ys.length 0=0:=Nat.min_eq_right (by omega);simp only[execOp,ho,resolve,invoke,builtin,Sem.run_bind,Sem.run_pure,Result.andThen_ok,List.map_toArray,zz1,zy5,hval];cases ad <;>simp[Builtin.copy_,run_underlying hu,hlo,gT hi,hf,goInt,storeCells]
theorem oe{a:Act}{w:World}{D:aH}{E:aN}(hs:aM c A a w D E){sz:Nat}{x:I}{v:Value}{es:List I}(ab:aR w D E x v)(he:c7 A sz x=some es) :
  ∃ ad cp olds,v=.slice ad es.length cp∧es.length≤cp∧cp≤maxLen∧aA w D E es olds∧(∀ y∈es,y.size=sz)∧∀ (P:Program) (w':World),(∀ p u,w.cell? p=some u→w'.cell? p=some u)→(Builtin.firstCells sz es.length v).run P w'=.ok olds.toArray w':=by
 obtain ⟨ad,cp,news,s1,s2,s3,s4,s5,s6⟩:=hs.lV ab he;refine ⟨ad,cp,news,s1,s2,s3,s4,s5,fun P w' hw =>?_⟩;have hl:news.length=es.length*sz:=by rw[aA.length _ _ s4,I.gF _ s5]
 rw[s1];by_cases h0:es=[]
 ·subst h0;have:news=[]:=zw1 (by rw[hl];simp);subst this;cases ad with
  |none=>exact run_firstCells_none _ _ _ _ _
  |some ad=>exact run_firstCells_some w' sz _ ad _ cp [] (by simp) (by simp)
 ·obtain ⟨b,o',rfl,hr⟩:=s6 h0;exact run_firstCells_some w' sz _ _ _ cp news hl fun j v hj=>by rw[Addr.add_lit];exact hw _ _ (hr j v hj)
theorem Ha{t e:TypeId}{s x:Operand}{s' x':ay}{es ys:List I}{z:I}{d:Nat}(ho:o.op=.call { callee:=.builtin .append,args := #[s,x],argTypes := #[t,t] })(hu:c.P.underlying t=some (.slice e))(hs':aU c.P t s=some s')(hx':aU c.P t x=some x')
  (hz:fm c.P e=some z) (hzs:z.size=c.P.cellsOf e) (hse:c7 A (c.P.cellsOf e) (ah A s')=some es) (hsx:c7 A (c.P.cellsOf e) (ah A x')=some ys) (hby:(es.length+ys.length)*c.P.bytesOf e≤140737488355328)
  (hd:o.dst=some d) (hdn:d<c.n) (hf:A.o d=none) (hne:ys≠[]) {a:Act} {w:World} {D:aH} {E:aN} (hsim:aM c A a w D E) (hfull:∀ ad l cp,a.eval s=.slice ad l cp→cp<l+ys.length) (hml:es.length+ys.length≤maxLen) :
  ∃ v w' m,(execOp a.eval o).run c.P w=.ok (.value v) w'∧es.length+ys.length+m≤maxLen ∧
   bE c ((A.aQ d (.box (.agg (es++(ys++List.replicate m z))))).aP o.dst (.view d [] (c.P.cellsOf e) 0 (es.length+ys.length))) (a.put o.dst v) w':=by
 obtain ⟨i,zv,hi,hzv,hzr⟩:=kj hz;have hci:c.P.cellsOf e=i.size:=by simp[Program.cellsOf,hi]
 have hbi:c.P.bytesOf e=i.bytes:=by simp[Program.bytesOf,hi]
 obtain ⟨ad1,cp1,olds,s1,s2,s3,s4,s5,s6⟩:=oe hsim (bn hsim hs') hse;obtain ⟨ad2,cp2,news,t1,t2,t3,t4,t5,t6⟩:=oe hsim (bn hsim hx') hsx;have hlt:=hfull _ _ _ s1;obtain ⟨m,hm⟩:∃ m,m=grownCap w (es.length+ys.length) cp1 e-(es.length+ys.length):=⟨_,rfl⟩
 have hge:=grownCap_ge w (es.length+ys.length) cp1 e;have hle:=grownCap_le_maxLen w (es.length+ys.length) cp1 e hml;obtain ⟨cells,hcells⟩:∃ cells:Array Value,cells=olds.toArray++news.toArray++Builtin.zeroCells zv.cells m:=⟨_,rfl⟩
 have hrun:(Builtin.append_ #[t,t] o.type #[a.eval s,a.eval x]).run c.P w=.ok (.slice (some ⟨w.heap.size,0,none⟩) (es.length+ys.length) (grownCap w (es.length+ys.length) cp1 e)) (w.drew.alloc (.cells cells e)):=by
  have hn:¬ (es.length+ys.length≤cp1):=by omega
  have h63:¬ (9223372036854775807<((es.length:Int)+(ys.length:Int))):=by simp only[maxLen] at hml;omega
  have h48:¬ (281474976710656<Builtin.nextslicecap (es.length+ys.length) cp1*i.bytes):=by
   have h3:(es.length+ys.length)*i.bytes≤140737488355328:=by rw[←hbi];exact hby
   have:=growslice_fits hlt h3;omega
  have g1:=s6 c.P w.drew (fun _ _ h=>h);have g2:=t6 c.P w.drew (fun _ _ h=>h);rw[s1,hci] at g1;rw[t1,hci] at g2;rw[s1,t1,hcells,hm];simp[Builtin.append_,run_underlying hu,sizeOf,typeInfo,zeroValue,hi,hzv,Builtin.lenOf,hn,h63,h48,Question.forced,g1,g2,newRow,grownCap]
  congr 2
  apply Array.ext';simp[zz0]
 have hcl:cells.toList=olds++(news++(List.replicate m zv.cells.toList).flatten):=by
  rw[hcells];simp[ua]
 have hrc:af w D E (.agg (es++(ys++List.replicate m z))) cells.toList:=by
  rw[hcl];simp only[af];exact jl _ _ _ _ s4 (jl _ _ _ _ t4 (qH (hzr w D E) m))
 have hsim':aM c A a w.drew D E:=hsim.grow ⟨rfl,rfl,rfl,zz2 _,fun _ _=>rfl⟩ (fun _ _ h=>h) (fun _ _ h _=>h) (fun b o h=>hsim.cS b o h);have hrc':af w.drew D E (.agg (es++(ys++List.replicate m z))) cells.toList:=af.later (w:=w) (w':=w.drew) (D:=D) (E:=E) ⟨fun _ _ h=>h,fun _ _ _ _ h=>h,fun _ _ _ h=>h,fun _ aB l h=>⟨aB,l,h,zz2 _,fun _=>rfl⟩,fun _ _ h=>h,fun _ _ h=>h,fun _ _ _ _ h=>h⟩ _ _ hrc;have h1:=hsim'.qx (T:=e) (.inl hdn) hf hrc';have hall:∀ y∈es++(ys++List.replicate m z),y.size=c.P.cellsOf e:=by
  intro y hy;rcases zy2.1 hy with hy | hy
  ·exact s5 y hy
  ·rcases zy2.1 hy with hy | hy
   ·exact t5 y hy
   ·rw[List.eq_of_mem_replicate hy];exact hzs
 have hlen:(es++(ys++List.replicate m z)).length=es.length+ys.length+m:=by simp[Nat.add_assoc]
 have h2:=h1.put (d:=d) (x:=.view d [] (c.P.cellsOf e) 0 (es.length+ys.length)) (v:=.slice (some ⟨w.heap.size,0,none⟩) (es.length+ys.length) (grownCap w (es.length+ys.length) cp1 e)) hdn ⟨_,by simp[ba,I.isAgg];rfl,by
  simp only[af,if_true];refine ⟨w.heap.size,(I.agg (es++(ys++List.replicate m z))).aL,0,I.cJ (es++(ys++List.replicate m z)),rfl,by cases (I.agg (es++(ys++List.replicate m z))).aL <;>simp[bP.off],by simp only[I.aL,bP.part],?_,?_,?_,?_⟩
  ·rw[I.cL,Z9,hlen,hm];simp;omega
  ·rw[I.cL,Z9,hlen];omega
  ·rw[I.cL,Z9,hlen];omega
  ·rw[I.cL];intro s hs;obtain ⟨f,hf,rfl⟩:=zx4.1 hs;rw[I.iH];exact hall f hf⟩
 refine ⟨.slice (some ⟨w.heap.size,0,none⟩) (es.length+ys.length) (grownCap w (es.length+ys.length) cp1 e),w.drew.alloc (.cells cells e),m,?_,by omega,?_⟩
 ·unfold execOp;simp only[ho,resolve,invoke,builtin,Sem.run_bind,Sem.run_pure,Result.andThen_ok,List.map_toArray,zz1,zy5,hrun]
 ·rw[hd];exact ⟨D,_,h2⟩
theorem Hc{t t' e:TypeId}{s x:Operand}{s' x':ay}{es:List I}{k:Nat}{kx kt:IntKind}{bA:Int}{z:I}{d:Nat}(ho:o.op=.call { callee:=.builtin .append,args := #[s,x],argTypes := #[t,t'] })(hu:c.P.underlying t=some (.slice e))(hs':aU c.P t s=some s')(hx':aU c.P t' x=some x')(ht':c.P.underlying t'=some (.int kt))(hvx:ah A x'=.int kx bA)(hk:bA.toNat=k)(hk0:0<k)(hpos:0<c.P.cellsOf e)
  (hz:fm c.P e=some z) (hzs:z.size=c.P.cellsOf e) (hse:c7 A (c.P.cellsOf e) (ah A s')=some es) (hby:(es.length+k)*c.P.bytesOf e≤140737488355328)
  (hd:o.dst=some d) (hdn:d<c.n) (hf:A.o d=none) {a:Act} {w:World} {D:aH} {E:aN} (hsim:aM c A a w D E) (hfull:∀ ad l cp,a.eval s=.slice ad l cp→cp<l+k) (hml:es.length+k≤maxLen) :
  ∃ v w' m,(execOp a.eval o).run c.P w=.ok (.value v) w'∧es.length+k+m≤maxLen ∧
   bE c ((A.aQ d (.box (.agg (es++(List.replicate k z++List.replicate m z))))).aP o.dst (.view d [] (c.P.cellsOf e) 0 (es.length+k))) (a.put o.dst v) w':=by
 obtain ⟨i,zv,hi,hzv,hzr⟩:=kj hz;have hci:c.P.cellsOf e=i.size:=by simp[Program.cellsOf,hi]
 have hbi:c.P.bytesOf e=i.bytes:=by simp[Program.bytesOf,hi]
 obtain ⟨ad1,cp1,olds,s1,s2,s3,s4,s5,s6⟩:=oe hsim (bn hsim hs') hse;have v2:=bn hsim hx';rw[hvx] at v2;have t1:a.eval x=.int kx ((k:Nat):Int):=by rw[(dB v2).1];congr 1;omega
 have t4:aA w D E (List.replicate k z) (List.replicate k zv.cells.toList).flatten:=qH (hzr w D E) k;have t5:∀ y∈List.replicate k z,y.size=c.P.cellsOf e:=fun y hy=>by rw[List.eq_of_mem_replicate hy];exact hzs
 have hlt:=hfull _ _ _ s1;obtain ⟨m,hm⟩:∃ m,m=grownCap w (es.length+k) cp1 e-(es.length+k):=⟨_,rfl⟩
 have hge:=grownCap_ge w (es.length+k) cp1 e;have hle:=grownCap_le_maxLen w (es.length+k) cp1 e hml;obtain ⟨cells,hcells⟩:∃ cells:Array Value,cells=olds.toArray++Builtin.zeroCells zv.cells k++Builtin.zeroCells zv.cells m:=⟨_,rfl⟩
 have hrun:(Builtin.append_ #[t,t'] o.type #[a.eval s,a.eval x]).run c.P w=.ok (.slice (some ⟨w.heap.size,0,none⟩) (es.length+k) (grownCap w (es.length+k) cp1 e)) (w.drew.alloc (.cells cells e)):=by
  have h3:(es.length+k)*i.bytes≤140737488355328:=by rw[←hbi];exact hby
  have g1:=s6 c.P w.drew (fun _ _ h=>h);rw[s1,hci] at g1;have hfit:=growslice_fits hlt h3;have hkb:k*i.bytes≤(es.length+k)*i.bytes:=Nat.mul_le_mul_right _ (by omega);rw[s1,t1,hcells,hm];exact Lib.run_append_grow_zeros w t t' o.type e i zv kx kt hu ht' hi hzv ad1 es.length cp1 olds g1 k hk0 (by rw[←hci];exact hpos) hlt (by simp only[maxLen] at hml;omega) (by omega) (by omega)
 have hcl:cells.toList=olds++((List.replicate k zv.cells.toList).flatten++(List.replicate m zv.cells.toList).flatten):=by
  rw[hcells];simp[ua]
 have hrc:af w D E (.agg (es++(List.replicate k z++List.replicate m z))) cells.toList:=by
  rw[hcl];simp only[af];exact jl _ _ _ _ s4 (jl _ _ _ _ t4 (qH (hzr w D E) m))
 have hsim':aM c A a w.drew D E:=hsim.grow ⟨rfl,rfl,rfl,zz2 _,fun _ _=>rfl⟩ (fun _ _ h=>h) (fun _ _ h _=>h) (fun b o h=>hsim.cS b o h);have hrc':af w.drew D E (.agg (es++(List.replicate k z++List.replicate m z))) cells.toList:=af.later (w:=w) (w':=w.drew) (D:=D) (E:=E) ⟨fun _ _ h=>h,fun _ _ _ _ h=>h,fun _ _ _ h=>h,fun _ aB l h=>⟨aB,l,h,zz2 _,fun _=>rfl⟩,fun _ _ h=>h,fun _ _ h=>h,fun _ _ _ _ h=>h⟩ _ _ hrc;have h1:=hsim'.qx (T:=e) (.inl hdn) hf hrc';have hall:∀ y∈es++(List.replicate k z++List.replicate m z),y.size=c.P.cellsOf e:=by
  intro y hy;rcases zy2.1 hy with hy | hy
  ·exact s5 y hy
  ·rcases zy2.1 hy with hy | hy
   ·exact t5 y hy
   ·rw[List.eq_of_mem_replicate hy];exact hzs
 have hlen:(es++(List.replicate k z++List.replicate m z)).length=es.length+k+m:=by simp[Nat.add_assoc]
 have h2:=h1.put (d:=d) (x:=.view d [] (c.P.cellsOf e) 0 (es.length+k)) (v:=.slice (some ⟨w.heap.size,0,none⟩) (es.length+k) (grownCap w (es.length+k) cp1 e)) hdn ⟨_,by simp[ba,I.isAgg];rfl,by
  simp only[af,if_true];refine ⟨w.heap.size,(I.agg (es++(List.replicate k z++List.replicate m z))).aL,0,I.cJ (es++(List.replicate k z++List.replicate m z)),rfl,by cases (I.agg (es++(List.replicate k z++List.replicate m z))).aL <;>simp[bP.off],by simp only[I.aL,bP.part],?_,?_,?_,?_⟩
  ·rw[I.cL,Z9,hlen,hm];simp;omega
  ·rw[I.cL,Z9,hlen];omega
  ·rw[I.cL,Z9,hlen];omega
  ·rw[I.cL];intro s hs;obtain ⟨f,hf,rfl⟩:=zx4.1 hs;rw[I.iH];exact hall f hf⟩
 refine ⟨.slice (some ⟨w.heap.size,0,none⟩) (es.length+k) (grownCap w (es.length+k) cp1 e),w.drew.alloc (.cells cells e),m,?_,by omega,?_⟩
 ·unfold execOp;simp only[ho,resolve,invoke,builtin,Sem.run_bind,Sem.run_pure,Result.andThen_ok,List.map_toArray,zz1,zy5,hrun]
 ·rw[hd];exact ⟨D,_,h2⟩
theorem L5{t e:TypeId}{s x:Operand}{s' x':ay}{ys:List I}{n:Nat}{p:List Nat}{lo k:Nat}{b:I}{fs:List I}(ho:o.op=.call { callee:=.builtin .append,args := #[s,x],argTypes := #[t,t] })(hu:c.P.underlying t=some (.slice e))(hi:(c.P.info? e).isSome=true)
  (hs':aU c.P t s=some s') (hx':aU c.P t x=some x') (ab:ah A s'=.view n p (c.P.cellsOf e) lo k) (hn:A.o n=some (.box b)) (hat:b.at p=some (.agg fs)) (hsx:c7 A (c.P.cellsOf e) (ah A x')=some ys) (hroom:lo+k+ys.length≤fs.length)
  (hsh:I.cJ ys=I.cJ ((fs.drop (lo+k)).take ys.length)) (hdn:∀ k,o.dst=some k→k<c.n) :
  gp c A o ((A.aQ n (.box (iG b p (lo+k) fs ys))).aP o.dst (.view n p (c.P.cellsOf e) lo (k+ys.length))):=by
 intro a w D E hsim;obtain ⟨i,hi⟩:=zy4.1 hi;have hci:c.P.cellsOf e=i.size:=by simp[Program.cellsOf,hi]
 have h0:=bn hsim hs';rw[ab] at h0;have hxx:bT A (.ptr n p)=some (.agg fs):=by simp only[bT,hn,hat]
 obtain ⟨yy,bk,cs,T,off,c1,c2,c3,k1,k2,k3,k4,k5,k6,k7,k8,k9,k10,k11,k12,hval⟩:=hsim.view h0 hxx;rw[hn] at k1;simp only[v6,aj.box.injEq] at k1;subst k1;obtain ⟨ad2,cp2,news,t1,t2,t3,t4,t5,t6⟩:=oe hsim (bn hsim hx') hsx;obtain ⟨w',h1,h2⟩:=hsim.iG (j:=lo+k) (ys:=ys) hn k2 k3 k4 k5 k6 k7 k8 k9 k10 t4 hroom hsh c.P;have g2:=t6 c.P w (fun _ _ h=>h);rw[t1,hci] at g2;have hr:k+ys.length≤fs.length-lo:=by omega
 refine ⟨w',.inl ⟨.slice (some ⟨bk,off+lo*c.P.cellsOf e,none⟩) (k+ys.length) (fs.length-lo),?_,D,E,h2.aP hdn ?_⟩⟩
 ·have e1:off+lo*i.size+k*i.size=off+(lo+k)*c.P.cellsOf e:=by rw[hci,Nat.add_mul];omega
  unfold execOp;simp only[ho,resolve,invoke,builtin,Sem.run_bind,Sem.run_pure,Result.andThen_ok,List.map_toArray,zz1,zy5,hval,t1];simp[Builtin.append_,run_underlying hu,sizeOf,typeInfo,hi,Builtin.lenOf,hr,g2,Addr.add_lit,hci,e1];rw[hci] at h1;simp[h1]
 ·refine ⟨_,by simp[ba,I.isAgg];rfl,?_⟩;simp only[af];refine ⟨bk,b.aL,off,I.cJ fs,k2,k5,lS p b _ k4,?_,?_,?_,?_⟩
  ·rw[I.cL,Z9]
  ·rw[I.cL,Z9];exact k12
  ·rw[I.cL,Z9];omega
  ·rw[I.cL];intro s hs;obtain ⟨f,hf,rfl⟩:=zx4.1 hs;rw[I.iH];exact k10 f hf
theorem L6{t e:TypeId}{s x:Operand}{s' x':ay}{es:List I}(ho:o.op=.call { callee:=.builtin .append,args := #[s,x],argTypes := #[t,t] })(hu:c.P.underlying t=some (.slice e))(hi:(c.P.info? e).isSome=true)(hs':aU c.P t s=some s')(hx':aU c.P t x=some x')
  (hse:c7 A (c.P.cellsOf e) (ah A s')=some es) (hsx:c7 A (c.P.cellsOf e) (ah A x')=some []):cM c A o (ah A s') :=
 .same fun a w D E hsim=>by
  obtain ⟨i,hi⟩:=zy4.1 hi;have hci:c.P.cellsOf e=i.size:=by simp[Program.cellsOf,hi]
  obtain ⟨ad1,cp1,olds,s1,s2,s3,s4,s5,s6⟩:=oe hsim (bn hsim hs') hse;obtain ⟨ad2,cp2,news,t1,t2,t3,t4,t5,t6⟩:=oe hsim (bn hsim hx') hsx;have g2:=t6 c.P w (fun _ _ h=>h);rw[t1,hci] at g2;simp only[aA] at t4;subst t4;refine ⟨a.eval s,?_,bn hsim hs'⟩;simp only[zw2] at g2 t1;unfold execOp;simp only[ho,resolve,invoke,builtin,Sem.run_bind,Sem.run_pure,Result.andThen_ok,List.map_toArray,zz1,zy5,s1,t1];cases ad1 <;>simp[Builtin.append_,run_underlying hu,sizeOf,typeInfo,hi,Builtin.lenOf,s2,g2,storeCells]
end
theorem AQ{w:World}{D:aH}{E:aN} : ∀ (l:List cm) (xs ys:List I) (cs ds:List Value),l.all vM=true→gN l xs ys=some true→aA w D E xs cs→aA w D E ys ds→xs=ys∧cs=ds∧∀ v∈cs,∃ k n,v=.int k n
 | [],xs,ys,cs,ds,_,h,hx,hy=>by
  simp only[gN] at h;split at h
  ·simp only[aA] at hx hy;subst hx hy;exact ⟨rfl,rfl,fun v ab=>by simp at ab⟩
  ·cases h
 |t::ts,xs,ys,cs,ds,ha,h,hx,hy=>by
  simp only[List.all_cons,Z7] at ha;simp only[gN] at h;split at h
  case h_2=>cases h
  rename_i f fs g gs;unfold iN at h;split at h
  case h_2=>cases h
  rename_i a b h1 h2;simp only[v6,Z7] at h;obtain ⟨rfl,rfl⟩:=h;simp only[aA] at hx hy;obtain ⟨c1,c2,rfl,p1,p2⟩:=hx;obtain ⟨d1,d2,rfl,q1,q2⟩:=hy;obtain ⟨rfl,rfl,k3⟩:=AQ ts fs gs c2 d2 ha.2 h2 p2 q2;cases t with
  |i k =>
   simp only[bW] at h1;split at h1
   case h_2=>cases h1
   rename_i k1 a k2 b;split at h1
   case isFalse=>cases h1
   rename_i hk;simp only[v6,beq_iff_eq] at h1;subst h1;obtain ⟨rfl,rfl⟩:=hk;simp only[af] at p1 q1;obtain ⟨rfl,_⟩:=p1;obtain ⟨rfl,_⟩:=q1;refine ⟨rfl,rfl,fun v ab =>?_⟩;rcases zy2.1 ab with ab | ab
   ·simp at ab;exact ⟨_,_,ab⟩
   ·exact k3 v ab
  |b | s | aV _ | pO _ _=>simp[vM] at ha
theorem E9:∀ (cs:List Value) (n:Nat),(∀ v∈cs,∃ k m,v=.int k m)→((cs.zip cs).all fun (x,y)=>Instr.sameBits n x y)=true
 | [],_,_=>rfl
 |v::cs,n,h=>by
  obtain ⟨k,m,rfl⟩:=h v (by simp);simp only[List.zip_cons_cons,List.all_cons,Z7];exact ⟨by cases n <;>simp[Instr.sameBits],E9 cs n fun v ab=>h v (by simp[ab])⟩
theorem VZ{P:Program}{t:TypeId}{ty:cm}{w:World}{D:aH}{E:aN}{x y:I}{u v:Value}(hk:jB P t=some ty)(h:bW ty x y=some true)(hx:aR w D E x u)(hy:aR w D E y v):x=y∧u=v∧Instr.sameBits 10000 u v=true:=by
 unfold jB at hk;split at hk
 ·rename_i k hu;simp only[v6] at hk;subst hk;simp only[bW] at h;split at h
  case h_2=>cases h
  split at h
  case isFalse=>cases h
  rename_i hk;simp only[v6,beq_iff_eq] at h;subst h;obtain ⟨rfl,rfl⟩:=hk;rw[(dB hx).1,(dB hy).1];exact ⟨rfl,rfl,by simp[Instr.sameBits]⟩
 ·rename_i fs hu;split at hk
  case h_2=>cases hk
  rename_i l hl;split at hk
  case isFalse=>cases hk
  rename_i hc;simp only[v6] at hk;subst hk;simp only[bW] at h;split at h
  case h_2=>cases h
  rename_i xs ys;obtain ⟨cs,rfl,hc1⟩:=iW hx;obtain ⟨ds,rfl,hd1⟩:=iW hy;obtain ⟨rfl,rfl,h3⟩:=AQ l xs ys cs ds hc.1 h hc1 hd1;refine ⟨rfl,rfl,?_⟩;simp only[Instr.sameBits,beq_self_eq_true,Bool.true_and];exact E9 cs _ h3
 ·cases hk
section
variable {P:Program} {w:World} {D:aH} {E:aN}
theorem uS{t:TypeId}{ty:cm}{em:Bool}{x y:I}{v:Value}{r:Bool}(hk:jB P t=some ty)(hx:aR w D E x v)(h:bW ty x y=some r)(n:Nat):(Instr.checkKey em (n+2) t v).run P w=.ok () w:=by
 unfold jB at hk;split at hk
 ·rename_i k hu;simp only[v6] at hk;subst hk;simp only[bW] at h;split at h
  case h_2=>cases h
  rename_i k1 a k2 b;split at h
  case isFalse=>cases h
  rename_i hq;rw[(dB hx).1,hq.1];exact MapKept.run_checkKey hu (by simp[MapKept.IsKey]) em (n+1)
 ·rename_i fs hu;split at hk
  case h_2=>cases hk
  rename_i l hl;split at hk
  case isFalse=>cases hk
  rename_i hc;simp only[v6] at hk;subst hk;simp only[bW] at h;split at h
  case h_2=>cases h
  rename_i xs ys;obtain ⟨cs,rfl,hc1⟩:=iW hx;obtain ⟨d,hd⟩:∃ d,d=11:=⟨_,rfl⟩
  rw[show (12:Nat)=d+1 from by omega] at hl;simp only[fZ,hu] at hl;split at hl
  case isFalse=>cases hl
  rename_i hc2;simp only[t7,cm.aV.injEq] at hl;obtain ⟨l',hl,rfl⟩:=hl;rw[show n+2=(n+1)+1 from rfl,Instr.checkKey];simp only[Sem.run_bind,run_underlying hu,Result.andThen_ok];rw[←Array.forIn_toList];have key:∀ (av:List Field) (l:List cm) (xs ys:List I) (r:Bool) (c1 c2:List Value),
    (av.mapM fun f=>match fZ P d f.type with
     |some ty=>if ty.size=P.cellsOf f.type then some ty else none
     | none => none) = some l → (∀ f ∈ av, f.name ≠ "_" ∧ qk (P.underlying f.type) = true) → oW P c1.length av = true → aA w D E xs c2 → gN l xs ys = some r → c1 ++ c2 = cs →
    Sem.run P (forIn av PUnit.unit (fun (f : Field) (_ : PUnit) => (if f.name ≠ "_" then (do
     let x ←part f.type cs.toArray f.offset
     Instr.checkKey em (n+1) f.type x
     pure (ForInStep.yield PUnit.unit)) else pure (ForInStep.yield PUnit.unit):Sem (ForInStep PUnit)))) w=.ok PUnit.unit w:=by
   intro av
   induction av with
   |nil=>intros;simp
   |cons f av ih =>
    intro l xs ys r c1 c2 hm hn ho hx h htot;simp only[List.mapM_cons,Option.bind_eq_bind,Option.pure_def,zw6,v6] at hm;obtain ⟨ty,hty,tys,htys,rfl⟩:=hm;split at hty
    case h_2=>cases hty
    rename_i ty' hd';split at hty
    case isFalse=>cases hty
    rename_i hsz;simp only[v6] at hty;subst hty;simp only[gN] at h;split at h
    case h_2=>cases h
    rename_i x xs y ys;unfold iN at h;split at h
    case h_2=>cases h
    rename_i ra rb h1 h2;simp only[aA] at hx;obtain ⟨e1,e2,rfl,k1,k2⟩:=hx;obtain ⟨s,q1,q2,q3⟩:=u6 hd' hsz h1;obtain ⟨u,p1,p2⟩:=nF (P:=P) (w:=w) (c1:=c1) (c3:=e2) q1 q2 k1;simp only[oW,Z7,beq_iff_eq] at ho;have hsx:=ou ty' x y ra h1;have hle:e1.length=P.cellsOf f.type:=by rw[af.length _ _ k1,hsx.1,hsz]
    have ih':=ih tys xs ys rb (c1++e1) e2 htys (fun g hg=>hn g (by simp[hg])) (by simp only[Z8,hle];exact ho.2) k2 h2 (by rw[←htot];simp);rw[zz0,htot,←ho.1] at p1;obtain ⟨hnm,hint⟩:=hn f (by simp);have hck:(Instr.checkKey em (n+1) f.type u).run P w=.ok () w:=by
     cases hu:P.underlying f.type with
     |none=>simp[hu,qk] at hint
     |some dd =>
      cases dd <;>simp[hu,qk] at hint
      rename_i q;have hti:ty'=.i q:=by
       rw[show d=10+1 from by omega] at hd';unfold fZ at hd';simp only[hu,v6] at hd';exact hd'.symm
      subst hti;simp only[bW] at h1;split at h1
      case h_2=>cases h1
      split at h1
      case isFalse=>cases h1
      rename_i hq;rw[(dB p2).1,hq.1];exact MapKept.run_checkKey hu (by simp[MapKept.IsKey]) em n
    simp only[List.forIn_cons,Sem.run_bind,hnm,ne_eq,not_false_eq_true,if_true,p1,Result.andThen_ok,hck,Sem.run_pure];exact ih'
  rw[key fs.toList l' xs ys r [] cs hl (fun f hf=>⟨by simpa using zx8.1 hc2.2.1 f hf,Array.all_eq_true_iff_forall_mem.1 hc.2 f (Array.mem_toList_iff.1 hf)⟩) hc2.2.2 hc1 h rfl];simp
 ·cases hk
theorem xb{x:I}{xs:List I}{vs:List Value}(h:ao w D E (x::xs) vs):∃ v rest,vs=v::rest∧aR w D E x v∧ao w D E xs rest:=by
 simp only[ao] at h;obtain ⟨v,rest,cs,rfl,h1,h2,h3⟩:=h;exact ⟨v,rest,rfl,fG h1 h2,h3⟩
def n5(r:Option Nat)(es:List MapEntry)(i:Nat)(q:Option (Nat×Value)):Prop :=
 (r=none∧q=none)∨∃ j e,r=some (i+j)∧es[j]?=some e∧q=some (i+j,e.val)
theorem n5.step{r:Option Nat}{es:List MapEntry}{e:MapEntry}{i:Nat}{q:Option (Nat×Value)}(h:n5 r es (i+1) q):n5 r (e::es) i q:=by
 rcases h with h | ⟨j,e',h1,h2,h3⟩
 ·exact .inl h
 ·exact .inr ⟨j+1,e',by rw[h1];congr 1;omega,by simpa using h2,by rw[h3];congr 2;omega⟩
theorem Bb{q:IntKind}{k:I}{v:Value}(ab:aR w D E k v):∀ (ks:List I) (es:List MapEntry) (i:Nat) (r:Option Nat),ao w D E ks (es.map (·.key))→iu (.i q) k ks i=some r →
  ∃ x,Instr.findNow (.int q) v es i=some x∧n5 r es i x
 | [],es,i,r,hk,h=>by
  simp only[iu,v6] at h;simp only[ao,List.map_eq_nil_iff] at hk;subst h hk;exact ⟨none,rfl,.inl ⟨rfl,rfl⟩⟩
 |x::ks,es,i,r,hk,h=>by
  obtain ⟨u,rest,e1,hu,hr⟩:=xb hk;cases es with
  |nil=>cases e1
  |cons e es =>
   simp only[zz1,zy7] at e1;obtain ⟨rfl,rfl⟩:=e1;simp only[iu] at h;have same:∀ b,bW (.i q) k x=some b→Instr.sameNow (.int q) v e.key=some b:=fun b hb=>by
    simp only[bW] at hb;split at hb
    case h_2=>cases hb
    split at hb
    case isFalse=>cases hb
    rename_i hq;simp only[v6] at hb;subst hb;rw[(dB ab).1,(dB hu).1];simp[Instr.sameNow,hq.1,hq.2]
   split at h
   ·rename_i hb;simp only[v6] at h;subst h;exact ⟨some (i,e.val),by simp[Instr.findNow,same _ hb],.inr ⟨0,e,rfl,rfl,rfl⟩⟩
   ·rename_i hb;obtain ⟨y,h1,h2⟩:=Bb ab ks es (i+1) r hr h;exact ⟨y,by simp[Instr.findNow,same _ hb,h1],h2.step⟩
   ·cases h
theorem A9{t:TypeId}{ty:cm}(hty:fZ P 12 t=some ty){k:I}{v:Value}(ab:aR w D E k v):∀ (ks:List I) (es:List MapEntry) (i:Nat) (r:Option Nat),ao w D E ks (es.map (·.key))→iu ty k ks i=some r →
  ∃ x,(Instr.findAsking t v es i).run P w=.ok x w∧n5 r es i x
 | [],es,i,r,hk,h=>by
  simp only[iu,v6] at h;simp only[ao,List.map_eq_nil_iff] at hk;subst h hk;exact ⟨none,rfl,.inl ⟨rfl,rfl⟩⟩
 |x::ks,es,i,r,hk,h=>by
  obtain ⟨u,rest,e1,hu,hr⟩:=xb hk;cases es with
  |nil=>cases e1
  |cons e es =>
   simp only[zz1,zy7] at e1;obtain ⟨rfl,rfl⟩:=e1;simp only[iu] at h;have same:∀ b,bW ty k x=some b→(Op.equal t v e.key).run P w=.ok b w:=fun b hb=>rZ 12 t ty hty k x v e.key b ab hu hb _ (by simp[Op.maxDepth]);split at h
   ·rename_i hb;simp only[v6] at h;subst h;exact ⟨some (i,e.val),by simp[Instr.findAsking,same _ hb],.inr ⟨0,e,rfl,rfl,rfl⟩⟩
   ·rename_i hb;obtain ⟨y,h1,h2⟩:=A9 hty ab ks es (i+1) r hr h;exact ⟨y,by simp[Instr.findAsking,same _ hb,h1],h2.step⟩
   ·cases h
theorem oB{t:TypeId}{ty:cm}(hk:jB P t=some ty){k:I}{v:Value}(ab:aR w D E k v){ks:List I}{es:List MapEntry}{r:Option Nat}(hks:ao w D E ks (es.map (·.key)))(h:iu ty k ks 0=some r) :
  ∃ x,(Instr.findKey t v es).run P w=.ok x w∧n5 r es 0 x:=by
 have hk0:=hk;unfold jB at hk;split at hk
 ·rename_i q hu;simp only[v6] at hk;subst hk;obtain ⟨x,h1,h2⟩:=Bb ab ks es 0 r hks h;exact ⟨x,by simp[Instr.findKey,run_underlying hu,h1],h2⟩
 ·rename_i fs hu;split at hk
  case h_2=>cases hk
  rename_i l hl;split at hk
  case isFalse=>cases hk
  simp only[v6] at hk;subst hk;cases es with
  |nil =>
   cases ks with
   |nil =>
    simp only[iu,v6] at h;subst h;exact ⟨none,by simp[Instr.findKey,run_underlying hu,Instr.findNow],.inl ⟨rfl,rfl⟩⟩
   |cons x xs=>simp[ao] at hks
  |cons e es =>
   obtain ⟨x,h1,h2⟩:=A9 hl ab ks (e::es) 0 r hks h;exact ⟨x,by simp[Instr.findKey,run_underlying hu,Instr.findNow,Instr.sameNow,h1],h2⟩
 ·cases hk
theorem lN:∀ {xs:List I} {vs:List Value} {j:Nat} {v:Value},ao w D E xs vs→vs[j]?=some v→∃ x,xs[j]?=some x∧aR w D E x v
 | [],vs,j,v,h,hj=>by simp only[ao] at h;subst h;simp at hj
 |x::xs,vs,j,v,h,hj=>by
  obtain ⟨u,rest,rfl,h1,h2⟩:=xb h;cases j with
  |zero=>simp only[List.getElem?_cons_zero,v6] at hj;subst hj;exact ⟨x,rfl,h1⟩
  |succ j=>exact lN (xs:=xs) h2 (by simpa using hj)
end
section
variable {c:ct} {A:ae} {o:Oper} {x:I}
theorem Wu{a:Act}{w:World}{D:aH}{E:aN}(hs:aM c A a w D E){m:I}{v:Value}{ks vs:List I}(ab:aR w D E m v)(hm:gj A m=some (ks,vs)) :
  (v=.map none∧ks=[]∧vs=[])∨∃ b es clock,v=.map (some b)∧w.heap[b]?=some (.map es clock)∧ao w D E ks (es.toList.map (·.key))∧ao w D E vs (es.toList.map (·.val)):=by
 unfold gj at hm;split at hm
 ·simp only[v6,Prod.mk.injEq] at hm;obtain ⟨rfl,rfl⟩:=hm;obtain ⟨cs,q1,q2⟩:=ab;simp only[af] at q2;obtain ⟨b,es,ck,q3,q4,q5,q6⟩:=q2;exact .inr ⟨b,es,ck,by simpa[ba,I.isAgg,q3] using q1.symm,q4.1,q5,q6⟩
 ·rename_i n;split at hm
  case h_2=>cases hm
  rename_i ks' vs' hn;simp only[v6,Prod.mk.injEq] at hm;obtain ⟨rfl,rfl⟩:=hm;obtain ⟨cs,q1,q2⟩:=ab;simp only[af] at q2;obtain ⟨b,q3,q4⟩:=q2;obtain ⟨b',es,ck,k1,k2,k3,k4,k5,k6,k7⟩:=hs.map hn;rw[k1] at q3;cases q3;exact .inr ⟨_,es,ck,by simpa[ba,I.isAgg,q4] using q1.symm,k3,k5,k6⟩
 ·simp only[v6,Prod.mk.injEq] at hm;obtain ⟨rfl,rfl⟩:=hm;obtain ⟨cs,q1,q2⟩:=ab;simp only[af] at q2;exact .inl ⟨by simpa[ba,I.isAgg,q2.1] using q1.symm,rfl,rfl⟩
 ·cases hm
theorem nS{w:World}{D:aH}{E:aN}{y:I}{v:Value}(ab:y.cC=true)(h:aR w D E y v):∃ cs,ba y v cs∧af w D E y cs:=by
 cases y <;>simp[I.cC] at ab <;>exact h
theorem ph{w:World}{D:aH}{E:aN} : ∀ {xs:List I} {vs:List Value} {j:Nat} {x:I},ao w D E xs vs→xs[j]?=some x→x.cC=true
 | [],_,j,x,_,h=>by simp at h
 |y::ys,vs,j,x,hr,h=>by
  simp only[ao] at hr;obtain ⟨v,rest,cs,rfl,h1,h2,h3⟩:=hr;cases j with
  |zero =>
   simp only[List.getElem?_cons_zero,v6] at h;subst h;cases y <;>simp only[af] at h2 <;>rfl
  |succ j=>exact ph (xs:=ys) h3 (by simpa using h)
theorem ZY{x:I}{cs r:List Value}(h:lY x cs=some r):x.cC=true:=by
 cases x <;>first | rfl | (cases cs <;>simp[lY] at h)
theorem Z0{P:Program}{t:TypeId}{z:I}(hz:fm P t=some z)(hp:tZ P t z=true):∃ zv,(∀ w,(zeroValue t).run P w=.ok zv w)∧z.cC=true∧∀ w D E,aR w D E z zv:=by
 have hz0:=hz;obtain ⟨i,zv,hi,hzz,hzr⟩:=kj hz;have ab:z.cC=true:=by
  unfold fm at hz;split at hz
  ·split at hz
   ·rename_i hk;simp only[v6] at hz;subst hz;exact ZY hk
   ·cases hz
  ·cases hz
 refine ⟨zv,fun w=>by simp[zeroValue,typeInfo,hi,hzz],ab,fun w D E =>?_⟩;have h1:=hzr w D E;simp only[tZ,hi,zw8,hzz] at hp;refine fG (cs:=zv.cells.toList) ?_ h1;cases zv <;>simp only[ba] at hp ⊢ <;>first
  |(rw[if_pos hp];simp[Value.cells])
  |(have hp':z.isAgg=false:=by simpa using hp
    rw[hp'];simp[Value.cells])
theorem Vf{t kt et:TypeId}{m k:Operand}{m' k':ay}{ok:Bool}{ty:cm}{z v:I}{ks vs:List I}{there:Bool}(ho:o.op=.lookup t m k ok)(hu:c.P.underlying t=some (.map kt et))(hk:jB c.P kt=some ty)(hz:fm c.P et=some z)(hzp:tZ c.P et z=true)
  (hm:aU c.P 0 m=some m') (hk':aU c.P 0 k=some k') (hmm:gj A (ah A m')=some (ks,vs)) (hl:qu ty z (ah A k') ks vs=some (v,there)):cM c A o (if ok then .tuple [v,.bool there] else v) :=
 .same fun a w D E hs=>by
  have h1:=bn hs hm;have h2:=bn hs hk';obtain ⟨zv,hzrun,hzv,hzrv⟩:=Z0 hz hzp;unfold qu at hl;split at hl
  case isFalse=>cases hl
  rename_i hkk;obtain ⟨rk,hrk⟩:=zy4.1 hkk;have hchk:=fun em=>uS (P:=c.P) (w:=w) (em:=em) hk h2 hrk 9998;have bf:∀ u there,v.cC=true→aR w D E v u→aR w D E (if ok then .tuple [v,.bool there] else v) (if ok then Value.tuple #[u,.bool there] else u):=fun u there hval hu'=>by
   cases ok
   ·exact hu'
   ·obtain ⟨cs,q1,q2⟩:=nS hval hu';simp only[if_true,aR,ao];exact ⟨[u,.bool there],rfl,u,[.bool there],cs,rfl,q1,q2,.bool there,[],[.bool there],rfl,by simp[ba,I.isAgg],by simp[af],rfl⟩
  have cd:∀ (es:Array MapEntry),ao w D E ks (es.toList.map (·.key))→ao w D E vs (es.toList.map (·.val))→∃ u,v.cC=true∧aR w D E v u ∧
    ((∃ i,(Instr.findKey kt (a.eval k) es.toList).run c.P w=.ok (some (i,u)) w∧there=true)∨((Instr.findKey kt (a.eval k) es.toList).run c.P w=.ok none w∧u=zv∧there=false)):=fun es hks hvs=>by
   split at hl
   ·rename_i i hfi;simp only[t7,Prod.mk.injEq] at hl;obtain ⟨v',hv',rfl,rfl⟩:=hl;obtain ⟨q,q1,q2⟩:=oB hk h2 hks hfi;rcases q2 with ⟨e,_⟩ | ⟨j,e,e1,e2,rfl⟩
    ·cases e
    ·simp only[zz5,v6] at e1;subst e1;obtain ⟨x,k1,k2⟩:=lN (j:=i) (v:=e.val) hvs (by simp only[zx3,e2,zz7]);rw[hv',v6] at k1;subst k1;exact ⟨e.val,ph hvs hv',k2,.inl ⟨_,q1,rfl⟩⟩
   ·rename_i hfi;simp only[v6,Prod.mk.injEq] at hl;obtain ⟨rfl,rfl⟩:=hl;obtain ⟨q,q1,q2⟩:=oB hk h2 hks hfi;rcases q2 with ⟨_,rfl⟩ | ⟨j,e,e1,_⟩
    ·exact ⟨zv,hzv,hzrv w D E,.inr ⟨q1,rfl,rfl⟩⟩
    ·cases e1
   ·cases hl
  rcases Wu hs h1 hmm with ⟨e1,rfl,rfl⟩ | ⟨b,es,ck,e1,e2,e3,e4⟩
  ·obtain ⟨u,hval,hu',hrun⟩:=cd #[] (by simp[ao]) (by simp[ao]);refine ⟨_,?_,bf u there hval hu'⟩;rcases hrun with ⟨i,q1,rfl⟩ | ⟨q1,rfl,rfl⟩ <;>
    simp only[execOp,ho,Instr.lookup,e1,Sem.run_bind,run_underlying hu,Result.andThen_ok,Sem.run_pure,hchk,q1,hzrun]
  ·obtain ⟨u,hval,hu',hrun⟩:=cd es e3 e4;refine ⟨_,?_,bf u there hval hu'⟩;rcases hrun with ⟨i,q1,rfl⟩ | ⟨q1,rfl,rfl⟩ <;>
    simp only[execOp,ho,Instr.lookup,e1,Sem.run_bind,run_underlying hu,Result.andThen_ok,MapKept.run_getObj_map e2,Sem.run_pure,hchk,q1,hzrun]
theorem BG{y:Operand}{y':ay}(ho:o.op=.nilCheck y)(hy:aU c.P 0 y=some y')(h:(∃ n p,ah A y'=.ptr n p)∨∃ z,ah A y'=.ref z):cM c A o (ah A y') :=
 .same fun a w D E hs=>by
  have h1:=bn hs hy;rcases h with ⟨n,p,h⟩ | ⟨z,h⟩
  ·rw[h] at h1 ⊢;obtain ⟨b,aL,off,_,_,e⟩:=kT h1;exact ⟨a.eval y,by simp only[execOp,ho,e,Sem.run_pure],h1⟩
  ·rw[h] at h1 ⊢;obtain ⟨b,off,cs,e,_⟩:=pd h1;exact ⟨a.eval y,by simp only[execOp,ho,e,Sem.run_pure],h1⟩
theorem BX{w:World}{D:aH}{E:aN}{x:I}{v:Value}{b:Bool}(h:iw x=some b)(ab:aR w D E x v):∃ ad,v=.pointer ad∧ad.isNone=b:=by
 cases x <;>simp only[iw,v6] at h <;>try (cases h;done)
 case nilp =>
  subst h;obtain ⟨cs,q1,q2⟩:=ab;simp only[af] at q2;exact ⟨none,by simpa[ba,I.isAgg,q2] using q1.symm,rfl⟩
 case ptr n p =>
  subst h;obtain ⟨b,aL,off,_,_,e⟩:=kT ab;exact ⟨_,e,rfl⟩
 case ref z =>
  subst h;obtain ⟨b,off,cs,e,_⟩:=pd ab;exact ⟨_,e,rfl⟩
theorem Vk{x y:Operand}{x' y':ay}{tys:Array TypeId}{v:I}(ho:o.op=.call { callee:=.builtin .max,args := #[x,y],argTypes:=tys })(hx:aU c.P 0 x=some x')(hy:aU c.P 0 y=some y')(h:wk (ah A x') (ah A y')=some v):cM c A o v :=
 .same fun a w D E hs=>by
  have h1:=bn hs hx;have h2:=bn hs hy;unfold wk at h;split at h
  case h_2=>cases h
  rename_i k n k2 m e1 e2;split at h
  case isFalse=>cases h
  rename_i hk;subst hk;simp only[v6] at h;subst h;rw[e1] at h1;rw[e2] at h2;obtain ⟨v1,r1⟩:=dB h1;obtain ⟨v2,iB⟩:=dB h2;refine ⟨.int k (if m>n then m else n),by simp[execOp,ho,resolve,invoke,builtin,Builtin.max_,Builtin.max2,v1,v2],iy ?_⟩;split
  ·exact iB
  ·exact r1
theorem Vp{neg:Bool}{t yt e:TypeId}{y z:Operand}{y' z':ay}{b1 b2:Bool}(ho:o.op=.binOp (if neg then .neq else .eql) t y z yt)(hu:c.P.underlying t=some (.pointer e))(hy:aU c.P 0 y=some y')(hz:aU c.P 0 z=some z')
  (h1:iw (ah A y')=some b1) (h2:iw (ah A z')=some b2) (h:b1=true∨b2=true):cM c A o (.bool (if neg then !(b1&&b2) else (b1&&b2))) :=
 .same fun a w D E hs=>by
  obtain ⟨p,e1,k1⟩:=BX h1 (bn hs hy);obtain ⟨q,e2,k2⟩:=BX h2 (bn hs hz);have he:∀ d,(Op.equalIn (d+1) t (.pointer p) (.pointer q)).run c.P w=.ok (b1&&b2) w:=fun d=>by
   subst k1 k2;cases p <;>cases q <;>simp at h <;>simp[Op.equalIn,run_underlying hu]
  refine ⟨.bool (if neg then !(b1&&b2) else (b1&&b2)),?_,kJ _⟩;cases neg <;>simp only[execOp,ho,e1,e2,if_true,zz3,if_false,Sem.run_bind,eqGuard] <;>simp[binOp,Op.equal,Op.maxDepth,he]
end
section
variable {c:ct} {A:ae} {o:Oper} {x:I}
theorem Mc{t:TypeId}{d:Nat}(ho:o.op=.makeMap t none)(hd:o.dst=some d)(hn:d<c.n)(hf:A.o d=none):gp c A o ((A.aQ d (.cn [] [])).put d (.mref d)):=by
 intro a w D E hs;have h1:=hs.WJ (.inl hn) hf;have h2:=h1.put (x:=.mref d) (v:=.map (some w.heap.size)) hn ⟨_,by simp[ba,I.isAgg];rfl,by
  simp only[af,if_true];exact ⟨w.heap.size,rfl,rfl⟩⟩
 exact ⟨w.alloc (.map #[] 0),.inl ⟨.map (some w.heap.size),by simp[execOp,ho,Instr.makeMap],D,_,by rw[hd];exact h2⟩⟩
theorem Md{t e:TypeId}{l l':Operand}{z:I}{n d:Nat}(ho:o.op=.makeSlice t l l')(hr:ub l l'=some n)(hu:c.P.underlying t=some (.slice e))(hz:fm c.P e=some z)(hby:n*c.P.bytesOf e≤281474976710656)
  (hd:o.dst=some d) (hn:d<c.n) (hf:A.o d=none):gp c A o ((A.aQ d (.bF e (c.P.cellsOf e) [])).put d (.own d 0)):=by
 obtain ⟨hm,k,k',rfl,rfl⟩:=ZZ hr;intro a w D E hs;obtain ⟨i,zv,hi,hzz,_⟩:=kj hz;have hsz:c.P.cellsOf e=i.size:=by simp[Program.cellsOf,hi]
 have hcap:n≤maxLen:=by unfold maxLen;omega
 have hbytes:(i.bytes:Int)*(n:Int)≤281474976710656:=by
  have:c.P.bytesOf e=i.bytes:=by simp[Program.bytesOf,hi]
  rw[this] at hby;have h2:((i.bytes*n:Nat):Int)≤281474976710656:=by rw[Nat.mul_comm] at hby;omega
  rwa [Int.natCast_mul] at h2
 have hrun:=run_make (P:=c.P) w t e i zv hu hi hzz k k' 0 n (Int.le_refl _) (by omega) hbytes (by omega);simp only[Int.toNat_natCast,Int.toNat_zero] at hrun;have h2:=hs.qy (d:=d) (x:=.bF e (c.P.cellsOf e) []) (o':=.cells (madeCells zv.cells (n*i.size)) e) (e:=.rw (some (w.heap.size,n)) 0) (.inl hn) hf rfl (fun _ hno =>
  ⟨some (w.heap.size,n),by simp,by simp,_,[],_,.inl hs.dn.size,heap_alloc_new w _,(zy3 _).symm,by simp[aA],by rw[size_madeCells,hsz],zv0 _,hcap,fun o ho=>absurd ho (hno o)⟩)
 have h3:=h2.put (x:=.own d 0) (v:=.slice (some ⟨w.heap.size,0,none⟩) 0 n) hn ⟨_,by simp[ba,I.isAgg];rfl,by
  simp only[af,if_true];exact ⟨_,0,rfl,zz2 _,⟨_,_,_,rfl⟩,fun _=>rfl⟩⟩
 refine ⟨_,.inl ⟨_,?_,D,_,by rw[hd];exact h3⟩⟩;simp only[execOp,ho,Act.eval,Sem.run_bind,hrun,Result.andThen_ok,Sem.run_pure]
theorem xa{w:World}{D:aH}{E:aN} : ∀ {xs ys:List I} {us vs:List Value},ao w D E xs us→ao w D E ys vs→ao w D E (xs++ys) (us++vs)
 | [],ys,us,vs,h,k=>by simp only[ao] at h;subst h;simpa using k
 |x::xs,ys,us,vs,h,k=>by
  simp only[ao,zz8] at *;obtain ⟨v,rest,cs,rfl,h1,h2,h3⟩:=h;exact ⟨v,rest++vs,cs,rfl,h1,h2,xa h3 k⟩
theorem EV{w:World}{D:aH}{E:aN} : ∀ {xs:List I} {us:List Value} {i:Nat} {y:I} {v:Value} {cs:List Value},ao w D E xs us→ba y v cs→af w D E y cs→ao w D E (xs.set i y) (us.set i v)
 | [],us,i,y,v,cs,h,_,_=>by simp only[ao] at h;subst h;simp[ao]
 |x::xs,us,i,y,v,cs,h,k1,k2=>by
  simp only[ao] at h;obtain ⟨u,rest,ds,rfl,h1,h2,h3⟩:=h;cases i with
  |zero=>simp only[List.set_cons_zero,ao];exact ⟨v,rest,cs,rfl,k1,k2,h3⟩
  |succ i=>simp only[List.set_cons_succ,ao];exact ⟨u,_,ds,rfl,h1,h2,EV h3 k1 k2⟩
theorem EU{w:World}{D:aH}{E:aN}{y:I}{v:Value}{cs:List Value}(h1:ba y v cs)(h2:af w D E y cs):ao w D E [y] [v]:=by
 simp only[ao];exact ⟨v,[],cs,rfl,h1,h2,rfl⟩
theorem Ba{ty:cm}{k:I} : ∀ {ks:List I} {i j:Nat},iu ty k ks i=some (some j)→∃ x,ks[j-i]?=some x∧i≤j∧bW ty k x=some true
 | [],i,j,h=>by simp[iu] at h
 |x::xs,i,j,h=>by
  simp only[iu] at h;split at h
  ·rename_i hb;simp only[v6] at h;subst h;exact ⟨x,by simp,zz2 _,hb⟩
  ·obtain ⟨y,h1,h2,h3⟩:=Ba h;refine ⟨y,?_,by omega,h3⟩;rw[show j-i=(j-(i+1))+1 from by omega];simpa using h1
  ·cases h
theorem AE{t kt et:TypeId}{m k v:Operand}{m' k' v':ay}{ty:cm}{n:Nat}{ks vs ks' vs':List I}(ho:o.op=.mapUpdate t m k v∨o.op=.insert t m k v)(hu:c.P.underlying t=some (.map kt et))(hk:jB c.P kt=some ty)
  (hm:aU c.P 0 m=some m') (hk':aU c.P 0 k=some k') (hv':aU c.P et v=some v') (hmm:ah A m'=.mref n) (hn:A.o n=some (.cn ks vs)) (hl:qw ty (ah A k') (ah A v') ks vs=some (ks',vs')) (hd:o.dst=none) :
  gp c A o (A.aQ n (.cn ks' vs')):=by
 intro a w D E hs;have h1:=bn hs hm;have h2:=bn hs hk';have h3:=bn hs hv';rw[hmm] at h1;unfold qw at hl;split at hl
 case isFalse=>cases hl
 rename_i hc;obtain ⟨hkk,hkv,hvv⟩:=hc;obtain ⟨rk,hrk⟩:=zy4.1 hkk;have hchk:=fun em=>uS (P:=c.P) (w:=w) (em:=em) hk h2 hrk 9998;obtain ⟨kcs,kp1,kp2⟩:=nS hkv h2;obtain ⟨vcs,vp1,vp2⟩:=nS hvv h3;obtain ⟨b,es,ck,k1,k2,k3,k4,k5,k6,k7⟩:=hs.map hn;have hmv:a.eval m=.map (some b):=by
  obtain ⟨cs,q1,q2⟩:=h1;simp only[af] at q2;obtain ⟨b',q3,q4⟩:=q2;rw[k1] at q3;cases q3;simpa[ba,I.isAgg,q4] using q1.symm
 -- the new entries
 have step:∀ (es':Array MapEntry) (ck':Nat),(Instr.mapUpdate t (.map (some b)) (a.eval k) (a.eval v)).run c.P w=.ok () (w.putObj b (.map es' ck'))→nM es' ck'→ao w D E ks' (es'.toList.map (·.key))→ao w D E vs' (es'.toList.map (·.val)) →
   ∃ w',((∃ u,(execOp a.eval o).run c.P w=.ok (.value u) w'∧bE c (A.aQ n (.cn ks' vs')) (a.put o.dst u) w')∨((execOp a.eval o).run c.P w=.ok .skip w'∧bE c (A.aQ n (.cn ks' vs')) (a.put o.dst undef) w')):=fun es' ck' hrun hst hks hvs=>by
  refine ⟨w.putObj b (.map es' ck'),.inr ⟨?_,?_⟩⟩
  ·rcases ho with ho | ho <;>simp only[execOp,ho,hmv,Sem.run_bind,hrun,Result.andThen_ok,Sem.run_pure]
  ·rw[hd];have:=hs.xl (o':=.map es' ck') (x:=.cn ks' vs') k1 rfl rfl k3 rfl (fun q=>by simp) k2 (fun hl' hh hno=>⟨b,es',ck',k1,k2,hh,hst,ao.later hl' _ _ hks,ao.later hl' _ _ hvs,hno⟩);exact ⟨D,E,this⟩
 split at hl
 ·rename_i i hfi;simp only[v6,Prod.mk.injEq] at hl;obtain ⟨rfl,rfl⟩:=hl;obtain ⟨q,q1,q2⟩:=oB hk h2 k5 hfi;rcases q2 with ⟨e,_⟩ | ⟨j,e,e1,e2,rfl⟩
  ·cases e
  simp only[zz5,v6] at e1;subst e1;obtain ⟨y,y1,_,y2⟩:=Ba hfi;simp only[Nat.sub_zero] at y1;obtain ⟨y',y3,y4⟩:=lN (j:=i) (v:=e.key) k5 (by simp only[zx3,e2,zz7]);rw[y1,v6] at y3;subst y3;obtain ⟨_,kk2,kk3⟩:=VZ hk y2 h2 y4;have hes:es[i]?=some e:=by rw[←zx0];exact e2
  have hlen:i<es.size:=(zy1.1 hes).1;refine step (es.modify i fun e => { e with key:=a.eval k,val:=a.eval v }) ck ?_ ?_ ?_ ?_
  ·have hsb:Instr.sameBits 10000 (((es[i]?).map (·.key)).getD (a.eval k)) (a.eval k)=true:=by
    rw[hes];simp only[zz7,Option.getD_some];rw[←kk2];rw[←kk2] at kk3;exact kk3
   simp only[Instr.mapUpdate,Sem.run_bind,run_underlying hu,Result.andThen_ok,MapKept.run_getObj_map k3,hchk,q1,zz5,Instr.keyThatStays,hsb,if_true,Sem.run_pure,MapKept.run_setObj_map _ k3];rfl
  all_goals
   have em:(es.modify i fun e => { e with key:=a.eval k,val:=a.eval v }).toList=es.toList.set i { e with key:=a.eval k,val:=a.eval v } :=by
    rw[Array.toList_modify];apply List.ext_getElem?;intro j;rw[List.getElem?_modify,List.getElem?_set];by_cases hij:i=j
    ·subst hij;have hge:es[i]'hlen=e:=(zy1.1 hes).2;simp[hlen,hge]
    ·simp[hij]
  ·refine ⟨fun x hx =>?_,?_⟩
   ·rw[em] at hx;rcases List.mem_or_eq_of_mem_set hx with hx | rfl
    ·exact k4.1 x hx
    ·exact k4.1 e (List.mem_of_getElem? e2)
   ·rw[em];have:(es.toList.set i { e with key:=a.eval k,val:=a.eval v }).map (·.born)=es.toList.map (·.born):=by
     rw[List.map_set];apply List.ext_getElem?;intro j;rw[List.getElem?_set];split
     ·rename_i hij;subst hij;simp[e2];exact hlen
     ·rfl
    rw[this];exact k4.2
  ·rw[em,List.map_set];have:(es.toList.map (·.key)).set i (a.eval k)=es.toList.map (·.key):=by
    apply List.ext_getElem?;intro j;rw[List.getElem?_set];split
    ·rename_i hij;subst hij;simp[e2,kk2];exact hlen
    ·rfl
   simp only[this];exact k5
  ·rw[em,List.map_set];exact EV k6 vp1 vp2
 ·rename_i hfi;simp only[v6,Prod.mk.injEq] at hl;obtain ⟨rfl,rfl⟩:=hl;obtain ⟨q,q1,q2⟩:=oB hk h2 k5 hfi;rcases q2 with ⟨_,rfl⟩ | ⟨j,e,e1,_⟩
  case inr=>cases e1
  refine step (es.push { key:=a.eval k,val:=a.eval v,born:=ck }) (ck+1) ?_ ⟨fun x hx =>?_,?_⟩ ?_ ?_
  ·simp only[Instr.mapUpdate,Sem.run_bind,run_underlying hu,Result.andThen_ok,MapKept.run_getObj_map k3,hchk,q1,MapKept.run_setObj_map _ k3];rfl
  ·simp only[Array.toList_push,zy2,zx2] at hx;rcases hx with hx | rfl
   ·have:=k4.1 x hx;omega
   ·simp
  ·simp only[Array.toList_push,zx5,zz1,zy5];refine List.nodup_append.2 ⟨k4.2,by simp,fun x hx y hy =>?_⟩;simp only[zx2] at hy;subst hy;obtain ⟨e,he,rfl⟩:=zx4.1 hx;exact Nat.ne_of_lt (k4.1 e he)
  ·simp only[Array.toList_push,zx5,zz1,zy5];exact xa k5 (EU kp1 kp2)
  ·simp only[Array.toList_push,zx5,zz1,zy5];exact xa k6 (EU vp1 vp2)
 ·cases hl
theorem sN{α β:Type}(f:α→β):∀ (l:List α) (i:Nat),(l.eraseIdx i).map f=(l.map f).eraseIdx i
 | [],_=>rfl
 |x::xs,0=>rfl
 |x::xs,i+1=>by simp only[List.eraseIdx_cons_succ,zz1,sN f xs i]
theorem xc{w:World}{D:aH}{E:aN} : ∀ {xs:List I} {us:List Value} (i:Nat),ao w D E xs us→ao w D E (xs.eraseIdx i) (us.eraseIdx i)
 | [],us,i,h=>by simp only[ao] at h;subst h;simp[ao]
 |x::xs,us,i,h=>by
  simp only[ao] at h;obtain ⟨v,rest,cs,rfl,h1,h2,h3⟩:=h;cases i with
  |zero=>exact h3
  |succ i=>simp only[List.eraseIdx_cons_succ,ao];exact ⟨v,_,cs,rfl,h1,h2,xc i h3⟩
theorem Mb{t kt et t':TypeId}{m k:Operand}{m' k':ay}{ty:cm}{n:Nat}{ks vs ks' vs':List I}(ho:o.op=.call { callee:=.builtin .delete,args := #[m,k],argTypes := #[t,t'] })(hu:c.P.underlying t=some (.map kt et))(hk:jB c.P kt=some ty)
  (hm:aU c.P 0 m=some m') (hk':aU c.P 0 k=some k') (hmm:ah A m'=.mref n) (hn:A.o n=some (.cn ks vs)) (hl:wa ty (ah A k') ks vs=some (ks',vs')) (hd:o.dst=none) :
  gp c A o (A.aQ n (.cn ks' vs')):=by
 intro a w D E hs;have h1:=bn hs hm;have h2:=bn hs hk';rw[hmm] at h1;unfold wa at hl;split at hl
 case isFalse=>cases hl
 rename_i hkk;obtain ⟨rk,hrk⟩:=zy4.1 hkk;have hchk:=fun em=>uS (P:=c.P) (w:=w) (em:=em) hk h2 hrk 9998;obtain ⟨b,es,ck,k1,k2,k3,k4,k5,k6,k7⟩:=hs.map hn;have hmv:a.eval m=.map (some b):=by
  obtain ⟨cs,q1,q2⟩:=h1;simp only[af] at q2;obtain ⟨b',q3,q4⟩:=q2;rw[k1] at q3;cases q3;simpa[ba,I.isAgg,q4] using q1.symm
 have step:∀ (es':Array MapEntry),(Builtin.delete_ #[t,t'] o.type #[.map (some b),a.eval k]).run c.P w=.ok (.tuple #[]) (w.putObj b (.map es' ck))→nM es' ck→ao w D E ks' (es'.toList.map (·.key))→ao w D E vs' (es'.toList.map (·.val)) →
   ∃ w',((∃ u,(execOp a.eval o).run c.P w=.ok (.value u) w'∧bE c (A.aQ n (.cn ks' vs')) (a.put o.dst u) w')∨((execOp a.eval o).run c.P w=.ok .skip w'∧bE c (A.aQ n (.cn ks' vs')) (a.put o.dst undef) w')):=fun es' hrun hst hks hvs=>by
  refine ⟨w.putObj b (.map es' ck),.inl ⟨.tuple #[],?_,?_⟩⟩
  ·simp[execOp,ho,resolve,invoke,builtin,hmv,hrun]
  ·rw[hd];have:=hs.xl (o':=.map es' ck) (x:=.cn ks' vs') k1 rfl rfl k3 rfl (fun q=>by simp) k2 (fun hl' hh hno=>⟨b,es',ck,k1,k2,hh,hst,ao.later hl' _ _ hks,ao.later hl' _ _ hvs,hno⟩);exact ⟨D,E,this⟩
 split at hl
 ·rename_i i hfi;simp only[v6,Prod.mk.injEq] at hl;obtain ⟨rfl,rfl⟩:=hl;obtain ⟨q,q1,q2⟩:=oB hk h2 k5 hfi;rcases q2 with ⟨e,_⟩ | ⟨j,e,e1,e2,rfl⟩
  ·cases e
  simp only[zz5,v6] at e1;subst e1;have hes:es[i]?=some e:=by rw[←zx0];exact e2
  have hlen:i<es.size:=(zy1.1 hes).1;have em:(es.eraseIdxIfInBounds i).toList=es.toList.eraseIdx i:=by
   simp[Array.eraseIdxIfInBounds,hlen]
  refine step (es.eraseIdxIfInBounds i) ?_ ⟨fun x hx =>?_,?_⟩ ?_ ?_
  ·simp[Builtin.delete_,run_underlying hu,MapKept.run_getObj_map k3,hchk,q1,MapKept.run_setObj_map _ k3];rfl
  ·rw[em] at hx;exact k4.1 x (List.mem_of_mem_eraseIdx hx)
  ·rw[em,sN];exact k4.2.sublist (List.eraseIdx_sublist _ _)
  ·rw[em,sN];exact xc i k5
  ·rw[em,sN];exact xc i k6
 ·rename_i hfi;simp only[v6,Prod.mk.injEq] at hl;obtain ⟨rfl,rfl⟩:=hl;obtain ⟨q,q1,q2⟩:=oB hk h2 k5 hfi;rcases q2 with ⟨_,rfl⟩ | ⟨j,e,e1,_⟩
  case inr=>cases e1
  refine step es ?_ k4 k5 k6;simp[Builtin.delete_,run_underlying hu,MapKept.run_getObj_map k3,hchk,q1,MapKept.run_setObj_map _ k3];rfl
 ·cases hl
theorem Mf{t kt et:TypeId}{y:Operand}{y':ay}{ks vs:List I}{d:Nat}(ho:o.op=.range t y)(hu:c.P.underlying t=some (.map kt et))(hy:aU c.P 0 y=some y')(h:ah A y'=.da ks vs)(hd:o.dst=some d)(hn:d<c.n)(hf:A.o d=none) :
  gp c A o ((A.aQ d (.it ks vs (List.range ks.length) none)).put d (.c8 d)):=by
 intro a w D E hs;have h1:=bn hs hy;rw[h] at h1;obtain ⟨cs,q1,q2⟩:=h1;simp only[af] at q2;obtain ⟨b,es,ck,q3,q4,q5,q6⟩:=q2;have ab:a.eval y=.map (some b):=by simpa[ba,I.isAgg,q3] using q1.symm
 have h2:=hs.WI (.inl hn) hf q4 q5 q6;have h3:=h2.put (x:=.c8 d) (v:=.pointer (some ⟨w.heap.size,0,none⟩)) hn ⟨_,by simp[ba,I.isAgg];rfl,by
  simp only[af,if_true];exact ⟨w.heap.size,rfl,rfl⟩⟩
 refine ⟨w.alloc (.mapIter (some b) ck #[] ck),.inl ⟨.pointer (some ⟨w.heap.size,0,none⟩),?_,D,_,by rw[hd];exact h3⟩⟩;simp only[execOp,ho,ab,Sem.run_bind,run_range_map w t kt et b es ck hu q4.1,Result.andThen_ok,Sem.run_pure]
theorem Cg{es:Array MapEntry}{seen:Array Nat}{i:Nat} : i∈na es seen↔∃ e,es[i]?=some e∧seen.contains e.born=false:=by
 unfold na;simp only[List.mem_filter,List.mem_range];constructor
 ·rintro ⟨h1,h2⟩;rw[zw7 h1] at h2 ⊢;exact ⟨_,rfl,by simpa using h2⟩
 ·rintro ⟨e,h1,h2⟩;exact ⟨(zy1.1 h1).1,by rw[h1];simpa using h2⟩
theorem Zv{es:Array MapEntry}{ck:Nat}(hst:nM es ck){i j:Nat}{e f:MapEntry}(hi:es[i]?=some e)(hj:es[j]?=some f)(h:e.born=f.born):i=j:=by
 have hn:=hst.2;rw[←zx0] at hi hj;have h1:(es.toList.map (·.born))[i]?=some e.born:=by rw[zx3,hi];rfl
 have h2:(es.toList.map (·.born))[j]?=some e.born:=by rw[zx3,hj,h];rfl
 have hil:i<(es.toList.map (·.born)).length:=(zz6.1 h1).1;have hjl:j<(es.toList.map (·.born)).length:=(zz6.1 h2).1;exact (List.getElem?_inj hil hn).1 (h1.trans h2.symm)
theorem Wh{es:Array MapEntry}{seen:Array Nat}{ck i:Nat}{e:MapEntry}(hst:nM es ck)(hi:es[i]?=some e):na es (seen.push e.born)=(na es seen).filter (· != i):=by
 unfold na;rw[List.filter_filter];refine List.filter_congr fun j hj =>?_;have hjl:j<es.size:=by simpa using hj
 rw[zw7 hjl];simp only[Array.contains_push];by_cases hij:j=i
 ·subst hij;rw[zw7 hjl,v6] at hi;simp[hi]
 ·have:(es[j].born==e.born)=false:=by
   simp only[beq_eq_false_iff_ne,ne_eq];exact fun h=>hij (Zv hst (zw7 hjl) hi h)
  have h2:(j != i)=true:=by simpa using hij
  simp[this,h2]
theorem WK{y:Operand}{y':ay}{ks vs:List I}{left:List Nat}{cur:Option Nat}{n:Nat}(ho:o.op=.next y false)(hy:aU c.P 0 y=some y')(h:ah A y'=.c8 n)(hn:A.o n=some (.it ks vs left cur))(hdn:∀ k,o.dst=some k→k<c.n){a:Act}{w:World}{D:aH}{E:aN}(hs:aM c A a w D E) :
  ∃ w' v,(execOp a.eval o).run c.P w=.ok (.value v) w'∧((left=[]∧bE c (A.aP o.dst (.tuple [.bool false])) (a.put o.dst v) w') ∨
   ∃ i k x,i∈left∧ks[i]?=some k∧vs[i]?=some x∧bE c ((A.aQ n (.it ks vs (left.filter (· != i)) (some i))).aP o.dst (.tuple [.bool true,k,x])) (a.put o.dst v) w'):=by
 have h1:=bn hs hy;rw[h] at h1;obtain ⟨cs,q1,q2⟩:=h1;simp only[af] at q2;obtain ⟨r,q3,q4⟩:=q2;have ab:a.eval y=.pointer (some ⟨r,0,none⟩):=by simpa[ba,I.isAgg,q4] using q1.symm
 have hob:=hs.bD n;rw[hn] at hob;obtain ⟨r',b,es,ck,since,seen,last,k1,k2,k3,k4,k5,k6,k7,k8,k9,k9',k10⟩:=hob;rw[k1] at q3;cases q3;rcases run_next_at (P:=c.P) w o.type r b since last seen es ck k3 k4.1 k7 k8.1 with ⟨h0,hrun⟩ | ⟨e,he,w1,hal,hrun⟩
 ·refine ⟨w,.tuple #[.bool false],by simp only[execOp,ho,ab,Sem.run_bind,hrun,Result.andThen_ok,Sem.run_pure],.inl ⟨?_,D,E,hs.aP hdn ?_⟩⟩
  ·rw[k9];refine List.eq_nil_iff_forall_not_mem.2 fun i hi =>?_;obtain ⟨e,h1,h2⟩:=Cg.1 hi;have hm:e∈leftOf es seen:=by
    unfold leftOf;simp only[Array.mem_filter];exact ⟨Array.mem_of_getElem? h1,by simpa using h2⟩
   rw[Array.eq_empty_of_size_eq_zero h0] at hm;simp at hm
  ·simp only[aR,ao];exact ⟨[.bool false],rfl,.bool false,[],[.bool false],rfl,by simp[ba,I.isAgg],by simp[af],rfl⟩
 ·have hmem:e∈es.toList∧seen.contains e.born=false:=by
   unfold leftOf at he;simp only[Array.toList_filter,List.mem_filter] at he;exact ⟨he.1,by simpa using he.2⟩
  obtain ⟨i,hi⟩:=List.getElem?_of_mem hmem.1;have hie:es[i]?=some e:=by rw[←zx0];exact hi
  obtain ⟨k,hk1,hk2⟩:=lN (j:=i) (v:=e.key) k5 (by simp only[zx3,hi,zz7]);obtain ⟨x,hx1,hx2⟩:=lN (j:=i) (v:=e.val) k6 (by simp only[zx3,hi,zz7]);have hsw:aM c A a w1 D E:=by
   rcases hal with rfl | rfl
   ·exact hs
   ·exact hs.grow (w':=w.drew) (D':=D) ⟨rfl,rfl,rfl,zz2 _,fun _ _=>rfl⟩ (fun _ _ h=>h) (fun _ _ h _=>h) (fun b o hd=>hs.cS b o hd)
  have hw1:w1.heap=w.heap:=by rcases hal with rfl | rfl <;>rfl
  have k3':w1.heap[r]?=some (.mapIter (some b) since seen last):=by rw[hw1];exact k3
  have hset:=hsw.xl (x:=.it ks vs (left.filter (· != i)) (some i)) (o':=.mapIter (some b) since (seen.push e.born) ck) k1 rfl rfl k3' rfl (fun q=>by simp) k2
   (fun hl hh hno=>by
    have hm:nc w1 D b es ck:=⟨by rw[hw1];exact k4.1,k4.2.1,k4.2.2⟩
    have hob:=hsw.bD n;rw[hn] at hob;refine ⟨r,b,es,ck,since,seen.push e.born,ck,k1,k2,hh,hm.later hl,ao.later hl _ _ ?_,ao.later hl _ _ ?_,k7,?_,?_,fun j hj =>?_,hno⟩
    ·obtain ⟨iB,b2,es2,ck2,si2,se2,la2,g1,g2,g3,g4,g5,g6,_⟩:=hob;rw[k1] at g1;cases g1;rw[k3'] at g3;cases g3;have:=g4.1;rw[hw1,k4.1] at this;cases this;exact g5
    ·obtain ⟨iB,b2,es2,ck2,si2,se2,la2,g1,g2,g3,g4,g5,g6,_⟩:=hob;rw[k1] at g1;cases g1;rw[k3'] at g3;cases g3;have:=g4.1;rw[hw1,k4.1] at this;cases this;exact g6
    ·exact ⟨k8.2,k8.2⟩
    ·rw[k9,Wh k4.2.2 hie]
    ·cases hj;exact ⟨e,hie,by simp,rfl⟩)
  have hset':aM c (A.aQ n (.it ks vs (left.filter (· != i)) (some i))) a (ChangeMaps.setBlock w1 r (.mapIter (some b) since (seen.push e.born) ck)) D E:=hset;refine ⟨_,.tuple #[.bool true,e.key,e.val],by simp only[execOp,ho,ab,Sem.run_bind,hrun,Result.andThen_ok,Sem.run_pure],.inr ⟨i,k,x,?_,hk1,hx1,D,E,hset'.aP hdn ?_⟩⟩
  ·rw[k9];exact Cg.2 ⟨e,hie,hmem.2⟩
  ·have hob2:=hset'.bD n;simp only[ae.aQ,if_true] at hob2;obtain ⟨iB,b2,es2,ck2,si2,se2,la2,g1,g2,g3,g4,g5,g6,_⟩:=hob2;rw[k1] at g1;cases g1;have hr2:(ChangeMaps.setBlock w1 r (.mapIter (some b) since (seen.push e.born) ck)).heap[r]?=some (.mapIter (some b) since (seen.push e.born) ck):=World.putObj_heap_same (w:=w1) (eR k3');rw[hr2] at g3;cases g3;have hb2:(ChangeMaps.setBlock w1 r (.mapIter (some b) since (seen.push e.born) ck)).heap[b]?=some (.map es ck):=by
    have:b≠r:=fun e=>by rw[e] at k4;rw[k4.1] at k3;cases k3
    refine (World.putObj_heap_other (w:=w1) this).trans ?_;rw[hw1];exact k4.1
   have:=g4.1;rw[hb2] at this;cases this;obtain ⟨kk,a1,a2⟩:=lN (j:=i) (v:=e.key) g5 (by simp only[zx3,hi,zz7]);rw[hk1] at a1;cases a1;obtain ⟨xx,b1,b2⟩:=lN (j:=i) (v:=e.val) g6 (by simp only[zx3,hi,zz7]);rw[hx1] at b1;cases b1;obtain ⟨c1,c2,c3⟩:=nS (ph k5 hk1) a2;obtain ⟨d1,d2,d3⟩:=nS (ph k6 hx1) b2;simp only[aR,ao];exact ⟨[.bool true,e.key,e.val],rfl,.bool true,_,[.bool true],rfl,by simp[ba,I.isAgg],by simp[af],e.key,_,c1,rfl,c2,c3,e.val,[],d1,rfl,d2,d3,rfl⟩
theorem UZ{y:Operand}{y':ay}{ks vs:List I}{left:List Nat}{i n:Nat}{k x:I}(ho:o.op=.entry y)(hy:aU c.P 0 y=some y')(h:ah A y'=.c8 n)(hn:A.o n=some (.it ks vs left (some i)))(hk:ks[i]?=some k)(hx:vs[i]?=some x):cM c A o (.tuple [k,x]) :=
 .same fun a w D E hs=>by
  have h1:=bn hs hy;rw[h] at h1;obtain ⟨cs,q1,q2⟩:=h1;simp only[af] at q2;obtain ⟨r,q3,q4⟩:=q2;have ab:a.eval y=.pointer (some ⟨r,0,none⟩):=by simpa[ba,I.isAgg,q4] using q1.symm
  have hob:=hs.bD n;rw[hn] at hob;obtain ⟨r',b,es,ck,since,seen,last,k1,k2,k3,k4,k5,k6,k7,k8,k9,k9',k10⟩:=hob;rw[k1] at q3;cases q3;obtain ⟨e,e1,e2,rfl⟩:=k9' i rfl;have hi:es.toList[i]?=some e:=by rw[zx0];exact e1
  obtain ⟨kk,a1,a2⟩:=lN (j:=i) (v:=e.key) k5 (by simp only[zx3,hi,zz7]);rw[hk] at a1;cases a1;obtain ⟨xx,b1,b2⟩:=lN (j:=i) (v:=e.val) k6 (by simp only[zx3,hi,zz7]);rw[hx] at b1;cases b1;obtain ⟨c1,c2,c3⟩:=nS (ph k5 hk) a2;obtain ⟨d1,d2,d3⟩:=nS (ph k6 hx) b2;have hf:es.find? (·.born==e.born)=some e:=by rw[←Array.find?_toList];exact find_born e es.toList k4.2.2.2 (List.mem_of_getElem? hi)
  refine ⟨.tuple #[e.key,e.val],?_,?_⟩
  ·have hr:(Instr.entry (.pointer (some ⟨r,0,none⟩))).run c.P w=.ok (.tuple #[e.key,e.val]) w:=by
    simp only[Instr.entry,getObj,Sem.run_bind,Sem.run,k3,k4.1,Result.andThen,e2,bne_self_eq_false,zz3,if_false,hf];rfl
   simp only[execOp,ho,ab,Sem.run_bind,hr,Result.andThen_ok,Sem.run_pure]
  ·simp only[aR,ao];exact ⟨[e.key,e.val],rfl,e.key,_,c1,rfl,c2,c3,e.val,[],d1,rfl,d2,d3,rfl⟩
theorem Es{w:World}{D:aH}{E:aN}{z:I}{v:Value}(h:af w D E z [v]):∀ n:Nat,aA w D E (List.replicate n z) (List.replicate n v)
 |0=>by simp[aA]
 |n+1=>by simp only[List.replicate_succ,aA];exact ⟨[v],_,rfl,h,Es h n⟩
theorem Me{t e:TypeId}{l l':Operand}{n':ay}{z:I}{n d:Nat}{k:IntKind}(ho:o.op=.makeSlice t l l')(hll:l'=l)(hu:c.P.underlying t=some (.slice e))(hl:aU c.P 0 l=some n')(h:ah A n'=.int k n)(hz:fm c.P e=some z)(hz1:z.size=1)
  (hc1:c.P.cellsOf e=1) (hby:n*c.P.bytesOf e≤281474976710656) (hmax:n≤maxLen) (hd:o.dst=some d) (hn:d<c.n) (hf:A.o d=none):gp c A o ((A.aQ d (.box (.agg (List.replicate n z)))).put d (.view d [] 1 0 n)):=by
 subst hll;intro a w D E hs;have h1:=bn hs hl;rw[h] at h1;obtain ⟨e1,_⟩:=dB h1;obtain ⟨i,zv,hi,hzz,hzr⟩:=kj hz;have hzc:=af.length _ _ (hzr w D E);rw[hz1] at hzc;obtain ⟨u,hu1⟩:∃ u,zv.cells = #[u]:=by
  have:zv.cells.size=1:=by simpa using hzc
  obtain ⟨u,hu⟩:=Array.size_eq_one_iff.1 this;exact ⟨u,hu⟩
 have hsz:i.size=1:=by have:=hc1;simp only[Program.cellsOf,hi,zz7,Option.getD_some] at this;exact this
 have hbytes:(i.bytes:Int)*(n:Int)≤281474976710656:=by
  have:c.P.bytesOf e=i.bytes:=by simp[Program.bytesOf,hi]
  rw[this] at hby;have h2:((i.bytes*n:Nat):Int)≤281474976710656:=by rw[Nat.mul_comm] at hby;omega
  rwa [Int.natCast_mul] at h2
 have hrun:=run_make (P:=c.P) w t e i zv hu hi hzz k k n n (by omega) (Int.le_refl _) hbytes (by have h9:=hmax;unfold maxLen at h9;omega);simp only[Int.toNat_natCast,hsz,Nat.mul_one] at hrun;have hmc:(madeCells zv.cells n).toList=List.replicate n u:=by
  rw[hu1];simp only[madeCells];apply List.ext_getElem?;intro j;simp[List.getElem?_replicate];split <;>simp_all[Nat.mod_one]
 have hcells:af w D E (.agg (List.replicate n z)) (madeCells zv.cells n).toList:=by
  rw[hmc];simp only[af];refine Es ?_ n;have:=hzr w D E;rw[hu1] at this;simpa using this
 have h2:=hs.qx (T:=e) (.inl hn) hf hcells;have h3:=h2.put (x:=.view d [] 1 0 n) (v:=.slice (some ⟨w.heap.size,0,none⟩) n n) hn ⟨_,by simp[ba,I.isAgg];rfl,by
  simp only[af,if_true];refine ⟨w.heap.size,_,0,I.cJ (List.replicate n z),rfl,by simp[bP.off],by simp[I.aL,bP.part],by simp[I.cL],by simpa[I.cL] using hmax,by simp[I.cL],fun s hs =>?_⟩;rw[I.cL] at hs;obtain ⟨y,hy,rfl⟩:=zx4.1 hs;rw[I.iH,(List.mem_replicate.1 hy).2,hz1]⟩
 refine ⟨_,.inl ⟨_,?_,D,_,by rw[hd];exact h3⟩⟩;simp only[execOp,ho,e1,Sem.run_bind,hrun,Result.andThen_ok,Sem.run_pure]
end
section
variable {c:ct} {A:ae} {o:Oper} {x:I}
theorem sR{w:World}{D:aH}{E:aN}{s:ByteArray}(h:s.size≤maxLen):aR w D E (.ak s) (.string s):=⟨[.string s],by simp[ba,I.isAgg],by simp only[af,true_and];exact h⟩
theorem Vq{t:TypeId}{y z:Operand}{y' z':ay}(ho:o.op=.index t y z)(hu:c.P.underlying t=some .string)(hy:aU c.P 0 y=some y')(hz:aU c.P 0 z=some z')(h:eF .ea [ah A y',ah A z']=some x):cM c A o x :=
 .same fun a w D E hs=>by
  have h1:=bn hs hy;have h2:=bn hs hz;generalize ah A y'=u at *;generalize ah A z'=v at *;unfold eF at h;split at h <;>try (rename_i e _;cases e;done)
  all_goals try (rename_i e1 e2;cases e1;done)
  all_goals try (cases h;done)
  rename_i s k i _ e;simp only[zy7,and_true] at e;obtain ⟨rfl,rfl⟩:=e;split at h
  case isFalse=>cases h
  rename_i hi;simp only[t7] at h;obtain ⟨b,hb,rfl⟩:=h;obtain ⟨e1,hs1⟩:=gn h1;obtain ⟨e2,iB⟩:=dB h2;obtain ⟨hlt,hbe⟩:=zz6.1 hb;have hlt':i.toNat<s.size:=by simpa using hlt
  have hget:s[i.toNat]?=some b:=by
   rw[getElem?_pos s i.toNat hlt']
   congr 1
  refine ⟨.int .u8 b.toNat,?_,iy ⟨?_,?_⟩⟩
  ·simp only[execOp,ho,e1,e2];simp[Instr.index,run_underlying hu,asIntOf,hi,hget]
  ·simp[IntKind.min,IntKind.signed]
  ·have:=b.toNat_lt;simp[IntKind.max,IntKind.bits,IntKind.signed];omega
theorem wM{P:Program}{w:World}{lo hi:Bool}{xs:List I}(h:eF (.ss lo hi) xs=some x) :
  ∃ s:ByteArray,xs.head?=some (.ak s)∧∀ (t:TypeId),P.underlying t=some .string→∃ l r:Nat,l≤r∧r≤s.size∧x=.ak (s.extract l r) ∧
   ((lo=true∧hi=true∧∃ k k',xs=[.ak s,.int k l,.int k' r]∧(Instr.sliceAt t (.string s) (some (.int k l)) (some (.int k' r)) none).run P w=.ok (.string (s.extract l r)) w) ∨
    (lo=true∧hi=false∧∃ k,xs=[.ak s,.int k l]∧(Instr.sliceAt t (.string s) (some (.int k l)) none none).run P w=.ok (.string (s.extract l r)) w) ∨
    (lo=false∧hi=true∧∃ k,xs=[.ak s,.int k r]∧(Instr.sliceAt t (.string s) none (some (.int k r)) none).run P w=.ok (.string (s.extract l r)) w)):=by
 unfold eF at h;split at h <;>(try (rename_i e _;cases e;done)) <;>(try (cases h;done)) <;>(try (rename_i e;cases e))
 ·rename_i s k i;split at h
  case isFalse=>cases h
  rename_i hi;simp only[v6] at h;subst h;obtain ⟨n,rfl⟩:=zz9 hi.1;refine ⟨s,rfl,fun t hu=>⟨0,n,zv0 _,by omega,rfl,.inr (.inr ⟨rfl,rfl,k,rfl,?_⟩)⟩⟩;have:n≤s.size:=by omega
  simp[Instr.sliceAt,Instr.slice,run_underlying hu,Instr.sliceBounds,Instr.sliceBound,asIntOf,this]
 ·rename_i s k i;split at h
  case isFalse=>cases h
  rename_i hi;simp only[v6] at h;subst h;obtain ⟨n,rfl⟩:=zz9 hi.1;refine ⟨s,rfl,fun t hu=>⟨n,s.size,by omega,zz2 _,rfl,.inr (.inl ⟨rfl,rfl,k,rfl,?_⟩)⟩⟩;have:n≤s.size:=by omega
  simp[Instr.sliceAt,Instr.slice,run_underlying hu,Instr.sliceBounds,Instr.sliceBound,asIntOf,this]
 ·rename_i s k i k' j;split at h
  case isFalse=>cases h
  rename_i hi;simp only[v6] at h;subst h;obtain ⟨n,rfl⟩:=zz9 hi.1;obtain ⟨m,rfl⟩:=zz9 (Int.le_trans hi.1 hi.2.1);refine ⟨s,rfl,fun t hu=>⟨n,m,by omega,by omega,rfl,.inl ⟨rfl,rfl,k,k',rfl,?_⟩⟩⟩;have h1:n≤m:=by omega
  have h2:m≤s.size:=by omega
  simp[Instr.sliceAt,Instr.slice,run_underlying hu,Instr.sliceBounds,Instr.sliceBound,asIntOf,h1,h2]
theorem vi{s:ByteArray}{l r:Nat}(h:s.size≤maxLen):(s.extract l r).size≤maxLen:=by
 rw[ByteArray.size_extract];omega
theorem Vt{t:TypeId}{y z:Operand}{y' z':ay}(ho:o.op=.slice t y none (some z) none)(hu:c.P.underlying t=some .string)(hy:aU c.P 0 y=some y')(hz:aU c.P 0 z=some z')(h:eF (.ss false true) [ah A y',ah A z']=some x):cM c A o x :=
 .same fun a w D E hs=>by
  have h1:=bn hs hy;have h2:=bn hs hz;obtain ⟨s,e1,hh⟩:=wM (P:=c.P) (w:=w) h;obtain ⟨l,r,_,_,rfl,hc⟩:=hh t hu;simp only[List.head?_cons,v6] at e1;rcases hc with ⟨hc,_⟩ | ⟨hc,_⟩ | ⟨_,_,k,e,hr⟩
  ·cases hc
  ·cases hc
  simp only[zy7,and_true] at e;rw[e.1] at h1;rw[e.2] at h2;obtain ⟨v1,s1⟩:=gn h1;refine ⟨_,?_,sR (vi s1)⟩;simp only[execOp,ho,zz7,zw0,v1,(dB h2).1,Sem.run_bind,hr];rfl
theorem Vu{t:TypeId}{y z:Operand}{y' z':ay}(ho:o.op=.slice t y (some z) none none)(hu:c.P.underlying t=some .string)(hy:aU c.P 0 y=some y')(hz:aU c.P 0 z=some z')(h:eF (.ss true false) [ah A y',ah A z']=some x):cM c A o x :=
 .same fun a w D E hs=>by
  have h1:=bn hs hy;have h2:=bn hs hz;obtain ⟨s,e1,hh⟩:=wM (P:=c.P) (w:=w) h;obtain ⟨l,r,_,_,rfl,hc⟩:=hh t hu;simp only[List.head?_cons,v6] at e1;rcases hc with ⟨_,hc,_⟩ | ⟨_,_,k,e,hr⟩ | ⟨hc,_⟩
  ·cases hc
  ·simp only[zy7,and_true] at e;rw[e.1] at h1;rw[e.2] at h2;obtain ⟨v1,s1⟩:=gn h1;refine ⟨_,?_,sR (vi s1)⟩;simp only[execOp,ho,zz7,zw0,v1,(dB h2).1,Sem.run_bind,hr];rfl
  ·cases hc
theorem Vs{t:TypeId}{y z q:Operand}{y' z' q':ay}(ho:o.op=.slice t y (some z) (some q) none)(hu:c.P.underlying t=some .string)(hy:aU c.P 0 y=some y')(hz:aU c.P 0 z=some z')(hq:aU c.P 0 q=some q')(h:eF (.ss true true) [ah A y',ah A z',ah A q']=some x):cM c A o x :=
 .same fun a w D E hs=>by
  have h1:=bn hs hy;have h2:=bn hs hz;have h3:=bn hs hq;obtain ⟨s,e1,hh⟩:=wM (P:=c.P) (w:=w) h;obtain ⟨l,r,_,_,rfl,hc⟩:=hh t hu;simp only[List.head?_cons,v6] at e1;rcases hc with ⟨_,_,k,k',e,hr⟩ | ⟨_,hc,_⟩ | ⟨hc,_⟩
  ·simp only[zy7,and_true] at e;rw[e.1] at h1;rw[e.2.1] at h2;rw[e.2.2] at h3;obtain ⟨v1,s1⟩:=gn h1;refine ⟨_,?_,sR (vi s1)⟩;simp only[execOp,ho,zz7,zw0,v1,(dB h2).1,(dB h3).1,Sem.run_bind,hr];rfl
  ·cases hc
  ·cases hc
theorem Vm{neg:Bool}{t yt:TypeId}{y z:Operand}{y':ay}{ms:Array (String×TypeId)}(ho:o.op=.binOp (if neg then .neq else .eql) t y z yt)(hu:c.P.underlying t=some (.interface ms))(hy:aU c.P 0 y=some y')(hz:aU c.P 0 z=some (.c .cU))(h:eF (.nf neg) [ah A y']=some x):cM c A o x :=
 .same fun a w D E hs=>by
  have h1:=bn hs hy;have hz':z=.const .nilIface:=by
   cases z with
   |tmp n=>simp[aU] at hz
   |const v =>
    simp only[aU,t7,ay.c.injEq] at hz;obtain ⟨u,hu,rfl⟩:=hz;unfold rN at hu
    (repeat' split at hu) <;>first | (cases hu;done) | rfl
   |global g=>simp[aU] at hz
   |func f=>simp only[aU] at hz;split at hz <;>simp at hz
  subst hz';have he:∀ d v,(∃ tt u,v=Value.iface tt u)→(Op.equalIn (d+1) t v .nilIface).run c.P w=.ok false w:=fun d v ab=>by
   obtain ⟨tt,u,rfl⟩:=ab;simp[Op.equalIn,run_underlying hu]
  have hk:a.eval (.const .nilIface)=.nilIface:=rfl;have he':∀ d,(Op.equalIn (d+1) t .nilIface .nilIface).run c.P w=.ok true w:=fun d=>by simp[Op.equalIn,run_underlying hu]
  unfold eF at h;split at h <;>(try (rename_i e _;cases e;done)) <;>(try (cases h;done)) <;>(try (rename_i e1 e2;cases e1;done))
  ·rename_i ng e1 e;cases e1;simp only[zy7,and_true] at e;simp only[v6] at h;subst h;rw[e] at h1;obtain ⟨cs,q1,q2⟩:=h1;simp only[af] at q2;have ab:a.eval y=.nilIface:=by simpa[ba,I.isAgg,q2] using q1.symm
   refine ⟨.bool (!neg),?_,kJ _⟩;cases neg <;>simp only[execOp,ho,ab,hk,if_true,zz3,if_false,Sem.run_bind,eqGuard] <;>simp[binOp,Op.equal,Op.maxDepth,he']
  ·rename_i ng tt u e1 e;cases e1;simp only[zy7,and_true] at e;simp only[v6] at h;subst h;rw[e] at h1;obtain ⟨cs,q1,q2⟩:=h1;simp only[af] at q2;obtain ⟨u',cs',q3,q4,q5⟩:=q2;have ab:a.eval y=.iface tt u':=by simpa[ba,I.isAgg,q3] using q1.symm
   refine ⟨.bool neg,?_,kJ _⟩;cases neg <;>simp only[execOp,ho,ab,hk,if_true,zz3,if_false,Sem.run_bind,eqGuard] <;>simp[binOp,Op.equal,Op.maxDepth,he _ _ ⟨tt,u',rfl⟩]
theorem yX{w:World}{D:aH}{E:aN} : ∀ {es:List I} {cs:List Value} {l:List UInt8},mP es=some l→aA w D E es cs→cs=l.map fun b=>Value.int .u8 b.toNat
 | [],cs,l,h,hr=>by
  simp only[mP,v6] at h;subst h;simpa[aA] using hr
 |x::xs,cs,l,h,hr=>by
  simp only[mP] at h;split at h
  case h_2=>cases h
  rename_i n l' hl;simp only[v6] at h;subst h;simp only[aA] at hr;obtain ⟨c1,c2,rfl,h1,h2⟩:=hr;rw[yX hl h2];simp only[af] at h1;obtain ⟨rfl,h3,h4⟩:=h1;simp only[IntKind.min,IntKind.max,IntKind.bits,IntKind.signed] at h3 h4;obtain ⟨m,rfl⟩:=zz9 (show 0≤n by simpa using h3);have:m<256:=by simp at h4;omega
  simp only[zz1,List.singleton_append,zy7,and_true,Value.int.injEq,true_and,Int.toNat_natCast];have e:(UInt8.ofNat m).toNat=m:=by simp;omega
  rw[e]
theorem UT{t t' e:TypeId}{y:Operand}{y':ay}(ho:o.op=.convert t t' y)(hu:c.P.underlying t=some (.slice e))(he:c.P.underlying e=some (.int .u8))(hd:c.P.underlying t'=some .string)(hy:aU c.P 0 y=some y')(h:lj (c7 A 1 (ah A y'))=some x):cM c A o x :=
 .same fun a w D E hs=>by
  unfold lj at h;split at h
  case h_2=>cases h
  rename_i es hes;simp only[t7] at h;obtain ⟨l,hl,rfl⟩:=h;obtain ⟨ad,cp,news,ab,h1,h2,h3,h4,h5⟩:=hs.lV (bn hs hy) hes;have hc:=yX hl h3;have hlen:es.length=l.length:=by
   have:=aA.length _ _ h3;rw[hc,I.gF _ h4] at this;simpa using this.symm
  refine ⟨.string ⟨l.toArray⟩,?_,sR ?_⟩
  ·simp only[execOp,ho,ab];rcases Nat.eq_zero_or_pos es.length with h0 | h0
   ·obtain rfl:l=[]:=zw1 (by omega);rw[h0];cases ad with
    |none =>
     simp only[Sem.run_bind,run_convert_bytes_nil w t e hu he 0 cp t' hd];rfl
    |some ad =>
     simp only[Sem.run_bind,run_convert_bytes_string w t t' e (some ad) 0 cp hu he hd,run_bytesToString w ad 0 cp [] (by simp[loadCells,loadCellsFrom])];rfl
   ·obtain ⟨b,off,rfl,h6⟩:=h5 (by intro e0;rw[e0] at h0;cases h0);rw[hlen];have key:=run_convert_bytes_arg (P:=c.P) w t e hu he b off l.length cp (l.map fun b=>(b.toNat:Int)) (by simp) (fun i hi=>by
     refine h6 i _ ?_;rw[hc];simp[zy0 hi,List.getD]) t' hd
    simp only[Sem.run_bind,key];have:strOfNums (l.map fun b=>(b.toNat:Int))=⟨l.toArray⟩:=by
     unfold strOfNums
     congr 1
     simp[Function.comp_def]
    rw[this];rfl
  ·show l.toArray.size≤maxLen
   simp;omega
theorem Vj{x':I}{y z:Operand}{y' z':ay}{tys:Array TypeId}(ho:o.op=.call { callee:=.builtin .min,args := #[y,z],argTypes:=tys })(hy:aU c.P 0 y=some y')(hz:aU c.P 0 z=some z')(h:eF .min2 [ah A y',ah A z']=some x'):cM c A o x' :=
 .same fun a w D E hs=>by
  have h1:=bn hs hy;have h2:=bn hs hz;generalize ah A y'=u at *;generalize ah A z'=v at *;unfold eF at h;split at h <;>(try (rename_i e _;cases e;done)) <;>(try (cases h;done)) <;>(try (rename_i e1 e2;cases e1;done))
  rename_i k n k2 m _ e;simp only[zy7,and_true] at e;obtain ⟨rfl,rfl⟩:=e;split at h
  case isFalse=>cases h
  rename_i hk;subst hk;simp only[v6] at h;subst h;obtain ⟨v1,r1⟩:=dB h1;obtain ⟨v2,iB⟩:=dB h2;refine ⟨.int k (if m<n then m else n),by simp[execOp,ho,resolve,invoke,builtin,Builtin.min_,Builtin.min2,v1,v2],iy ?_⟩;split
  ·exact iB
  ·exact r1
theorem Vh{t:TypeId}{y:Operand}{y':ay}(ho:o.op=.makeInterface t y)(hu:An (c.P.underlying t)=true)(hy:aU c.P t y=some y')(h:eF (.mi t) [ah A y']=some x):cM c A o x :=
 .same fun a w D E hs=>by
  have h1:=bn hs hy;simp only[eF] at h;split at h
  case isFalse=>cases h
  rename_i hc;simp only[v6] at h;subst h;have hr:(Instr.makeInterface t (a.eval y)).run c.P w=.ok (.iface t (a.eval y)) w:=by
   cases hd:c.P.underlying t with
   |none=>rw[hd] at hu;cases hu
   |some d =>
    rw[hd] at hu;have hr:=run_underlying (w:=w) hd;cases d <;>first | (cases hu;done) | simp[Instr.makeInterface,hr]
  obtain ⟨cs,q1,q2⟩:∃ cs,ba (ah A y') (a.eval y) cs∧af w D E (ah A y') cs:=by
   generalize ah A y'=z at *;cases z <;>simp only[I.cC,zz3,and_false] at hc <;>simpa only[aR] using h1
  refine ⟨.iface t (a.eval y),?_,[.iface t (a.eval y)],by simp[ba,I.isAgg],?_⟩
  ·simp only[execOp,ho,Sem.run_bind];rw[hr];rfl
  ·simp only[af];exact ⟨_,cs,rfl,q1,q2⟩
theorem HR(w:World)(e:TypeId)(s:ByteArray):Lib.bytesWorld w e s=w.drew.alloc (.cells (Lib.bytesCells w e s) e ((Lib.bytesCells w e s).size,(Lib.bytesCells w e s).size+1)):=by
 generalize hc:Lib.bytesCells w e s=cs;have hh:(Lib.bytesWorld w e s).heap=(w.drew.alloc (.cells cs e (cs.size,cs.size+1))).heap:=by
  apply Array.ext_getElem?;intro k;rcases Nat.lt_trichotomy k w.heap.size with h | h | h
  ·exact (Lib.bytesWorld_at_old w e s k h).trans (Below.heap_alloc w.drew (.cells cs e (cs.size,cs.size+1)) k h).symm
  ·subst h;rw[Lib.bytesWorld_at_new,hc];exact (heap_alloc_new w.drew _).symm
  ·rw[Array.getElem?_eq_none (by rw[Lib.bytesWorld_size];omega),Array.getElem?_eq_none (by rw[World.size_alloc];show w.heap.size+1≤k;omega)]
 have hf:∀ (u:World) (p:Addr) (n:Nat),(u.freeze p n).tape=u.tape∧(u.freeze p n).drawn=u.drawn∧(u.freeze p n).os=u.os∧(u.freeze p n).output=u.output:=fun u p n=>by
  unfold World.freeze;split <;>exact ⟨rfl,rfl,rfl,rfl⟩
 obtain ⟨f1,f2,f3,f4⟩:=hf (w.drew.alloc (.cells (Lib.bytesCells w e s) e)) ⟨w.heap.size,(Lib.bytesCells w e s).size,none⟩ 1;have h1:(Lib.bytesWorld w e s).tape=(w.drew.alloc (.cells cs e (cs.size,cs.size+1))).tape:=f1;have h2:(Lib.bytesWorld w e s).drawn=(w.drew.alloc (.cells cs e (cs.size,cs.size+1))).drawn:=f2;have h3:(Lib.bytesWorld w e s).os=(w.drew.alloc (.cells cs e (cs.size,cs.size+1))).os:=f3;have h4:(Lib.bytesWorld w e s).output=(w.drew.alloc (.cells cs e (cs.size,cs.size+1))).output:=f4;revert hh h1 h2 h3 h4;generalize Lib.bytesWorld w e s=a;generalize w.drew.alloc (.cells cs e (cs.size,cs.size+1))=b;obtain ⟨_,_,_,_,_⟩:=a;obtain ⟨_,_,_,_,_⟩:=b;rintro rfl rfl rfl rfl rfl;rfl
theorem Y3{t t' e:TypeId}{y:Operand}{y':ay}{ys:List I}{d:Nat}(ho:o.op=.convert t t' y)(hu:c.P.underlying t=some .string)(ht':c.P.underlying t'=some (.slice e))(he:c.P.underlying e=some (.int .u8))(hy:aU c.P 0 y=some y')(h:lO (ah A y')=some ys)
  (hd:o.dst=some d) (hdn:d<c.n) (hf:A.o d=none) {a:Act} {w:World} {D:aH} {E:aN} (hsim:aM c A a w D E) :
  ∃ v w' m,(execOp a.eval o).run c.P w=.ok (.value v) w'∧ys.length+m≤maxLen∧bE c ((A.aQ d (.box (.agg (ys++List.replicate m (.int .u8 0))))).aP o.dst (.view d [] 1 0 ys.length)) (a.put o.dst v) w':=by
 have h1:=bn hsim hy;unfold lO at h;split at h
 case h_2=>cases h
 rename_i s hs';simp only[v6] at h;rw[hs'] at h1;obtain ⟨ab,hsz⟩:=gn h1;have hge:=grownCap_ge w s.size 0 e;have hle:=grownCap_le_maxLen w s.size 0 e hsz;have hyl:ys.length=s.size:=by rw[←h];simp
 obtain ⟨m,hm⟩:∃ m,m=grownCap w s.size 0 e-s.size:=⟨_,rfl⟩
 have hcl:(Lib.bytesCells w e s).toList=(s.data.toList.map fun b=>Value.int .u8 (b.toNat:Int))++List.replicate m (.int .u8 0):=by
  rw[hm];simp[Lib.bytesCells]
 have hin:∀ b:UInt8,af w.drew D E (.int .u8 (b.toNat:Int)) [.int .u8 (b.toNat:Int)]:=fun b=>by
  have:=b.toNat_lt;simp only[af,true_and];simp[IntKind.min,IntKind.max,IntKind.bits,IntKind.signed];omega
 have hr1:aA w.drew D E ys (s.data.toList.map fun b=>Value.int .u8 (b.toNat:Int)):=by
  rw[←h];generalize s.data.toList=l
  induction l with
  |nil=>simp[aA]
  |cons b l ih =>
   simp only[zz1,aA];exact ⟨[.int .u8 b.toNat],_,rfl,hin b,ih⟩
 have hr2:∀ k:Nat,aA w.drew D E (List.replicate k (.int .u8 0)) (List.replicate k (.int .u8 0)):=fun k=>by
  induction k with
  |zero=>simp[aA]
  |succ k ih =>
   simp only[List.replicate_succ,aA];exact ⟨[.int .u8 0],_,rfl,hin 0,ih⟩
 have hrc:af w.drew D E (.agg (ys++List.replicate m (.int .u8 0))) (Lib.bytesCells w e s).toList:=by
  rw[hcl];simp only[af];exact jl _ _ _ _ hr1 (hr2 m)
 have hsim':aM c A a w.drew D E:=hsim.grow ⟨rfl,rfl,rfl,zz2 _,fun _ _=>rfl⟩ (fun _ _ h=>h) (fun _ _ h _=>h) (fun b o h=>hsim.cS b o h);have h2:aM c (A.aQ d (.box (.agg (ys++List.replicate m (.int .u8 0))))) a (w.drew.alloc (.cells (Lib.bytesCells w e s) e ((Lib.bytesCells w e s).size,(Lib.bytesCells w e s).size+1))) D _ :=
  hsim'.qy (e:=.aE w.drew.heap.size (I.agg (ys++List.replicate m (.int .u8 0))).aL) (.inl hdn) hf rfl fun hl hno=>⟨w.drew.heap.size,_,e,by simp,.inl hsim'.dn.size,⟨_,heap_alloc_new w.drew _,.inr ⟨rfl,by
   simp only[I.aL,bP.flat,I.cL,zx8,zx4];rintro s' ⟨y,hy,rfl⟩;rcases zy2.1 hy with hy | hy
   ·rw[←h] at hy;obtain ⟨b,_,rfl⟩:=zx4.1 hy;rfl
   ·rw[List.eq_of_mem_replicate hy];rfl⟩⟩,af.later hl _ _ hrc,hno⟩
 have hlen:(ys++List.replicate m (I.int .u8 0)).length=ys.length+m:=by simp
 have hall:∀ y∈ys++List.replicate m (I.int .u8 0),y.size=1:=by
  intro y hy;rcases zy2.1 hy with hy | hy
  ·rw[←h] at hy;obtain ⟨b,_,rfl⟩:=zx4.1 hy;rfl
  ·rw[List.eq_of_mem_replicate hy];rfl
 have h3:=h2.put (d:=d) (x:=.view d [] 1 0 ys.length) (v:=.slice (some ⟨w.heap.size,0,none⟩) s.size (grownCap w s.size 0 e)) hdn ⟨_,by simp[ba,I.isAgg];rfl,by
  simp only[af,if_true];refine ⟨w.heap.size,(I.agg (ys++List.replicate m (.int .u8 0))).aL,0,I.cJ (ys++List.replicate m (.int .u8 0)),rfl,by cases (I.agg (ys++List.replicate m (.int .u8 0))).aL <;>simp[bP.off],by simp only[I.aL,bP.part],?_,?_,?_,?_⟩
  ·rw[I.cL,Z9,hlen,hm];simp;omega
  ·rw[I.cL,Z9,hlen];omega
  ·rw[I.cL,Z9,hlen];omega
  ·rw[I.cL];intro s hs;obtain ⟨f,hf,rfl⟩:=zx4.1 hs;rw[I.iH];exact hall f hf⟩
 refine ⟨.slice (some ⟨w.heap.size,0,none⟩) s.size (grownCap w s.size 0 e),Lib.bytesWorld w e s,m,?_,by omega,?_⟩
 ·simp only[execOp,ho,ab,Sem.run_bind,Lib.run_convert_string_bytes w t t' e s hu ht' he];rfl
 ·rw[hd,HR];exact ⟨D,_,h3⟩
end
end Go.Abs
namespace Go.Abs
open Go Go.RowKit
mutual
/-- Values that lead to no memory. -/
def I.flat:I→Bool
 | .agg fs | .tuple fs=>I.oC fs
 | .bool _ | .int _ _ | .ak _ | .nilp | .di | .cU | .any | .raw _ | .undef | .dc=>true
 |_=>false
def I.oC:List I→Bool
 | []=>true
 |x::xs=>x.flat&&I.oC xs
end
mutual
theorem af.flat{w w':World}{D D':aH}{E E':aN} : ∀ (x:I) (cs:List Value),x.flat=true→af w D E x cs→af w' D' E' x cs
 | .agg fs,cs,hf,hr=>by simp only[af,I.flat] at *;exact aA.flat fs cs hf hr
 | .bool b,cs,_,hr=>by simpa only[af] using hr
 | .int k n,cs,_,hr=>by simpa only[af] using hr
 | .ak s,cs,_,hr=>by simpa only[af] using hr
 | .nilp,cs,_,hr=>by simpa only[af] using hr
 | .di,cs,_,hr=>by simpa only[af] using hr
 | .cU,cs,_,hr | .any,cs,_,hr=>by simpa only[af] using hr
 | .raw _,cs,_,hr=>by simpa only[af] using hr
 | .undef,_,_,hr=>by simp only[af] at hr
 | .dc,_,_,hr=>by simp only[af] at hr
 | .tuple _,_,_,hr=>by simp only[af] at hr
 | .nils _,_,hf,_ | .c0 _,_,hf,_ | .slice _ _,_,hf,_ | .ref _,_,hf,_ | .func _ _,_,hf,_ | .iface _ _,_,hf,_ | .ptr _ _,_,hf,_ | .own _ _,_,hf,_ | .view _ _ _ _ _,_,hf,_ | .mref _,_,hf,_ | .c8 _,_,hf,_ | .da _ _,_,hf,_=>by simp[I.flat] at hf
theorem aA.flat{w w':World}{D D':aH}{E E':aN} : ∀ (xs:List I) (cs:List Value),I.oC xs=true→aA w D E xs cs→aA w' D' E' xs cs
 | [],cs,_,hr=>by simpa only[aA] using hr
 |x::xs,cs,hf,hr=>by
  simp only[aA,I.oC,Z7] at *;obtain ⟨c1,c2,h1,h2,h3⟩:=hr;exact ⟨c1,c2,h1,af.flat x c1 hf.1 h2,aA.flat xs c2 hf.2 h3⟩
end
theorem ao.flat{w w':World}{D D':aH}{E E':aN} : ∀ (xs:List I) (vs:List Value),I.oC xs=true→ao w D E xs vs→ao w' D' E' xs vs
 | [],vs,_,hr=>by simpa only[ao] using hr
 |x::xs,vs,hf,hr=>by
  simp only[ao,I.oC,Z7] at *;obtain ⟨v,rest,cs,h1,h2,h3,h4⟩:=hr;exact ⟨v,rest,cs,h1,h2,af.flat x cs hf.1 h3,ao.flat xs rest hf.2 h4⟩
theorem aR.flat{w w':World}{D D':aH}{E E':aN}{x:I}{v:Value}(hf:x.flat=true)(hr:aR w D E x v):aR w' D' E' x v:=by
 cases x <;>simp only[aR] at * <;>first
  |exact hr
  |(obtain ⟨vs,h1,h2⟩:=hr;exact ⟨vs,h1,ao.flat _ _ (by simpa[I.flat] using hf) h2⟩)
  |(obtain ⟨cs,h1,h2⟩:=hr;exact ⟨cs,h1,af.flat _ _ hf h2⟩)
def cu:aN:=fun _=>none
def aS(P:Program)(f:FuncId)(args:List I)(r:I):Prop :=
 dZ P f=true∧∀ (w:World) (D:aH) (vs:List Value),eJ P w (fun _=>False)→(∀ b o,D b o→b<w.heap.size)→ao w D cu args vs →
  Calls P f vs.toArray w fun e w'=>∃ v D',e=.returned v∧aR w' D' cu r v∧Below w.heap.size w w'∧(∀ b o,D' b o→b<w'.heap.size)∧∀ b o,D' b o→b<w.heap.size→D b o
def eW(P:Program)(f:FuncId)(args:List I)(os:List (Nat×aj))(post:b9):Prop :=
 dZ P f=true∧mJ (Calls P f) (fun w _ E=>eJ P w (bU E)) args os post
def bI(p:Nat→Bool):List (Nat×aj)→Prop
 | []=>True
 |(_,v)::r=>v.only p=true∧bI p r
def cZ(ns:List Nat)(os:List (Nat×aj)):List (Nat×aj):=os.filter fun q => !ns.contains q.1
def gb(ns:List Nat)(ts:List (Nat×I)):List (Nat×I):=ts.map fun q=>(q.1,if q.2.only (fun n => !ns.contains n) then q.2 else .dc)
def jA(ns:List Nat)(os:List (Nat×aj)):List (Nat×aj):=os.filter fun q=>ns.contains q.1
def iT(ρ:List (Nat×Nat))(os:List (Nat×aj)):List Nat:=os.map fun q=>bo ρ q.1
def gr(aE:Bool)(A0:ae)(ρ:List (Nat×Nat))(os:List (Nat×aj)):List I→List I→Prop
 | [],[]=>True
 |x::xs,c::cs=>((x=c.aT (bo ρ)∧c.only (aC os)=true∧c.cC=true)∨bf aE A0 x=some c)∧gr aE A0 ρ os xs cs
 |_,_=>False
structure au where
 dst:Option Nat
 op:bt
 guard:Option (Nat×Bool)
 deriving Inhabited
inductive bZ where
 |done (A:ae)
 |fail
 |call (f:FuncId) (avs:List I) (a1 a2:Option (List I)) (dst:Option Nat) (rest:List au) (A:ae)
 |lu (v:Value) (avs:List I) (dst:Option Nat) (rest:List au) (A:ae)
 |gW (f:FuncId) (avs:List I) (dst:Option Nat) (rest:List au) (A:ae)
 |any (p:Nat→Prop) (k:Nat→bZ)
def cq(x:Option I)(k:I→bZ):bZ:=match x with
 |some v=>k v
 |none=>.fail
def wC(s:Option Nat)(v old:I):Prop:=v.cC=true∧bN s v=true∧v.aL=old.aL
def wz(e esz bytes l sz:Nat)(ys:List I)(T sz':Nat)(es:List I):Prop:=l=es.length∧sz=esz∧T=e∧sz'=esz∧ys≠[]∧es.length+ys.length≤maxLen∧(es.length+ys.length)*bytes≤140737488355328
def qh(ys:List I):List Int:=ys.filterMap fun y=>match y with | .int .i64 i=>some i | _=>none
def wA(e esz bytes l:Nat)(ys:List I)(T:Nat)(xs:List Int)(z:I):Prop:=l=xs.length∧esz=1∧T=e∧z=.int .i64 0∧ys=(qh ys).map (.int .i64)∧ys≠[]∧xs.length+ys.length≤maxLen∧(xs.length+ys.length)*bytes≤140737488355328
def jm:I→Bool
 | .slice _ es=>es.isEmpty
 | .c0 _=>true
 |_=>false
def kE(f:Nat):Nat:=if f<1000000 then f else f-1000000
def hE(f:Nat)(args caps:List I):List I:=if f<1000000 then args++caps else caps++args
theorem vk{f:Nat}(h:f<1000000):kE f=f:=by simp only[kE,if_pos h]
theorem vj{f:Nat}(h:f<1000000)(args caps:List I):hE f args caps=args++caps:=by simp only[hE,if_pos h]
theorem AY(g:Nat):kE (g+1000000)=g:=by simp only[kE,if_neg (show ¬ g+1000000<1000000 by omega),Nat.add_sub_cancel]
theorem AX(g:Nat)(args caps:List I):hE (g+1000000) args caps=caps++args:=by simp only[hE,if_neg (show ¬ g+1000000<1000000 by omega)]
open Classical in
noncomputable def fb(A:ae)(dst:Option Nat)(esz bytes:Nat)(z:I)(es ys:List I)(k:ae→bZ):bZ :=
 match dst with
 |some d=>match A.o d with
  |none=>if (es.length+ys.length)*bytes≤140737488355328∧es.length+ys.length≤maxLen then
    .any (fun m=>es.length+ys.length+m≤maxLen) (fun m=>k ((A.aQ d (.box (.agg (es++(ys++List.replicate m z))))).aP dst (.view d [] esz 0 (es.length+ys.length)))) else .fail
  |some _=>.fail
 |none=>.fail
open Classical in
noncomputable def ep(A:ae)(dst:Option Nat)(esz bytes:Nat)(z:I)(s:I):Option (List I)→Option (List I)→(ae→bZ)→bZ
 |some es,some ys,k=>if ys=[] then k (A.aP dst s) else match s with
  | .nils _=>fb A dst esz bytes z es ys k
  | .c0 _=>fb A dst esz bytes z es ys k
  | .view n p sz lo l=>match A.o n with
   |some (.box b)=>match b.at p with
    |some (.agg fs)=>if lo+l+ys.length≤fs.length then
      (if sz=esz∧I.cJ ys=I.cJ ((fs.drop (lo+l)).take ys.length) then k ((A.aQ n (.box (iG b p (lo+l) fs ys))).aP dst (.view n p esz lo (l+ys.length))) else .fail)
      else fb A dst esz bytes z es ys k
    |_=>.fail
   |_=>.fail
  |_=>.fail
 |_,_,_=>.fail
open Classical in
noncomputable def pN(A:ae)(dst:Option Nat)(esz bytes:Nat)(z:I)(m:Nat)(s:I):Option (List I)→(ae→bZ)→bZ
 |some es,k=>match s with
  | .view n p _ lo l=>match A.o n with
   |some (.box b)=>match b.at p with
    |some (.agg fs)=>if 0<m∧fs.length<lo+l+m then fb A dst esz bytes z es (List.replicate m z) k else .fail
    |_=>.fail
   |_=>.fail
  |_=>.fail
 |_,_=>.fail
open Classical in
noncomputable def oj(A:ae)(esz:Nat)(z:I)(k:ae→bZ):I→bZ
 | .view n p sz lo l=>match A.o n with
  |some (.box b)=>match b.at p with
   |some (.agg fs)=>if sz=esz∧I.cJ (List.replicate l z)=I.cJ ((fs.drop lo).take l) then k (A.aQ n (.box (iG b p lo fs (List.replicate l z)))) else .fail
   |_=>.fail
  |_=>.fail
 | .nils _=>k A
 | .c0 _=>k A
 |_=>.fail
open Classical in
noncomputable def ku(A:ae)(dst:Option Nat)(esz:Nat)(k:ae→bZ):I→Option (List I)→bZ
 | .view n p sz lo l,some ys=>match A.o n with
  |some (.box b)=>match b.at p with
   |some (.agg fs)=>if sz=esz∧I.cJ (ys.take (min ys.length l))=I.cJ ((fs.drop lo).take (min ys.length l)) then k ((A.aQ n (.box (iG b p lo fs (ys.take (min ys.length l))))).aP dst (.int .i64 (min ys.length l:Nat))) else .fail
   |_=>.fail
  |_=>.fail
 | .c0 _,some _=>k (A.aP dst (.int .i64 0))
 |_,_=>.fail
def iF(A:ae)(dst:Option Nat)(k:ae→bZ):Option (List I)→bZ
 |some ys=>match dst with
  |some d=>match A.o d with
   |none=>.any (fun m=>ys.length+m≤maxLen) fun m=>k ((A.aQ d (.box (.agg (ys++List.replicate m (.int .u8 0))))).aP dst (.view d [] 1 0 ys.length))
   |some _=>.fail
  |none=>.fail
 |none=>.fail
open Classical in
noncomputable def aX(A:ae)(dst:Option Nat)(op:bt)(rest:List au)(k:ae→bZ):bZ :=
 match op with
 | .alloc z=>match dst with
  |some d=>match A.o d with
   |none=>k ((A.aQ d (.box z)).put d (.ptr d []))
   |some _=>.fail
  |none=>.fail
 | .box x=>match dst with
  |some d=>match A.o d with
   |none=>if (ah A x).cC then k ((A.aQ d (.box (ah A x))).put d (.ptr d [])) else .fail
   |some _=>.fail
  |none=>.fail
 | .aV s x v=>match dst with
  |none=>match ah A x with
   | .ptr n p=>match A.o n with
    |some (.box b)=>match b.at p with
     |some old=>if wC s (ah A v) old then k (A.aQ n (.box (b.dI p (ah A v)))) else .fail
     |none=>.fail
    |_=>.fail
   |_=>.fail
  |some _=>.fail
 | .dM e esz bytes z s x=>match ah A s with
  | .own n l=>match ah A x with
   | .slice sz ys=>match A.o n with
    |some (.bF T sz' es)=>if wz e esz bytes l sz ys T sz' es then k ((A.aQ n (.bF e esz (es++ys))).aP dst (.own n (es.length+ys.length))) else .fail
    |some (.dW T xs)=>if wA e esz bytes l ys T xs z then k ((A.aQ n (.dW e (xs++qh ys))).aP dst (.own n (xs.length+ys.length))) else .fail
    |_=>.fail
   |_=>.fail
  |s'=>ep A dst esz bytes z s' (c7 A esz s') (c7 A esz (ah A x)) k
 | .jM _ esz bytes z s n=>match ah A n with
  | .int _ m=>pN A dst esz bytes z m.toNat (ah A s) (c7 A esz (ah A s)) k
  |_=>.fail
 | .nilS neg x=>if jm (ah A x) then .any (fun m=>m<2) (fun m=>k (A.aP dst (.bool (m==0)))) else cq (aY A (.nilS neg x)) fun v=>k (A.aP dst v)
 | .jv esz z x=>match dst with
  |none=>oj A esz z k (ah A x)
  |some _=>.fail
 | .gx esz x y=>ku A dst esz k (ah A x) (kg A esz (ah A y))
 | .eO x=>iF A dst k (lO (ah A x))
 | .call f args=>.call f (args.map (ah A)) (bJ true A (args.map (ah A))) (bJ false A (args.map (ah A))) dst rest A
 | .fq x args=>match ah A x with
  | .func f caps=>.call (kE f) (hE f (args.map (ah A)) caps) (bJ true A (hE f (args.map (ah A)) caps)) (bJ false A (hE f (args.map (ah A)) caps)) dst rest A
  | .raw v=>.lu v (args.map (ah A)) dst rest A
  |_=>.fail
 | .gW f args=>.gW f (args.map (ah A)) dst rest A
 | .kK=>match dst with
  |some d=>match A.o d with
   |none=>k ((A.aQ d (.cn [] [])).put d (.mref d))
   |some _=>.fail
  |none=>.fail
 | .jF e sz=>match dst with
  |some d=>match A.o d with
   |none=>k ((A.aQ d (.bF e sz [])).put d (.own d 0))
   |some _=>.fail
  |none=>.fail
 | .jG _ bytes z n=>match dst with
  |some d=>match A.o d with
   |none=>match ah A n with
    | .int _ n=>if 0≤n∧n.toNat*bytes≤281474976710656∧n.toNat≤maxLen then k ((A.aQ d (.box (.agg (List.replicate n.toNat z)))).put d (.view d [] 1 0 n.toNat)) else .fail
    |_=>.fail
   |some _=>.fail
  |none=>.fail
 | .j4 ty m key v=>match dst with
  |none=>match ah A m with
   | .mref n=>match A.o n with
    |some (.cn ks vs)=>match qw ty (ah A key) (ah A v) ks vs with
     |some (ks',vs')=>k (A.aQ n (.cn ks' vs'))
     |none=>.fail
    |_=>.fail
   |_=>.fail
  |some _=>.fail
 | .lF ty m key=>match dst with
  |none=>match ah A m with
   | .mref n=>match A.o n with
    |some (.cn ks vs)=>match wa ty (ah A key) ks vs with
     |some (ks',vs')=>k (A.aQ n (.cn ks' vs'))
     |none=>.fail
    |_=>.fail
   |_=>.fail
  |some _=>.fail
 | .kd x=>match dst with
  |some d=>match A.o d with
   |none=>match ah A x with
    | .da ks vs=>k ((A.aQ d (.it ks vs (List.range ks.length) none)).put d (.c8 d))
    |_=>.fail
   |some _=>.fail
  |none=>.fail
 | .j5 x=>match ah A x with
  | .c8 n=>match A.o n with
   |some (.it ks vs left cur)=>if left=[] then k (A.aP dst (.tuple [.bool false])) else
     .any (fun i=>i∈left) fun i=>match ks[i]?,vs[i]? with
      |some kk,some x=>k ((A.aQ n (.it ks vs (left.filter (· != i)) (some i))).aP dst (.tuple [.bool true,kk,x]))
      |_,_=>.fail
   |_=>.fail
  |_=>.fail
 |op=>cq (aY A op) fun v=>k (A.aP dst v)
noncomputable def al:List au→ae→bZ
 | [],A=>.done A
 |g::rest,A=>match g.guard with
  |none=>aX A g.dst g.op rest (al rest)
  |some (t,b)=>match A.t t with
   | .bool b'=>if b'=b then aX A g.dst g.op rest (al rest) else al rest (A.aP g.dst .undef)
   | .undef=>al rest (A.aP g.dst .undef)
   |_=>.fail
def yw(P:Program)(A:ae)(f:FuncId)(avs:List I)(r:I):Prop :=
 ∀ (c:ct) (a:Act) (w:World) (D:aH) (E:aN) (vs:List Value),c.P=P→aM c A a w D E→ee (aR w D E) avs vs→∃ v,(callFunc f vs.toArray).run P w=.ok (.value v) w∧aR w D E r v
inductive aZ (P:Program) (Y:Value→List I→List (Nat×aj)→b9→Prop) (dr:Bool) (K:ae→Prop):bZ→Prop where
 |done {A:ae} : K A→aZ P Y dr K (.done A)
 |flat {f:FuncId} {avs cargs:List I} {a2:Option (List I)} {dst:Option Nat} {rest:List au} {A:ae} (r:I):aS P f cargs r→r.flat=true→aZ P Y dr K (al rest (A.aP dst r))→aZ P Y dr K (.call f avs (some cargs) a2 dst rest A)
 |lead {f:FuncId} {avs cargs:List I} {a1:Option (List I)} {dst:Option Nat} {rest:List au} {A:ae} (r:I):aS P f cargs r→aZ P Y dr K (al rest (A.aP dst r))→aZ P Y dr K (.call f avs a1 (some cargs) dst rest A)
 |jV {f:FuncId} {avs cargs:List I} {a1 a2:Option (List I)} {dst:Option Nat} {rest:List au} {ts:List (Nat×I)} {os0:List (Nat×aj)} (ns:List Nat) (r:I):dr=false→aS P f cargs r→bJ true (aw ts (jA ns os0)) avs=some cargs →
   bI (fun n => !ns.contains n) (cZ ns os0)→aZ P Y dr K (al rest ((aw (gb ns ts) (cZ ns os0)).aP dst r))→aZ P Y dr K (.call f avs a1 a2 dst rest (aw ts os0))
 |bD {f:FuncId} {avs:List I} {a1 a2:Option (List I)} {dst:Option Nat} {rest:List au} {ts:List (Nat×I)} {os0:List (Nat×aj)} (aE:Bool) (ρ:List (Nat×Nat)) (os:List (Nat×aj)) (cargs:List I) (post:b9):dr=false→eW P f cargs os post →
   eX ρ os os0→gr aE (aw ts (cZ (iT ρ os) os0)) ρ os avs cargs→(∀ r os',post r os'→dL aE ρ os os0 r os') →
   (∀ r os',post r os'→aZ P Y dr K (al rest ((aw ts (df ρ os'++os0)).aP dst (r.aT (bo ρ)))))→aZ P Y dr K (.call f avs a1 a2 dst rest (aw ts os0))
 |tY {v:Value} {avs:List I} {dst:Option Nat} {rest:List au} {ts:List (Nat×I)} {os0:List (Nat×aj)} (os:List (Nat×aj)) (cargs:List I) (post:b9):dr=false→Y v cargs os post →
   eX [] os os0→gr false (aw ts (cZ (iT [] os) os0)) [] os avs cargs→(∀ r os',post r os'→dL false [] os os0 r os') →
   (∀ r os',post r os'→aZ P Y dr K (al rest ((aw ts (df [] os'++os0)).aP dst (r.aT (bo [])))))→aZ P Y dr K (.lu v avs dst rest (aw ts os0))
 |ext {f:FuncId} {avs:List I} {dst:Option Nat} {rest:List au} {A:ae} (r:I):dr=false→yw P A f avs r→aZ P Y dr K (al rest (A.aP dst r))→aZ P Y dr K (.gW f avs dst rest A)
 |any {p:Nat→Prop} {k:Nat→bZ} : dr=false→(∀ m,p m→aZ P Y dr K (k m))→aZ P Y dr K (.any p k)
def AF(n:Nat):Option Nat→Bool
 |some d=>decide (d<n)
 |none=>true
def lr(P:Program)(n:Nat)(bg:Array Oper)(o:Oper):Option au :=
 match cA P o with
 |none=>none
 |some g=>if AF n o.dst=true then
   match o.guard with
   |none=>some ⟨o.dst,g,none⟩
   |some (j,b)=>match (bg[j]?).bind (·.dst) with
    |some t=>some ⟨o.dst,g,some (t,b)⟩
    |none=>none
  else none
def fE(P:Program)(n:Nat)(bg:Array Oper):List Oper→Option (List au)
 | []=>some []
 |o::l=>match lr P n bg o,fE P n bg l with
  |some g,some gs=>some (g::gs)
  |_,_=>none
end Go.Abs
namespace Go.Abs
open Go Go.RowKit
section
variable {c:ct} {A:ae} {o:Oper} {x:I}
theorem Dd{g:bt}(hg:cA c.P o=some g)(h:aY A g=some x):cM c A o x:=by
 unfold cA at hg;split at hg
 -- move
 ·rename_i y ho;simp only[t7] at hg;obtain ⟨z,hz,rfl⟩:=hg;simp only[aY,v6] at h;subst h;exact BF (.inl ho) hz
 ·rename_i y ho;simp only[t7] at hg;obtain ⟨z,hz,rfl⟩:=hg;simp only[aY,v6] at h;subst h;exact BF (.inr ho) hz
 -- pick
 ·rename_i q y z ho;split at hg
  ·rename_i q' y' z' h1 h2 h3;simp only[v6] at hg;subst hg;simp only[aY] at h;split at h
   ·rename_i t ht;simp only[v6] at h;subst h;exact Vo ho h1 h2 h3 ht
   ·cases h
  ·cases hg
 -- binOp
 ·rename_i op t y z yt ho;split at hg
  ·rename_i k y' z' hu h1 h2;simp only[v6] at hg;subst hg;exact BD ho h1 h2 h
  ·rename_i y' z' hu h1 h2;simp only[v6] at hg;subst hg;exact BD ho h1 h2 h
  ·rename_i e y' z' hu h1 h2;split at hg
   ·rename_i s;split at hg
    ·rename_i hop;simp only[v6] at hg;subst hg;have ho':o.op=.binOp (if (op==.neq)=true then .neq else .eql) t y z yt:=by
      rcases hop with rfl | rfl <;>simpa using ho
     simp only[aY] at h;split at h
     ·rename_i s' hs';simp only[v6] at h;subst h;have:=vG (r:=true) ho' hu h1 h2 (.inl ⟨s',hs',rfl⟩);rw[show (if (op==BinOp.neq)=true then !true else true) = !(op==BinOp.neq) from by cases (op==BinOp.neq) <;>rfl] at this;exact this
     ·rename_i s' es hs';split at h
      ·cases h
      ·rename_i hne;simp only[v6] at h;subst h;have:=vG (r:=false) ho' hu h1 h2 (.inr (.inl ⟨s',es,hs',by simpa using hne,rfl⟩));rw[show (if (op==BinOp.neq)=true then !false else false)=(op==BinOp.neq) from by cases (op==BinOp.neq) <;>rfl] at this;exact this
     ·rename_i n p s' lo k hs';simp only[v6] at h;subst h;have:=vG (r:=false) ho' hu h1 h2 (.inr (.inr ⟨n,p,s',lo,k,hs',rfl⟩));rw[show (if (op==BinOp.neq)=true then !false else false)=(op==BinOp.neq) from by cases (op==BinOp.neq) <;>rfl] at this;exact this
     ·cases h
    ·cases hg
   ·cases hg
  ·rename_i e y' z' hu h1 h2;split at hg
   ·rename_i hop;simp only[v6] at hg;subst hg;have ho':o.op=.binOp (if (op==.neq)=true then .neq else .eql) t y z yt:=by
     rcases hop with rfl | rfl <;>simpa using ho
    simp only[aY] at h;cases hb1:iw (ah A y') with
    |none=>rw[hb1] at h;cases h
    |some b1=>cases hb2:iw (ah A z') with
     |none=>rw[hb1,hb2] at h;cases h
     |some b2 =>
      rw[hb1,hb2] at h;simp only[my] at h;split at h
      ·rename_i hor;simp only[v6] at h;subst h;exact Vp ho' hu h1 h2 hb1 hb2 (by simpa using hor)
      ·cases h
   ·cases hg
  ·rename_i ms y' z' hu h1 h2;split at hg
   ·split at hg
    ·rename_i hop;simp only[v6] at hg;subst hg;have ho':o.op=.binOp (if (op==.neq)=true then .neq else .eql) t y z yt:=by
      rcases hop with rfl | rfl <;>simpa using ho
     exact Vm ho' hu h1 h2 (by simpa only[aY,zz1,zy5] using h)
    ·cases hg
   ·cases hg
  ·rename_i d y' z' _ _ _ _ _ hu h1 h2;split at hg
   ·rename_i hop;simp only[t7] at hg;obtain ⟨ty,hty,rfl⟩:=hg;have ho':o.op=.binOp (if (op==.neq)=true then .neq else .eql) t y z yt:=by
     rcases hop.1 with rfl | rfl <;>simpa using ho
    simp only[aY,t7] at h;obtain ⟨r,hr,rfl⟩:=h;exact U0 ho' h1 h2 hop.2 hty hr
   ·cases hg
  ·cases hg
 -- unOp
 ·rename_i op t y ho;simp only[t7] at hg;obtain ⟨z,hz,rfl⟩:=hg;simp only[aY] at h;split at h
  ·rename_i b hb;simp only[v6] at h;subst h;exact Vn ho hz hb
  ·rename_i k n hb;simp only[v6] at h;subst h;exact Vl ho hz hb
  ·rename_i k n hb;simp only[v6] at h;subst h;exact UY ho hz hb
  ·cases h
 -- nilCheck
 ·rename_i y ho;simp only[t7] at hg;obtain ⟨z,hz,rfl⟩:=hg;simp only[aY] at h;cases hy:ah A z <;>rw[hy] at h <;>simp only[nd,v6] at h <;>try (cases h;done)
  ·subst h;rw[←hy];exact BG ho hz (.inr ⟨_,hy⟩)
  ·subst h;rw[←hy];exact BG ho hz (.inl ⟨_,_,hy⟩)
 -- makeMap
 ·simp only[v6] at hg;subst hg;simp[aY] at h
 -- lookup
 ·rename_i t m k ok ho;split at hg
  ·rename_i kt et m' k' hu h1 h2;split at hg
   ·rename_i ty z hk hz;split at hg
    ·rename_i hp;simp only[v6] at hg;subst hg;simp only[aY] at h;cases hm:gj A (ah A m') with
     |none=>rw[hm] at h;cases h
     |some q =>
      obtain ⟨ks,vs⟩:=q;rw[hm] at h;simp only[qq] at h;cases hl:qu ty z (ah A k') ks vs with
      |none=>rw[hl] at h;cases h
      |some q =>
       obtain ⟨v,b⟩:=q;rw[hl] at h;simp only[qt,v6] at h;subst h;exact Vf ho hu hk hz hp h1 h2 hm hl
    ·cases hg
   ·cases hg
  ·cases hg
 -- mapUpdate,insert
 iterate 2
  ·split at hg
   ·split at hg
    ·simp only[v6] at hg;subst hg;simp[aY] at h
    ·cases hg
   ·cases hg
 -- makeSlice
 ·split at hg
  ·split at hg
   ·split at hg
    ·simp only[v6] at hg;subst hg;simp[aY] at h
    ·split at hg
     ·split at hg
      ·simp only[v6] at hg;subst hg;simp[aY] at h
      ·cases hg
     ·cases hg
   ·cases hg
  ·cases hg
 -- range
 ·split at hg
  ·simp only[t7] at hg;obtain ⟨z,_,rfl⟩:=hg;simp[aY] at h
  ·cases hg
 -- next
 ·simp only[t7] at hg;obtain ⟨z,_,rfl⟩:=hg;simp[aY] at h
 -- entry
 ·rename_i y ho;simp only[t7] at hg;obtain ⟨z,hz,rfl⟩:=hg;simp only[aY] at h;split at h
  ·rename_i n hn;split at h
   ·rename_i ks vs left cur hob;cases cur with
    |none=>cases h
    |some i =>
     simp only[rY] at h;split at h
     ·rename_i kk xx hk hx;simp only[v6] at h;subst h;exact UZ ho hz hn hob hk hx
     ·cases h
   ·cases h
  ·cases h
 -- convert
 ·rename_i lV dst y ho;split at hg
  ·rename_i k0 k y' h1 h2 h3;simp only[v6] at hg;subst hg;simp only[aY] at h;split at h
   ·rename_i k1 n hn;simp only[v6] at h;subst h;exact UX ho h1 h2 h3 hn
   ·cases h
  ·rename_i e y' h1 h2 h3;split at hg
   ·rename_i he;simp only[v6] at hg;subst hg;exact UT ho h1 he h2 h3 (by simpa only[aY] using h)
   ·cases hg
  ·rename_i e y' h1 h2 h3;split at hg
   ·rename_i he;simp only[v6] at hg;subst hg;simp only[aY] at h;cases h
   ·cases hg
  ·cases hg
 -- load
 ·rename_i t y ho;split at hg
  ·rename_i s y' h1 h2;simp only[v6] at hg;subst hg;simp only[aY] at h;split at h
   ·rename_i v ab;split at h
    ·rename_i hok;simp only[v6] at h;subst h;exact Ve ho h1 h2 ab hok
    ·cases h
   ·cases h
  ·cases hg
 -- fieldAddr
 ·rename_i t y f ho;split at hg
  ·rename_i fs y' hu h1;split at hg
   ·rename_i fd hf;split at hg
    ·cases hg
    ·rename_i hz;simp only[v6] at hg;subst hg;simp only[aY] at h;split at h
     ·rename_i gs hgs;split at h
      ·rename_i v ab;split at h
       ·rename_i hoff;simp only[v6] at h;subst h;exact U6 ho hu hf hz h1 hgs ab hoff
       ·cases h
      ·cases h
     ·rename_i n p hp;split at h
      ·rename_i gs hgs;split at h
       ·rename_i hoff;simp only[v6] at h;subst h;exact U5 ho hu hf hz h1 hp hgs hoff.1 hoff.2
       ·cases h
      ·cases h
     ·cases h
   ·cases hg
  ·cases hg
 -- field
 ·rename_i t y f ho;split at hg
  ·rename_i fs y' hu h1;split at hg
   ·rename_i fd hf;simp only[t7] at hg;obtain ⟨s,hs,rfl⟩:=hg;simp only[aY] at h;split at h
    ·rename_i gs hgs;split at h
     ·rename_i v ab;split at h
      ·rename_i hoff;simp only[v6] at h;subst h;exact U7 ho hu hf hs h1 hgs ab hoff.1 hoff.2
      ·cases h
     ·cases h
    ·cases h
   ·cases hg
  ·cases hg
 -- indexAddr
 ·rename_i t y i ho;split at hg
  ·rename_i n e y' i' hu h1 h2;split at hg
   ·rename_i hinfo;obtain ⟨ti,hti⟩:=zy4.1 hinfo;simp only[v6] at hg;subst hg;simp only[aY] at h;split at h
    ·rename_i kk k hk;split at h
     ·rename_i hb;split at h
      ·rename_i gs hgs;split at h
       ·rename_i hev;simp only[t7] at h;obtain ⟨v,ab,rfl⟩:=h;exact U9 ho hu hti h1 h2 hgs hk hb hev ab
       ·cases h
      ·rename_i m p hp;split at h
       ·rename_i gs hgs;split at h
        ·rename_i hev;simp only[v6] at h;subst h;exact U8 ho hu hti h1 h2 hp hk hb hgs hev
        ·cases h
       ·cases h
      ·cases h
     ·cases h
    ·cases h
   ·cases hg
  ·rename_i e y' i' hu h1 h2;split at hg
   ·rename_i hinfo;obtain ⟨ti,hti⟩:=zy4.1 hinfo;simp only[v6] at hg;subst hg;simp only[aY] at h;split at h
    ·rename_i kk k hk;split at h
     ·rename_i sz es hes;split at h
      ·rename_i hb;obtain ⟨rfl,hb⟩:=hb;simp only[t7] at h;obtain ⟨v,ab,rfl⟩:=h;exact Va ho hu hti h1 h2 hes hk hb ab
      ·cases h
     ·rename_i m l hm;split at h
      ·rename_i T sz es hes;split at h
       ·rename_i hb;obtain ⟨rfl,rfl,hb⟩:=hb;simp only[t7] at h;obtain ⟨v,ab,rfl⟩:=h;exact Vb ho hu hti h1 h2 hm hes hk hb ab
       ·cases h
      ·cases h
     ·rename_i m p sz lo l hm;split at h
      ·rename_i fs hfs;split at h
       ·rename_i hb;simp only[v6] at h;subst h;exact Vc ho hu hti h1 h2 hb.1 hm hfs hk hb.2
       ·cases h
      ·cases h
     ·cases h
    ·cases h
   ·cases hg
  ·cases hg
 -- index
 ·rename_i t y i ho;split at hg
  ·rename_i n e y' i' hu h1 h2;simp only[t7] at hg;obtain ⟨s,hs,rfl⟩:=hg;simp only[aY] at h;split at h
   ·rename_i kk k hk;split at h
    ·rename_i hb;split at h
     ·rename_i gs hgs;split at h
      ·rename_i hev;split at h
       ·rename_i v ab;split at h
        ·rename_i hok;simp only[v6] at h;subst h;exact Vd ho hu hs h1 h2 hgs hk hb hev ab hok
        ·cases h
       ·cases h
      ·cases h
     ·cases h
    ·cases h
   ·cases h
  ·rename_i y' i' hu h1 h2;simp only[v6] at hg;subst hg;exact Vq ho hu h1 h2 (by simpa only[aY,zz1,zy5] using h)
  ·cases hg
 -- slice
 ·rename_i t y lo hi mx ho;split at hg
  ·rename_i n e y' hu h1;split at hg
   ·split at hg
    ·rename_i hinfo;obtain ⟨ti,hti⟩:=zy4.1 hinfo;simp only[v6] at hg;subst hg;simp only[aY] at h;split at h
     ·rename_i m p hp;split at h
      ·rename_i gs hgs;split at h
       ·rename_i hev;simp only[v6] at h;subst h;exact Vv ho hu hti h1 hp hgs hev.1 hev.2.1 hev.2.2
       ·cases h
      ·cases h
     ·rename_i gs hgs;split at h
      ·rename_i hev;simp only[v6] at h;subst h;exact Vw ho hu hti h1 hgs hev.1 hev.2.1
      ·cases h
     ·cases h
    ·cases hg
   ·cases hg
  ·rename_i e y' hu h1;split at hg
   ·rename_i lo' hi' mx' q1 q2 q3;split at hg
    ·rename_i hc;obtain ⟨ti,hti⟩:=zy4.1 hc.2;simp only[v6] at hg;subst hg;simp only[aY] at h;split at h
     ·rename_i sz es hes;split at h
      ·rename_i hsz;subst hsz;exact vH ho hu hti h1 q1 q2 q3 hc.1 (.inl hes) h
      ·cases h
     ·rename_i sz hes;split at h
      ·rename_i hsz;subst hsz;exact vH ho hu hti h1 q1 q2 q3 hc.1 (.inr (.inl ⟨hes,rfl⟩)) h
      ·cases h
     ·rename_i sz hes;split at h
      ·rename_i hsz;subst hsz;exact vH ho hu hti h1 q1 q2 q3 hc.1 (.inr (.inr ⟨hes,rfl⟩)) h
      ·cases h
     ·rename_i n p sz l0 k ab;split at h
      ·rename_i fs hfs;split at h
       ·rename_i hsz;exact Vr ho hu hti h1 q1 q2 q3 hc.1 hsz ab hfs h
       ·cases h
      ·cases h
     ·cases h
    ·cases hg
   ·cases hg
  ·rename_i y' hu h1;split at hg
   ·rename_i hi;simp only[t7] at hg;obtain ⟨hi',h2,rfl⟩:=hg;exact Vt ho hu h1 h2 (by simpa only[aY,zz1,zy5] using h)
   ·rename_i lo;simp only[t7] at hg;obtain ⟨lo',h2,rfl⟩:=hg;exact Vu ho hu h1 h2 (by simpa only[aY,zz1,zy5] using h)
   ·split at hg
    ·rename_i lo' hi' h2 h3;simp only[v6] at hg;subst hg;exact Vs ho hu h1 h2 h3 (by simpa only[aY,zz1,zy5] using h)
    ·cases hg
   ·cases hg
  ·cases hg
 -- build
 ·rename_i t parts ho;split at hg
  ·rename_i zs ps hz hp;split at hg
   ·rename_i fs hu;split at hg
    ·rename_i hc;simp only[v6] at hg;subst hg;simp only[aY,t7] at h;obtain ⟨zs',h,rfl⟩:=h;exact BE ho hz hp (.inl ⟨fs,hu,hc.1,hc.2⟩) h
    ·cases hg
   ·rename_i n e hu;split at hg
    ·rename_i hc;simp only[v6] at hg;subst hg;simp only[aY,t7] at h;obtain ⟨zs',h,rfl⟩:=h;exact BE ho hz hp (.inr ⟨n,e,hu,hc.1,hc.2.1,hc.2.2⟩) h
    ·cases hg
   ·cases hg
  ·cases hg
 -- buildSlice
 ·rename_i t len parts ho;split at hg
  ·rename_i e hu;split at hg
   ·rename_i ps hp;split at hg
    ·rename_i h0;obtain ⟨rfl,rfl,h0⟩:=h0;obtain ⟨ti,hti⟩:=zy4.1 h0;simp only[v6] at hg;subst hg;simp only[aY,v6] at h;subst h;exact UW ho hu hti
    split at hg
    ·rename_i hc;obtain ⟨c1,c2,c3,c4,c5⟩:=hc;simp only[v6] at hg;subst hg;simp only[aY] at h;split at h
     ·rename_i es hes;split at h
      ·rename_i hev;simp only[v6] at h;subst h;refine UU ho hu hp c1 c2 c3 c4 c5 hes (fun y hy =>?_) hev.2;have:=zx8.1 hev.1 y hy;simpa using this
      ·cases h
     ·cases h
    ·cases hg
   ·cases hg
  ·cases hg
 -- extract
 ·rename_i y i ho;simp only[t7] at hg;obtain ⟨z,hz,rfl⟩:=hg;simp only[aY] at h;split at h
  ·rename_i fs hfs;exact U4 ho hz hfs h
  ·cases h
 -- makeFunc
 ·rename_i f first caps ho
  split at hg
  case isFalse=>cases hg
  rename_i hlt;split at hg
  ·rename_i hfirst;simp only[t7] at hg;obtain ⟨ys,hys,rfl⟩:=hg;simp only[aY] at h;split at h
   ·rename_i ab;simp only[v6] at h;subst h;have hf:first = #[]:=by simpa using hfirst
    rw[hf] at ho;refine Vg hlt ho hys (fun y hy =>?_);have:=zx8.1 ab (ah A y) (zx4.2 ⟨y,hy,rfl⟩);exact this
   ·cases h
  ·split at hg
   case isFalse=>cases hg
   rename_i hcaps;simp only[t7] at hg;obtain ⟨ys,hys,rfl⟩:=hg;simp only[aY] at h;split at h
   ·rename_i ab;simp only[v6] at h;subst h;have hf:caps = #[]:=by simpa using hcaps
    rw[hf] at ho;refine Vi ho hys (fun y hy =>?_);have:=zx8.1 ab (ah A y) (zx4.2 ⟨y,hy,rfl⟩);exact this
   ·cases h
 -- alloc
 ·simp only[t7] at hg;obtain ⟨z,_,rfl⟩:=hg;simp[aY] at h
 -- box
 ·simp only[t7] at hg;obtain ⟨z,_,rfl⟩:=hg;simp[aY] at h
 -- store
 ·split at hg
  ·split at hg
   ·simp only[v6] at hg;subst hg;simp[aY] at h
   ·cases hg
  ·cases hg
 -- call
 ·split at hg
  ·simp only[t7] at hg;obtain ⟨z,_,rfl⟩:=hg;simp[aY] at h
  ·simp only[t7] at hg;obtain ⟨z,_,rfl⟩:=hg;simp[aY] at h
 ·split at hg
  ·simp only[v6] at hg;subst hg;simp[aY] at h
  ·cases hg
 -- len
 ·rename_i args tys ho;split at hg
  ·rename_i y ty hargs htys;have ho':o.op=.call { callee:=.builtin .len,args := #[y],argTypes := #[ty] } :=by
    rw[ho];have e1:args = #[y]:=by apply Array.ext';simpa using hargs
    have e2:tys = #[ty]:=by apply Array.ext';simpa using htys
    rw[e1,e2]
   split at hg
   ·rename_i e hu;simp only[t7] at hg;obtain ⟨y',hy,rfl⟩:=hg;simp only[aY] at h;split at h
    ·rename_i sz es hes;simp only[v6] at h;subst h;refine oE ho' hu (.inl ⟨e,rfl⟩) hy (fun a w D E hs v ab =>?_);rw[hes] at ab;obtain ⟨ad,cap,e1,e2,e3,_⟩:=kU ab;exact ⟨Nat.le_trans e2 e3,fun _=>⟨ad,cap,e1⟩,fun e=>by cases e⟩
    ·rename_i sz hes;simp only[v6] at h;subst h;refine oE (n:=0) ho' hu (.inl ⟨e,rfl⟩) hy (fun a w D E hs v ab =>?_);rw[hes] at ab;obtain ⟨cs,q1,q2⟩:=ab;simp only[af] at q2;exact ⟨by simp[maxLen],fun _=>⟨none,0,by simpa[ba,I.isAgg,q2] using q1.symm⟩,fun e=>by cases e⟩
    ·rename_i sz hes;simp only[v6] at h;subst h;refine oE (n:=0) ho' hu (.inl ⟨e,rfl⟩) hy (fun a w D E hs v ab =>?_);rw[hes] at ab;obtain ⟨cs,q1,q2⟩:=ab;simp only[af] at q2;obtain ⟨ad,q2⟩:=q2;exact ⟨by simp[maxLen],fun _=>⟨ad,0,by simpa[ba,I.isAgg,q2] using q1.symm⟩,fun e=>by cases e⟩
    ·rename_i m l hm;split at h
     ·rename_i T sz es hes;split at h
      ·rename_i hl;subst hl;simp only[v6] at h;subst h;refine oE ho' hu (.inl ⟨e,rfl⟩) hy (fun a w D E hs v ab =>?_);rw[hm] at ab;rcases hs.own hes ab with ⟨rfl,_,rfl⟩ | ⟨b,cap,cs,pre,rest,_,rfl,_,_,_,_,_,k8,k9,_⟩
       ·exact ⟨by simp[maxLen],fun _=>⟨none,0,rfl⟩,fun e=>by cases e⟩
       ·exact ⟨Nat.le_trans k8 k9,fun _=>⟨_,_,rfl⟩,fun e=>by cases e⟩
      ·cases h
     ·cases h
    ·rename_i n p sz lo k hm;simp only[v6] at h;subst h;refine oE ho' hu (.inl ⟨e,rfl⟩) hy (fun a w D E hs v ab =>?_);rw[hm] at ab;obtain ⟨cs,q1,q2⟩:=ab;simp only[af] at q2;obtain ⟨b,aL,off,l,_,_,_,q2,q3,q4,_⟩:=q2;exact ⟨by omega,fun _=>⟨_,_,by simpa[ba,I.isAgg,q2] using q1.symm⟩,fun e=>by cases e⟩
    ·cases h
   ·rename_i hu;simp only[t7] at hg;obtain ⟨y',hy,rfl⟩:=hg;simp only[aY] at h;split at h
    ·rename_i s hs';simp only[v6] at h;subst h;refine oE ho' hu (.inr rfl) hy (fun a w D E hs v ab =>?_);rw[hs'] at ab;obtain ⟨e1,e2⟩:=gn ab;exact ⟨e2,(fun e=>by obtain ⟨_,e⟩:=e;cases e),fun _=>⟨s,e1,rfl⟩⟩
    ·cases h
   ·cases hg
  ·cases hg
 -- append
 ·split at hg
  ·split at hg
   ·split at hg
    ·simp only[t7] at hg;obtain ⟨z,_,rfl⟩:=hg;simp[aY] at h
    ·split at hg
     ·simp only[t7] at hg;obtain ⟨z,_,rfl⟩:=hg;simp[aY] at h
     ·cases hg
   ·cases hg
  ·cases hg
 -- cap
 ·rename_i args tys ho;split at hg
  ·rename_i y ty hargs htys;have ho':o.op=.call { callee:=.builtin .cap,args := #[y],argTypes := #[ty] } :=by
    rw[ho];have e1:args = #[y]:=by apply Array.ext';simpa using hargs
    have e2:tys = #[ty]:=by apply Array.ext';simpa using htys
    rw[e1,e2]
   split at hg
   ·rename_i e hu;simp only[t7] at hg;obtain ⟨y',hy,rfl⟩:=hg;simp only[aY] at h;split at h
    ·rename_i sz hes;simp only[v6] at h;subst h;refine vF ho' hu hy (fun a w D E hs v ab =>?_);rw[hes] at ab;obtain ⟨cs,q1,q2⟩:=ab;simp only[af] at q2;exact ⟨by simp[maxLen],_,_,by simpa[ba,I.isAgg,q2] using q1.symm⟩
    ·rename_i sz hes;simp only[v6] at h;subst h;refine vF ho' hu hy (fun a w D E hs v ab =>?_);rw[hes] at ab;obtain ⟨cs,q1,q2⟩:=ab;simp only[af] at q2;obtain ⟨ad,q2⟩:=q2;exact ⟨by simp[maxLen],_,_,by simpa[ba,I.isAgg,q2] using q1.symm⟩
    ·rename_i n p sz lo k hm;split at h
     ·rename_i fs hfs;simp only[v6] at h;subst h;refine vF ho' hu hy (fun a w D E hs v ab =>?_);rw[hm] at ab;obtain ⟨_,b,cs,T,off,c1,c2,c3,_,_,_,_,_,_,_,_,_,_,_,q1,q2⟩:=hs.view ab hfs;exact ⟨by omega,_,_,q2⟩
     ·cases h
    ·cases h
   ·cases hg
  ·cases hg
 -- clear
 ·split at hg
  ·split at hg
   ·simp only[t7] at hg;obtain ⟨z,_,rfl⟩:=hg;simp[aY] at h
   ·cases hg
  ·cases hg
 -- copy
 ·split at hg
  ·split at hg
   ·split at hg
    ·simp only[v6] at hg;subst hg;simp[aY] at h
    ·cases hg
   ·cases hg
  ·cases hg
 -- delete
 ·split at hg
  ·split at hg
   ·simp only[t7] at hg;obtain ⟨z,_,rfl⟩:=hg;simp[aY] at h
   ·cases hg
  ·cases hg
 -- max
 ·rename_i args _ ho;split at hg
  ·rename_i x y hargs;split at hg
   ·rename_i x' y' h1 h2;simp only[v6] at hg;subst hg;simp only[aY] at h;have e1:args = #[x,y]:=by apply Array.ext';simpa using hargs
    rw[e1] at ho;exact Vk ho h1 h2 h
   ·cases hg
  ·cases hg
 -- min
 ·rename_i args tys ho;split at hg
  ·rename_i x y hargs;split at hg
   ·rename_i x' y' h1 h2;simp only[v6] at hg;subst hg;have e1:args = #[x,y]:=by apply Array.ext';simpa using hargs
    rw[e1] at ho;exact Vj ho h1 h2 (by simpa only[aY,zz1,zy5] using h)
   ·cases hg
  ·cases hg
 -- makeInterface
 ·rename_i t y ho;split at hg
  ·rename_i hu;simp only[t7] at hg;obtain ⟨y',h1,rfl⟩:=hg;exact Vh ho hu h1 (by simpa only[aY,zz1,zy5] using h)
  ·cases hg
 -- panic
 ·simp only[t7] at hg;obtain ⟨y',_,rfl⟩:=hg;simp[aY,eF] at h
 ·cases hg
theorem ee.append{α β:Type}{R:α→β→Prop} : ∀ {xs:List α} {ys:List β} {xs':List α} {ys':List β},ee R xs ys→ee R xs' ys'→ee R (xs++xs') (ys++ys')
 |_,_,_,_,.nil,h=>h
 |_,_,_,_,.cons h1 h2,h=>.cons h1 (h2.append h)
theorem pf{w:World}{D:aH}{E:aN} : ∀ {xs:List I} {vs:List Value},ao w D E xs vs→ee (aR w D E) xs vs
 | [],vs,h=>by simp only[ao] at h;subst h;exact .nil
 |x::xs,vs,h=>by
  simp only[ao] at h;obtain ⟨v,rest,cs,rfl,h1,h2,h3⟩:=h;exact .cons (fG h1 h2) (pf h3)
theorem I5 {P : Program} {f : FuncId} (h : dZ P f = true) : ∃ fn, P.funcs[f]? = some fn ∧ ¬ fn.name = "runtime.NumGoroutine" ∧ ¬ fn.body = none := by
 unfold dZ at h;rw[Z7] at h
 replace h:=h.2
 cases hf:P.funcs[f]? with
 |none=>simp[hf] at h
 |some fn =>
  simp only[hf,Option.any_some,Z7,bne_iff_ne,ne_eq] at h;refine ⟨fn,rfl,by simpa using h.1,?_⟩;cases hb:fn.body <;>simp_all
theorem Ac{P:Program}{f:FuncId}(h:dZ P f=true):f<1000000:=by
 unfold dZ at h;rw[Z7] at h;simpa[Nat.blt_eq] using h.1
theorem mA{P:Program}{w:World}{f:FuncId}{args:Array Value}(h:dZ P f=true):(callFunc f args).run P w=.ok (.enter f args) w:=by
 obtain ⟨fn,h1,h2,h3⟩:=I5 h;simp[callFunc,h1,h2,h3]
theorem aM.jE{A:ae}{a:Act}{w:World}{D:aH}{E:aN}(h:aM c A a w D E){n:Nat}{e:bw}{b:Nat}(he:E n=some e)(hb:e.aB=some b):c.eA b:=by
 have:=h.bD n;unfold c6 at this;split at this
 ·simp[this] at he
 ·obtain ⟨b',cs,T,h1,h2,_⟩:=this;rw[h1,v6] at he;subst he;simp only[bw.aB,v6] at hb;exact hb▸h2
 ·obtain ⟨aB,h1,h2,h3⟩:=this;rw[h1,v6] at he;subst he;split at h3
  ·cases hb
  ·obtain ⟨cs,pre,rest,h4,_⟩:=h3;simp only[bw.aB,v6] at hb;exact hb▸h4
 ·obtain ⟨b',h1,h2,_⟩:=this;rw[h1,v6] at he;subst he;simp only[bw.aB,v6] at hb;exact hb▸h2
 ·obtain ⟨b',es,ck,h1,h2,_⟩:=this;rw[h1,v6] at he;subst he;simp only[bw.aB,v6] at hb;exact hb▸h2
 ·obtain ⟨b',bb,es,ck,ea,se,la,h1,h2,_⟩:=this;rw[h1,v6] at he;subst he;simp only[bw.aB,v6] at hb;exact hb▸h2
 ·obtain ⟨aB,h1,h2,h3⟩:=this;rw[h1,v6] at he;subst he;split at h3
  ·cases hb
  ·obtain ⟨cs,m,h4,_⟩:=h3;simp only[bw.aB,v6] at hb;exact hb▸h4
theorem aM.qo{A:ae}{a:Act}{w:World}{D:aH}{E:aN}(h:aM c A a w D E):eJ c.P w (bU E) :=
 h.eV.1.B3 h.dn (fun _ hb=>hb) fun _ ⟨_,_,h1,h2⟩=>h.jE h1 h2
theorem aM.vR{A:ae}{a:Act}{w:World}{D:aH}{E:aN}(h:aM c A a w D E):eJ c.P w (fun _=>False):=h.qo.sD fun _ h=>h.elim
theorem aM.oL{A:ae}{a:Act}{w:World}{D:aH}{E:aN}(h:aM c A a w D E){ρ:List (Nat×Nat)}{os:List (Nat×aj)} : eJ c.P w (bU (aq ρ os E)):=h.qo.sD fun b ⟨n,e,h1,h2⟩=>by
 simp only[aq] at h1;split at h1
 ·exact ⟨_,e,h1,h2⟩
 ·cases h1
theorem aS.ZJ{f:FuncId}{avs cargs:List I}{r:I}{vs:List Value}{a:Act}{w:World}{D:aH}{E:aN}(hs:aM c A a w D E)(h:aS c.P f cargs r)(hf:r.flat=true)(hc:bJ true A avs=some cargs)(ab:ee (aR w D E) avs vs) :
  Calls c.P f vs.toArray w fun e w'=>∃ v D',e=.returned v∧aM c A a w' D' E∧aR w' D' E r v:=by
 have hw:gY true A D E (fun b _=>b<w.heap.size):=by
  refine ⟨fun b o hd=>hs.cS b o hd,fun n T sz es b cap hn aq o _=>hs.fp aq rfl,fun _ n x b aL hn aq o _=>hs.fp aq rfl,fun _ n ks vs b hn aq=>hs.fp aq rfl⟩
 have hrv:=lA (E':=cu) hs (fun _ _ h=>h) hw avs cargs vs (kV _ _ ab (qa hc)) hc;refine (h.2 w _ vs hs.vR (fun _ _ hd=>hd) hrv).mono fun e w' ⟨v,D',he,h1,h2,h3,h4⟩=>⟨v,D,he,?_,aR.flat hf h1⟩
 exact hs.grow h2 (fun _ _ hd=>hd) (fun _ _ hd _=>hd) (fun b o hd=>zw9 (hs.cS b o hd) h2.size)
theorem aS.ZL{f:FuncId}{avs cargs:List I}{r:I}{vs:List Value}{a:Act}{w:World}{D:aH}{E:aN}(hs:aM c A a w D E)(h:aS c.P f cargs r)(hc:bJ false A avs=some cargs)(ab:ee (aR w D E) avs vs) :
  Calls c.P f vs.toArray w fun e w'=>∃ v D',e=.returned v∧aM c A a w' D' E∧aR w' D' E r v:=by
 obtain ⟨hs1,hw⟩:=hs.nH;have hrv:=lA (E':=cu) hs (fun _ _ h=>h) hw avs cargs vs (kV _ _ ab (qa hc)) hc;refine (h.2 w _ vs hs.vR hs1.cS hrv).mono fun e w' ⟨v,D',he,h1,h2,h3,h4⟩=>⟨v,fun b o=>nE A D E b o∨(w.heap.size≤b∧D' b o),he,?_,?_⟩
 ·refine hs1.grow h2 (fun _ _ hd=>.inl hd) ?_ ?_
  ·rintro b o (hd | ⟨hle,_⟩) hlt
   ·exact hd
   ·omega
  ·rintro b o (hd | ⟨_,hd⟩)
   ·exact zw9 (hs1.cS b o hd) h2.size
   ·exact h3 b o hd
 ·refine aR.later (E:=cu) ⟨fun b o hd =>?_,fun _ _ _ _ h=>h,fun n b aL hn=>by simp[cu] at hn,fun n aB l hn=>by simp[cu] at hn,fun n b hn=>by simp[cu] at hn,fun n b hn=>by simp[cu] at hn,fun _ _ _ _ h=>h⟩ h1;rcases Nat.lt_or_ge b w.heap.size with hlt | hge
  ·exact .inl (h4 b o hd hlt)
  ·exact .inr ⟨hge,hd⟩
theorem Cl(p:Nat→Bool)(os:List (Nat×aj))(n:Nat):aD (os.filter fun q=>p q.1) n=if p n then aD os n else none:=by
 induction os with
 |nil=>simp[aD]
 |cons q os ih =>
  obtain ⟨k,v⟩:=q;simp only[List.filter_cons];by_cases hk:p k=true
  ·simp only[hk,if_true,aD,ih];by_cases hn:n=k
   ·subst hn;simp only[hk,if_true]
   ·simp only[if_neg hn]
  ·simp only[hk,zz3,if_false,ih,aD];by_cases hn:n=k
   ·subst hn;simp[hk]
   ·simp only[if_neg hn]
theorem sI(ns:List Nat)(os:List (Nat×aj))(n:Nat):aD (cZ ns os) n=if ns.contains n then none else aD os n:=by
 rw[cZ,Cl (fun n => !ns.contains n)];cases ns.contains n <;>rfl
theorem oP(ns:List Nat)(os:List (Nat×aj))(n:Nat):aD (jA ns os) n=if ns.contains n then aD os n else none:=Cl _ _ _
theorem CT{p:Nat→Bool} : ∀ {os:List (Nat×aj)},bI p os→∀ k x,aD os k=some x→x.only p=true
 | [],_,k,x,hx=>by simp[aD] at hx
 |(j,v)::r,h,k,x,hx=>by
  simp only[bI] at h;simp only[aD] at hx;split at hx
  ·simp only[v6] at hx;subst hx;exact h.1
  ·exact CT h.2 k x hx
theorem Cm(ns:List Nat):∀ (ts:List (Nat×I)) (t:Nat),cj (gb ns ts) t=if (cj ts t).only (fun n => !ns.contains n) then cj ts t else .dc
 | [],t=>by simp[gb,cj,I.only]
 |(k,v)::r,t=>by
  simp only[gb,zz1,cj];by_cases h:t=k
  ·simp only[if_pos h]
  ·simp only[if_neg h];exact Cm ns r t
theorem aM.freeze{a:Act}{w:World}{D:aH}{E:aN}{ts:List (Nat×I)}{os0:List (Nat×aj)}(h:aM c (aw ts os0) a w D E)(ns:List Nat)(ho:bI (fun n => !ns.contains n) (cZ ns os0)) :
  ∃ D' E',aM c (aw (gb ns ts) (cZ ns os0)) a w D' E'∧gY true (aw ts (jA ns os0)) D E D':=by
 have h1:=h.nH.1;have hw1:=h.nH.2;obtain ⟨D1,hD1⟩:∃ D1,D1=nE (aw ts os0) D E:=⟨_,rfl⟩
 rw[←hD1] at h1 hw1;obtain ⟨D2,hD2⟩:∃ D2:aH,D2=fun b o=>D1 b o∨(∃ n x aL,ns.contains n=true∧aD os0 n=some (.box x)∧E n=some (.aE b aL)∧o<x.size)∨∃ n ks vs,ns.contains n=true∧aD os0 n=some (.cn ks vs)∧E n=some (.cn b)∧o=0:=⟨_,rfl⟩
 obtain ⟨E2,hE2⟩:∃ E2:aN,E2=fun n=>if ns.contains n then none else E n:=⟨_,rfl⟩
 have e2:∀ n,(!ns.contains n)=true→E2 n=E n:=fun n hn=>by rw[hE2];simp at hn;simp[hn]
 have hl:dy w D1 E2 w D2 E2:=⟨fun b o hd=>by rw[hD2];exact .inl hd,fun _ _ _ _ h=>h,fun _ _ _ h=>h,fun _ aB l h=>⟨aB,l,h,zz2 _,fun _=>rfl⟩,fun _ _ h=>h,fun _ _ h=>h,fun _ _ _ _ h=>h⟩
 have oR:∀ b o,D2 b o→D1 b o∨∃ n e q,ns.contains n=true∧E n=some e∧e.aB=some b∧c.eA b∧w.heap[b]?=some q:=fun b o hd=>by
  rw[hD2] at hd;rcases hd with hd | ⟨n,x,aL,k1,k2,k3,k4⟩ | ⟨n,ks,vs,k1,k2,k3,_⟩
  ·exact .inl hd
  ·obtain ⟨b',cs,T,q1,q2,q3,_⟩:=h.box (n:=n) (x:=x) (by simpa[aw] using k2);rw[k3] at q1;simp only[v6,bw.aE.injEq] at q1;obtain ⟨rfl,rfl⟩:=q1;obtain ⟨_,q3,_⟩:=q3.bD;exact .inr ⟨n,_,_,k1,k3,rfl,q2,q3⟩
  ·obtain ⟨b',es,ck,q1,q2,q3,_⟩:=h.map (n:=n) (ks:=ks) (vs:=vs) (by simpa[aw] using k2);rw[k3] at q1;cases q1;exact .inr ⟨n,_,_,k1,k3,rfl,q2,q3⟩
 refine ⟨D2,E2,⟨h1.sz,h1.er,fun t =>?_,h1.dn,fun b o hd hm =>?_,fun b o hd =>?_,fun n =>?_,fun n m e e' b g1 g2 g3 g4 =>?_,fun n e hn =>?_,h1.eN,fun b o hd=>hl.cO b o (h1.cE b o hd),h1.eV,h1.fy⟩,?_⟩
 ·simp only[aw,Cm];have ht:=h1.dK t;simp only[aw] at ht;split
  ·rename_i hp;exact aR.later hl (aR.dO e2 hp ht)
  ·simp[aR]
 ·rcases oR b o hd with hd | ⟨n,e,q,_,_,_,k,_⟩
  ·exact h1.cO b o hd hm
  ·exact absurd k hm
 ·rcases oR b o hd with hd | ⟨n,e,q,_,_,_,_,k⟩
  ·exact h1.cS b o hd
  ·exact eR k
 ·simp only[aw,sI];by_cases hn:ns.contains n=true
  ·simp only[hn,if_true,c6];rw[hE2];simp only[hn,if_true]
  ·have hnb:(!ns.contains n)=true:=by simpa using hn
   simp only[hn,zz3,if_false];have hob:=h1.bD n;simp only[aw] at hob;cases hx:aD os0 n with
   |none=>rw[hx] at hob;simp only[c6] at hob ⊢;rw[e2 n hnb];exact hob
   |some x =>
    have hon:=CT ho n x (by rw[sI,if_neg hn];exact hx);have nD:∀ e b,E n=some e→e.aB=some b→∀ o,D2 b o→D1 b o:=fun e b he hb o hd=>by
     rcases oR b o hd with hd | ⟨m,e',q,k1,k3,k2,_⟩
     ·exact hd
     ·have:=h.cD n m e _ b he k3 hb k2;subst this;exact absurd k1 hn
    rw[hx] at hob;cases x with
    |box x =>
     obtain ⟨b,cs,T,k1,k2,k3,k4,k5⟩:=hob;exact ⟨b,cs,T,(e2 n hnb).trans k1,k2,k3,af.later hl _ _ (af.dO e2 _ _ (by simpa[aj.only] using hon) k4),fun o hd=>k5 o (nD _ b k1 rfl o hd)⟩
    |bF T sz es =>
     obtain ⟨aB,k1,k2,k3⟩:=hob;refine ⟨aB,(e2 n hnb).trans k1,k2,?_⟩;cases aB with
     |none=>exact k3
     |some bc =>
      obtain ⟨b,cap⟩:=bc;obtain ⟨cs,pre,rest,q1,q2,q3,q4,q5,q6,q7,q8⟩:=k3;exact ⟨cs,pre,rest,q1,q2,q3,aA.later hl _ _ (aA.dO e2 _ _ (by simpa[aj.only] using hon) q4),q5,q6,q7,fun o hd=>q8 o (nD _ b k1 rfl o hd)⟩
    |dW T xs =>
     obtain ⟨aB,k1,k2,k3⟩:=hob;refine ⟨aB,(e2 n hnb).trans k1,k2,?_⟩;cases aB with
     |none=>exact k3
     |some bc =>
      obtain ⟨b,cap⟩:=bc;obtain ⟨cs,r,q1,q2,q3,q4,q5,q6,q7⟩:=k3;exact ⟨cs,r,q1,q2,q3,q4,q5,q6,fun o hd=>q7 o (nD _ b k1 rfl o hd)⟩
    |dm x =>
     obtain ⟨b,k1,k2,k3,k4,k5⟩:=hob;exact ⟨b,(e2 n hnb).trans k1,k2,k3,k4,fun o hd=>k5 o (nD _ b k1 rfl o hd)⟩
    |cn ks vs =>
     obtain ⟨b,es,ck,k1,k2,k3,k4,k5,k6,k7⟩:=hob;simp only[aj.only,Z7] at hon;exact ⟨b,es,ck,(e2 n hnb).trans k1,k2,k3,k4,ao.later hl _ _ (ao.dO e2 _ _ hon.1 k5),ao.later hl _ _ (ao.dO e2 _ _ hon.2 k6),fun o hd=>k7 o (nD _ b k1 rfl o hd)⟩
    |it ks vs left cur =>
     obtain ⟨r,b,es,ck,ea,se,la,k1,k2,k3,k4,k5,k6,k7,k8,k9,k9',k10⟩:=hob;simp only[aj.only,Z7] at hon;exact ⟨r,b,es,ck,ea,se,la,(e2 n hnb).trans k1,k2,k3,k4.later hl,ao.later hl _ _ (ao.dO e2 _ _ hon.1 k5),ao.later hl _ _ (ao.dO e2 _ _ hon.2 k6),k7,k8,k9,k9',fun o hd=>k10 o (nD _ r k1 rfl o hd)⟩
 ·have kv:∀ n e,E2 n=some e→E n=some e:=fun n e he=>by
   rw[hE2] at he;simp only at he;split at he
   ·cases he
   ·exact he
  exact h.cD n m e e' b (kv n e g1) (kv m e' g2) g3 g4
 ·by_cases hm:ns.contains n=true
  ·left;rw[hE2];simp only[hm,if_true]
  ·rw[e2 n (by simpa using hm)];exact h.dG n e hn
 ·refine ⟨fun b o hd=>by rw[hD2];exact .inl (hw1.cO b o hd),fun n T sz es b cap hn aq o hlt =>?_,fun _ n x b aL hn aq o hlt =>?_,fun _ n ks vs b hn aq =>?_⟩
  ·simp only[aw,oP] at hn;split at hn
   ·rw[hD2];exact .inl (hw1.bF n T sz es b cap hn aq o hlt)
   ·cases hn
  ·simp only[aw,oP] at hn;split at hn
   ·rename_i hk;rw[hD2];exact .inr (.inl ⟨n,x,aL,hk,hn,aq,hlt⟩)
   ·cases hn
  ·simp only[aw,oP] at hn;split at hn
   ·rename_i hk;rw[hD2];exact .inr (.inr ⟨n,ks,vs,hk,hn,aq,rfl⟩)
   ·cases hn
theorem aS.ZK{f:FuncId}{avs cargs:List I}{r:I}{vs:List Value}{a:Act}{w:World}{D:aH}{E:aN}{ts:List (Nat×I)}{os0:List (Nat×aj)}(hs:aM c (aw ts os0) a w D E)(ns:List Nat)(ho:bI (fun n => !ns.contains n) (cZ ns os0))
  (h:aS c.P f cargs r) (hc:bJ true (aw ts (jA ns os0)) avs=some cargs) (ab:ee (aR w D E) avs vs) :
  Calls c.P f vs.toArray w fun e w'=>∃ v D' E',e=.returned v∧aM c (aw (gb ns ts) (cZ ns os0)) a w' D' E'∧aR w' D' E' r v:=by
 obtain ⟨D1,E1,hs1,hw⟩:=hs.freeze ns ho;have hu:dE (aw ts (jA ns os0)) (aw ts os0):=fun n x hx=>by
  simp only[aw,oP] at hx ⊢;split at hx
  ·exact hx
  ·cases hx
 have hrv:=lA (E':=cu) hs hu hw avs cargs vs (kV _ _ ab (qa hc)) hc;refine (h.2 w _ vs hs.vR hs1.cS hrv).mono fun e w' ⟨v,D',he,h1,h2,h3,h4⟩=>⟨v,fun b o=>D1 b o∨(w.heap.size≤b∧D' b o),E1,he,?_,?_⟩
 ·refine hs1.grow h2 (fun _ _ hd=>.inl hd) ?_ ?_
  ·rintro b o (hd | ⟨hle,_⟩) hlt
   ·exact hd
   ·omega
  ·rintro b o (hd | ⟨_,hd⟩)
   ·exact zw9 (hs1.cS b o hd) h2.size
   ·exact h3 b o hd
 ·refine aR.later (E:=cu) ⟨fun b o hd =>?_,fun _ _ _ _ h=>h,fun n b aL hn=>by simp[cu] at hn,fun n aB l hn=>by simp[cu] at hn,fun n b hn=>by simp[cu] at hn,fun n b hn=>by simp[cu] at hn,fun _ _ _ _ h=>h⟩ h1;rcases Nat.lt_or_ge b w.heap.size with hlt | hge
  ·exact .inl (h4 b o hd hlt)
  ·exact .inr ⟨hge,hd⟩
theorem uA{a:Act}{w:World}{D D1:aH}{E:aN}{ts:List (Nat×I)}{os0 os:List (Nat×aj)}{ρ:List (Nat×Nat)}{aE:Bool}{A0:ae}(hs:aM c (aw ts os0) a w D E)(hu:dE A0 (aw ts os0))(hD:∀ b o,D b o→D1 b o)(hw:gY aE A0 D E D1) :
  ∀ (avs cargs:List I) (vs:List Value),gr aE A0 ρ os avs cargs→ee (aR w D E) avs vs→ao w D1 (aq ρ os E) cargs vs
 | [],[],vs,_,ab=>by cases ab;simp[ao]
 | [],_::_,_,h,_=>by simp[gr] at h
 |_::_,[],_,h,_=>by simp[gr] at h
 |x::xs,y::ys,vs,h,ab=>by
  cases ab with
  |cons ab hvs =>
  rename_i v vs;simp only[gr] at h;have ih:=uA hs hu hD hw xs ys vs h.2 hvs;have hl:dy w D (aq ρ os E) w D1 (aq ρ os E):=⟨hD,fun _ _ _ _ h=>h,fun _ _ _ h=>h,fun _ aB l h=>⟨aB,l,h,zz2 _,fun _=>rfl⟩,fun _ _ h=>h,fun _ _ h=>h,fun _ _ _ _ h=>h⟩
  have h1:∃ cs,ba y v cs∧af w D1 (aq ρ os E) y cs:=by
   rcases h.1 with ⟨k1,k2,k3⟩ | k
   ·rw[k1] at ab;have h2:=aR.later hl ((aR.aT (w:=w) (D:=D) (p:=aC os) (ρ:=bo ρ) (E:=aq ρ os E) (E':=E) (fun n hn=>by simp only[aq,hn,if_true]) k2).1 ab);cases y <;>simp only[aR] at h2 <;>first | (simp[I.cC] at k3;done) | exact h2
   ·have h2:ao w D E [x] [v]:=kV [x] [v] (.cons ab .nil) (by
     intro z hz;simp only[zx2] at hz;subst hz;cases z <;>simp_all[bf,I.cC])
    have h3:=lA (E':=aq ρ os E) hs hu hw [x] [y] [v] h2 (by simp[bJ,k]);simp only[ao] at h3;obtain ⟨v',rest,cs,e,k1,k2,_⟩:=h3;simp only[zy7] at e;obtain ⟨rfl,_⟩:=e;exact ⟨cs,k1,k2⟩
  obtain ⟨cs,k1,k2⟩:=h1;simp only[ao];exact ⟨v,vs,cs,rfl,k1,k2,ih⟩
theorem dE.drop(ts:List (Nat×I))(ns:List Nat)(os0:List (Nat×aj)):dE (aw ts (cZ ns os0)) (aw ts os0):=fun n x hx=>by
 simp only[aw,sI] at hx ⊢;split at hx
 ·cases hx
 ·exact hx
theorem mJ.use{run:Array Value→World→(Ending→World→Prop)→Prop}{since:World→aH→aN→Prop}{avs cargs:List I}{post:b9}{vs:List Value}{a:Act}{w:World}{D:aH}{E:aN}{ts:List (Nat×I)}{os0 os:List (Nat×aj)}{ρ:List (Nat×Nat)}
  (hs:aM c (aw ts os0) a w D E) (h:mJ run since cargs os post) (aE:Bool) (hmono:∀ {vs w R R'},run vs w R→(∀ e w,R e w→R' e w)→run vs w R') (hsince:(aE=true→∀ D,since w D (aq ρ os E))∧(aE=false→since w (nE (aw ts os0) D E) (aq ρ os E)))
  (hg:eX ρ os os0) (ha:gr aE (aw ts (cZ (iT ρ os) os0)) ρ os avs cargs) (hb:∀ r os',post r os'→dL aE ρ os os0 r os') (ab:ee (aR w D E) avs vs) :
  run vs.toArray w fun e w'=>∃ v r os' D2 E2,e=.returned v∧post r os'∧aM c (aw ts (df ρ os'++os0)) a w' D2 E2∧aR w' D2 E2 (r.aT (bo ρ)) v∧∀ m e,aq ρ os E m=some e→aC os' m=true→∃ e',E2 (bo ρ m)=some e'∧e.eD e':=by
 have notName:∀ n,(iT ρ os).contains n=false→∀ m,aC os m=true→bo ρ m≠n:=fun n hn m hm he=>by
  obtain ⟨q,hq,rfl⟩:=vN.1 hm;have:(iT ρ os).contains n=true:=by simp only[iT,List.contains_iff_mem,zx4];exact ⟨q,hq,he⟩
  rw[this] at hn;cases hn
 have other:∀ {D:aH},aM c (aw ts os0) a w D E→∀ n e b x,aD (cZ (iT ρ os) os0) n=some x→E n=some e→e.aB=some b→¬ bU (aq ρ os E) b:=fun hs n e b x hx he hb ho=>by
  obtain ⟨m,e',h1,h2,hb',_⟩:=hs.sg hg ho;rw[sI] at hx;split at hx
  ·cases hx
  ·rename_i hc;have:=hs.cD n (bo ρ m) e _ b he h2 hb hb';exact notName n (by simpa using hc) m h1 this.symm
 cases aE with
 |true =>
  obtain ⟨D1,hD1⟩:∃ D1:aH,D1=fun b o=>D b o∨(b<w.heap.size∧¬ bU (aq ρ os E) b):=⟨_,rfl⟩
  have hD:∀ b o,D b o→D1 b o:=fun b o hd=>by rw[hD1];exact .inl hd
  have hw:gY true (aw ts (cZ (iT ρ os) os0)) D E D1:=by
   refine ⟨hD,fun n T sz es b cap hn aq o _ =>?_,fun _ n x b aL hn aq o _ =>?_,fun _ n ks vs b hn aq =>?_⟩
   ·rw[hD1];exact .inr ⟨hs.fp aq rfl,other hs n _ b _ hn aq rfl⟩
   ·rw[hD1];exact .inr ⟨hs.fp aq rfl,other hs n _ b _ hn aq rfl⟩
   ·rw[hD1];exact .inr ⟨hs.fp aq rfl,other hs n _ b _ hn aq rfl⟩
  have hrv:=uA hs (dE.drop ts _ os0) hD hw avs cargs vs ha ab;refine hmono (h w D1 (aq ρ os E) vs (hsince.1 rfl _) (fun b o hd=>by
   rw[hD1] at hd;rcases hd with hd | hd
   ·exact hs.cS b o hd
   ·exact hd.1) (hs.BN hg hD fun b o hd ho=>by
    rw[hD1] at hd;rcases hd with hd | hd
    ·exact hd
    ·exact absurd ho hd.2) hrv) ?_
  rintro e w' ⟨v,D',E',r,os',he,hp,h1,h2,h3,h4,h5,h6,h7,h8⟩;obtain ⟨D2,E2,k1,k2⟩:=hs.ln hg hD (fun h=>by cases h) (hb r os' hp) h1 h2 h3 h5 h4 h8 h6 h7;exact ⟨v,r,os',D2,E2,he,hp,k1,k2⟩
 |false =>
  obtain ⟨hs1,hw⟩:=hs.nH;have hw':gY false (aw ts (cZ (iT ρ os) os0)) D E (nE (aw ts os0) D E):=⟨hw.cO,fun n T sz es b cap hn aq o hlt=>hw.bF n T sz es b cap (dE.drop ts _ os0 n _ hn) aq o hlt,(fun hb=>by cases hb),fun hb=>by cases hb⟩
  have hrv:=uA hs (dE.drop ts _ os0) hw.cO hw' avs cargs vs ha ab;refine hmono (h w _ (aq ρ os E) vs (hsince.2 rfl) hs1.cS (hs1.BN hg (fun _ _ h=>h) fun b o hd _=>hd) hrv) ?_;rintro e w' ⟨v,D',E',r,os',he,hp,h1,h2,h3,h4,h5,h6,h7,h8⟩;obtain ⟨D2,E2,k1,k2⟩:=hs1.ln hg (fun _ _ h=>h) (fun _ _ _ h=>h) (hb r os' hp) h1 h2 h3 h5 h4 h8 h6 h7;exact ⟨v,r,os',D2,E2,he,hp,k1,k2⟩
theorem aM.since{A:ae}{a:Act}{w:World}{D:aH}{E E':aN}(h:aM c A a w D E)(aq:∀ n,E' n=E n∨E' n=none):yr c w D E' :=
 ⟨h.dn,h.cE,h.cO,fun n e hn=>by
  rcases aq n with k | k
  ·rw[k];exact h.dG n e hn
  ·exact .inl k,h.fy,h.qo.sD fun b ⟨n,e,h1,h2⟩=>by
   rcases aq n with k | k
   ·rw[k] at h1;exact ⟨n,e,h1,h2⟩
   ·rw[k] at h1;cases h1⟩
theorem lB(c:ct)(f:FuncId):c.bl.fn f:=by unfold ct.bl;split <;>trivial
theorem u2(c:ct):c.bl.depth.isSome=true→1≤9:=fun _=>by omega
theorem js{a:Act}{w:World} : ∀ f,o.about c.P w a.eval=some f→c.bl.fn f:=fun f _=>lB c f
theorem jK{g:bt}(hg:cA c.P o=some g)(r:Option Nat)(ρ:Operand→Value):o.semAt r ρ=execOp ρ o:=by
 cases r with
 |none=>rfl
 |some l =>
  refine Oper.semAt_some l ρ o fun cl h =>?_;unfold cA at hg;rw[h] at hg;simp at hg
theorem Ad{f:FuncId}{args:Array Value}{w:World}{R:Ending→World→Prop}(h:Calls c.P f args w R):CallsIn c.bl (9-1) c.P f args w R:=by
 have h1:CallsIn Fence.wide (9-1) c.P f args w R:=callsIn_wide.2 h;unfold ct.bl;split
 ·exact h1
 ·exact h1
theorem rA.mono{P:Program}{v:Value}{vs:Array Value}{w:World}{R R':Ending→World→Prop}(h:rA P v vs w R)(hr:∀ e w,R e w→R' e w):rA P v vs w R':=by
 obtain ⟨l,h1,fn,tmps,assign,body,h2,h3⟩:=h;exact ⟨l,h1,fn,tmps,assign,body,h2,h3.mono hr⟩
theorem YW{l:Nat}{f:FuncId}{tmps:Array Value}{assign body:Code}{w:World}{R:Ending→World→Prop}(h:RoundIn Fence.wide 9 c.P l f tmps assign body w R):RoundIn c.bl (9-1) c.P l f tmps assign body w R:=by
 have h1:RoundIn Fence.wide (9-1) c.P l f tmps assign body w R:=⟨h.1,fun cc cs _=>h.2 cc cs (room_wide _)⟩
 unfold ct.bl;split
 ·exact h1
 ·exact h1
theorem gp.wp{B:ae}{g:bt}(hg:cA c.P o=some g)(h:gp c A o B){a:Act}{w:World}{K:Act→World→Prop}{Q:Exit→Act→World→Prop}(hs:bE c A a w)(hK:∀ a w,bE c B a w→K a w):o.wpIn c.bl 9 c.P a w K Q:=by
 obtain ⟨D,E,hs⟩:=hs;obtain ⟨w',h⟩:=h a w D E hs;refine ⟨js,?_⟩;rw[jK hg];rcases h with ⟨v,h1,h2⟩ | ⟨h1,h2⟩
 ·rw[h1];exact hK _ _ h2
 ·rw[h1];exact hK _ _ h2
theorem uO{dr:Bool}{K:ae→Prop}{f:FuncId}{avs:List I}{a1 a2:Option (List I)}{vs:List Value}{dst:Option Nat}{rest:List au}{a:Act}{w:World}{Kw:Act→World→Prop}{Q:Exit→Act→World→Prop}{g:bt}(hg:cA c.P o=some g)(h1:bJ true A avs=a1)(h2:bJ false A avs=a2)
  (hs:∀ D E,aM c A a w D E→ee (aR w D E) avs vs) (hsim:bE c A a w) (hwp:aZ c.P c.Y dr K (.call f avs a1 a2 dst rest A)) (hd:o.dst=dst) (hdn:∀ k,dst=some k→k<c.n)
  (hrun:dZ c.P f=true→(execOp a.eval o).run c.P w=.ok (.enter f vs.toArray) w)
  (hK:∀ B a' w',aZ c.P c.Y dr K (al rest B)→bE c B a' w'→Kw a' w'):o.wpIn c.bl 9 c.P a w Kw Q:=by
 obtain ⟨D,E,hsw⟩:=hsim;have nN:∀ {R:Ending→World→Prop},dZ c.P f=true→Calls c.P f vs.toArray w R→(∀ e w',R e w'→∃ v,e=.returned v∧Kw (a.put o.dst v) w')→o.wpIn c.bl 9 c.P a w Kw Q:=fun {R} hc hcl hR=>by
  refine ⟨js,?_⟩;rw[jK hg,hrun hc,Oper.uponIn_enter];refine ⟨u2 c,Ad (hcl.mono fun e w' he =>?_)⟩;obtain ⟨v,rfl,ab⟩:=hR e w' he;exact ab
 cases hwp with
 |flat r hspec hflat hrest =>
  refine nN hspec.1 (hspec.ZJ hsw hflat h1 (hs D E hsw)) ?_;rintro e w' ⟨v,D',he,hs',ab⟩;refine ⟨v,he,?_⟩;rw[hd];exact hK _ _ _ hrest ⟨D',E,hs'.aP hdn ab⟩
 |lead r hspec hrest =>
  refine nN hspec.1 (hspec.ZL hsw h2 (hs D E hsw)) ?_;rintro e w' ⟨v,D',he,hs',ab⟩;refine ⟨v,he,?_⟩;rw[hd];exact hK _ _ _ hrest ⟨D',E,hs'.aP hdn ab⟩
 |jV ns r hdr hspec hf ho hrest =>
  refine nN hspec.1 (hspec.ZK hsw ns ho hf (hs D E hsw)) ?_;rintro e w' ⟨v,D',E',he,hs',ab⟩;refine ⟨v,he,?_⟩;rw[hd];exact hK _ _ _ hrest ⟨D',E',hs'.aP hdn ab⟩
 |bD aE ρ os cargs post hdr hspec hgv ha hb hrest =>
  refine nN hspec.1 (hspec.2.use hsw aE (fun h=>h.mono) ⟨fun _ _=>hsw.oL,fun _=>hsw.oL⟩ hgv ha hb (hs D E hsw)) ?_;rintro e w' ⟨v,r,os',D2,E2,he,hp,hs',ab,_⟩;refine ⟨v,he,?_⟩;rw[hd];exact hK _ _ _ (hrest r os' hp) ⟨D2,E2,hs'.aP hdn ab⟩
theorem I7{dr:Bool}{K:ae→Prop}{v:Value}{avs:List I}{vs:List Value}{dst:Option Nat}{rest:List au}{a:Act}{w:World}{Kw:Act→World→Prop}{Q:Exit→Act→World→Prop}{g:bt}(hg:cA c.P o=some g)
  (hs:∀ D E,aM c A a w D E→ee (aR w D E) avs vs) (hsim:bE c A a w) (hwp:aZ c.P c.Y dr K (.lu v avs dst rest A)) (hd:o.dst=dst) (hdn:∀ k,dst=some k→k<c.n)
  (hrun:∀ l,v=.func (.yield l) #[] #[]→(execOp a.eval o).run c.P w=(Instr.yield l vs.toArray).run c.P w)
  (hK:∀ B a' w',aZ c.P c.Y dr K (al rest B)→bE c B a' w'→Kw a' w'):o.wpIn c.bl 9 c.P a w Kw Q:=by
 obtain ⟨D,E,hsw⟩:=hsim;cases hwp with
 |tY os cargs post hdr hY hgv ha hb hrest =>
  have hyr:=(hsw.eV.2 _ _ _ _ hY).use (ρ:=[]) hsw false (fun h=>h.mono) ⟨(fun h=>by cases h),fun _=>hsw.nH.1.since (fun n=>by simp only[aq,bo];split <;>simp)⟩ hgv ha hb (hs D E hsw);obtain ⟨l,rfl,fn,tmps,assign,body,h2,h3⟩:=hyr;refine ⟨js,?_⟩;rw[jK hg,hrun l rfl,h2,Oper.uponIn_round];refine ⟨u2 c,YW (h3.mono fun e w' he =>?_)⟩;obtain ⟨v,r,os',D2,E2,rfl,hp,hs',ab,_⟩:=he;rw[hd];exact hK _ _ _ (hrest r os' hp) ⟨D2,E2,hs'.aP hdn ab⟩
end
section
variable {c:ct} {A:ae} {o:Oper}
theorem oi{P:Program}{n:Nat}{bg:Array Oper}{g:au}(h:lr P n bg o=some g):cA P o=some g.op∧g.dst=o.dst∧(∀ k,o.dst=some k→k<n) ∧
  ((o.guard=none∧g.guard=none)∨∃ j b t,o.guard=some (j,b)∧(bg[j]?).bind (·.dst)=some t∧g.guard=some (t,b)):=by
 unfold lr at h;split at h
 ·cases h
 rename_i g' hg';split at h
 case isFalse=>cases h
 rename_i hd;have hdst:∀ k,o.dst=some k→k<n:=by
  intro k hk;rw[hk] at hd;simpa[AF] using hd
 split at h
 ·rename_i hgd;simp only[v6] at h;subst h;exact ⟨hg',rfl,hdst,.inl ⟨hgd,rfl⟩⟩
 ·rename_i j b hgd;split at h
  ·rename_i t ht;simp only[v6] at h;subst h;exact ⟨hg',rfl,hdst,.inr ⟨j,b,t,hgd,ht,rfl⟩⟩
  ·cases h
theorem BB{dr:Bool}{K:ae→Prop}{op:bt}{dst:Option Nat}{rest:List au}{a:Act}{w:World}{Kw:Act→World→Prop}{Q:Exit→Act→World→Prop}(hop:cA c.P o=some op)(hd:o.dst=dst)(hdn:∀ k,dst=some k→k<c.n)
  (hsim:bE c A a w) (hK:∀ B a' w',aZ c.P c.Y dr K (al rest B)→bE c B a' w'→Kw a' w') (h:aZ c.P c.Y dr K (cq (aY A op) fun v=>al rest (A.aP dst v))):o.wpIn c.bl 9 c.P a w Kw Q:=by
 cases ab:aY A op with
 |some v =>
  rw[ab] at h;exact ((Dd hop ab).does (by rw[hd];exact hdn)).wp hop hsim (fun a' w' hs=>by rw[hd] at hs;exact hK _ a' w' h hs)
 |none=>rw[ab] at h;cases h
theorem Ut{dr:Bool}{K:ae→Prop}{dst:Option Nat}{rest:List au}{a:Act}{w:World}{Kw:Act→World→Prop}{Q:Exit→Act→World→Prop}{z:I}(hop:cA c.P o=some (.alloc z))(hd:o.dst=dst)(hdn:∀ k,dst=some k→k<c.n)
  (hwp:aZ c.P c.Y dr K (aX A dst (.alloc z) rest (al rest))) (hsim:bE c A a w) (hK:∀ B a' w',aZ c.P c.Y dr K (al rest B)→bE c B a' w'→Kw a' w'):o.wpIn c.bl 9 c.P a w Kw Q:=by
 have hop0:=hop;simp only[aX] at hwp;split at hwp
 case h_2=>cases hwp
 rename_i d;split at hwp
 case h_2=>cases hwp
 rename_i hf;unfold cA at hop;split at hop <;>try (first | (simp at hop;done) | ((repeat' split at hop) <;>simp at hop;done))
 rename_i t ho;simp only[t7,bt.alloc.injEq] at hop;obtain ⟨z',hz,rfl⟩:=hop;exact (L2 ho hz hd (hdn d rfl) hf).wp hop0 hsim (fun a' w' hs=>hK _ a' w' hwp hs)
theorem Uw{dr:Bool}{K:ae→Prop}{dst:Option Nat}{rest:List au}{a:Act}{w:World}{Kw:Act→World→Prop}{Q:Exit→Act→World→Prop}{x:ay}(hop:cA c.P o=some (.box x))(hd:o.dst=dst)(hdn:∀ k,dst=some k→k<c.n)
  (hwp:aZ c.P c.Y dr K (aX A dst (.box x) rest (al rest))) (hsim:bE c A a w) (hK:∀ B a' w',aZ c.P c.Y dr K (al rest B)→bE c B a' w'→Kw a' w'):o.wpIn c.bl 9 c.P a w Kw Q:=by
 have hop0:=hop;simp only[aX] at hwp;split at hwp
 case h_2=>cases hwp
 rename_i d;split at hwp
 case h_2=>cases hwp
 rename_i hf;split at hwp
 case isFalse=>cases hwp
 rename_i ab;unfold cA at hop;split at hop <;>try (first | (simp at hop;done) | ((repeat' split at hop) <;>simp at hop;done))
 rename_i t y ho;simp only[t7,bt.box.injEq] at hop;obtain ⟨z',hz,rfl⟩:=hop;exact (L7 ho hz ab hd (hdn d rfl) hf).wp hop0 hsim (fun a' w' hs=>hK _ a' w' hwp hs)
theorem UK{dr:Bool}{K:ae→Prop}{dst:Option Nat}{rest:List au}{a:Act}{w:World}{Kw:Act→World→Prop}{Q:Exit→Act→World→Prop}{s:Option Nat}{x v:ay}(hop:cA c.P o=some (.aV s x v))(hd:o.dst=dst)(hdn:∀ k,dst=some k→k<c.n)
  (hwp:aZ c.P c.Y dr K (aX A dst (.aV s x v) rest (al rest))) (hsim:bE c A a w) (hK:∀ B a' w',aZ c.P c.Y dr K (al rest B)→bE c B a' w'→Kw a' w'):o.wpIn c.bl 9 c.P a w Kw Q:=by
 have hop0:=hop;simp only[aX] at hwp;split at hwp
 case h_2=>cases hwp
 split at hwp
 case h_2=>cases hwp
 rename_i n p hp;split at hwp
 case h_2=>cases hwp
 rename_i b hb;split at hwp
 case h_2=>cases hwp
 rename_i old hat;split at hwp
 case isFalse=>cases hwp
 rename_i hok;unfold cA at hop;split at hop <;>try (first | (simp at hop;done) | ((repeat' split at hop) <;>simp at hop;done))
 rename_i t y z ho;split at hop
 case h_2=>cases hop
 rename_i s' x' v' h1 h2 h3;split at hop
 case isFalse=>cases hop
 rename_i hk;simp only[v6,bt.aV.injEq] at hop;obtain ⟨rfl,rfl,rfl⟩:=hop;exact (Mg ho h1 hk h2 h3 hp hb hat hok.1 hok.2.1 hok.2.2 hd).wp hop0 hsim (fun a' w' hs=>hK _ a' w' hwp hs)
theorem Ux{dr:Bool}{K:ae→Prop}{dst:Option Nat}{rest:List au}{a:Act}{w:World}{Kw:Act→World→Prop}{Q:Exit→Act→World→Prop}{f:FuncId}{args:List ay}(hop:cA c.P o=some (.call f args))(hd:o.dst=dst)(hdn:∀ k,dst=some k→k<c.n)
  (hwp:aZ c.P c.Y dr K (aX A dst (.call f args) rest (al rest))) (hsim:bE c A a w) (hK:∀ B a' w',aZ c.P c.Y dr K (al rest B)→bE c B a' w'→Kw a' w'):o.wpIn c.bl 9 c.P a w Kw Q:=by
 have hop0:=hop;simp only[aX] at hwp;unfold cA at hop;split at hop <;>try (first | (simp at hop;done) | ((repeat' split at hop) <;>simp at hop;done))
 rename_i f' xs ts ho;split at hop
 case isFalse=>simp at hop
 simp only[t7,bt.call.injEq] at hop;obtain ⟨ys,hys,rfl,rfl⟩:=hop;refine uO (vs:=xs.toList.map a.eval) hop0 rfl rfl (fun D E hs=>km hs xs.toList ts.toList ys hys) hsim hwp hd hdn (fun hc =>?_) hK;have e:xs.map a.eval=(xs.toList.map a.eval).toArray:=by apply Array.ext';simp
 simp only[execOp,ho,resolve,Act.eval,Deferred.ofValue,Sem.run_bind,Sem.run_pure,Result.andThen_ok,invoke,Array.append_empty,Array.empty_append,mA hc];rw[←e]
theorem UL{dr:Bool}{K:ae→Prop}{dst:Option Nat}{rest:List au}{a:Act}{w:World}{Kw:Act→World→Prop}{Q:Exit→Act→World→Prop}{f:FuncId}{args:List ay}(hop:cA c.P o=some (.gW f args))(hd:o.dst=dst)(hdn:∀ k,dst=some k→k<c.n)
  (hwp:aZ c.P c.Y dr K (aX A dst (.gW f args) rest (al rest))) (hsim:bE c A a w) (hK:∀ B a' w',aZ c.P c.Y dr K (al rest B)→bE c B a' w'→Kw a' w'):o.wpIn c.bl 9 c.P a w Kw Q:=by
 have hop0:=hop;simp only[aX] at hwp;unfold cA at hop;split at hop <;>try (first | (simp at hop;done) | ((repeat' split at hop) <;>simp at hop;done))
 rename_i f' xs ts ho;split at hop
 case isTrue=>simp at hop
 simp only[t7,bt.gW.injEq] at hop;obtain ⟨ys,hys,rfl,rfl⟩:=hop;obtain ⟨D,E,hs⟩:=hsim;cases hwp with
 |ext r hdr hx hw =>
  obtain ⟨v,g1,g2⟩:=hx c a w D E (xs.toList.map a.eval) rfl hs (km hs xs.toList ts.toList ys hys);have e:xs.map a.eval=(xs.toList.map a.eval).toArray:=by apply Array.ext';simp
  have hrun:(execOp a.eval o).run c.P w=.ok (.value v) w:=by
   simp only[execOp,ho,resolve,Act.eval,Deferred.ofValue,Sem.run_bind,Sem.run_pure,Result.andThen_ok,invoke,Array.append_empty,Array.empty_append];rw[←e] at g1;exact g1
  refine ⟨js,?_⟩;rw[jK hop0,hrun,Oper.uponIn_value];exact hK _ _ _ hw ⟨D,E,by rw[hd];exact hs.aP hdn g2⟩
theorem UC{dr:Bool}{K:ae→Prop}{dst:Option Nat}{rest:List au}{a:Act}{w:World}{Kw:Act→World→Prop}{Q:Exit→Act→World→Prop} (hop:cA c.P o=some (.kK))(hd:o.dst=dst)(hdn:∀ k,dst=some k→k<c.n)
  (hwp:aZ c.P c.Y dr K (aX A dst (.kK) rest (al rest))) (hsim:bE c A a w) (hK:∀ B a' w',aZ c.P c.Y dr K (al rest B)→bE c B a' w'→Kw a' w'):o.wpIn c.bl 9 c.P a w Kw Q:=by
 have hop0:=hop;simp only[aX] at hwp;split at hwp
 case h_2=>cases hwp
 rename_i d;split at hwp
 case h_2=>cases hwp
 rename_i hf;unfold cA at hop;split at hop <;>try (first | (simp at hop;done) | ((repeat' split at hop) <;>simp at hop;done))
 rename_i t ho;exact (Mc ho hd (hdn d rfl) hf).wp hop0 hsim (fun a' w' hs=>hK _ a' w' hwp hs)
theorem UE{dr:Bool}{K:ae→Prop}{dst:Option Nat}{rest:List au}{a:Act}{w:World}{Kw:Act→World→Prop}{Q:Exit→Act→World→Prop}{e:TypeId}{bytes:Nat}{z:I}{n:ay}(hop:cA c.P o=some (.jG e bytes z n))(hd:o.dst=dst)(hdn:∀ k,dst=some k→k<c.n)
  (hwp:aZ c.P c.Y dr K (aX A dst (.jG e bytes z n) rest (al rest))) (hsim:bE c A a w) (hK:∀ B a' w',aZ c.P c.Y dr K (al rest B)→bE c B a' w'→Kw a' w'):o.wpIn c.bl 9 c.P a w Kw Q:=by
 have hop0:=hop;simp only[aX] at hwp;split at hwp
 case h_2=>cases hwp
 rename_i d;split at hwp
 case h_2=>cases hwp
 rename_i hf;split at hwp
 case h_2=>cases hwp
 rename_i k m hn;split at hwp
 case isFalse=>cases hwp
 rename_i hc;unfold cA at hop;split at hop <;>try (first | (simp at hop;done) | ((repeat' split at hop) <;>simp at hop;done))
 rename_i t l l' ho;split at hop
 case h_2=>cases hop
 rename_i e' n' hu hl;split at hop
 case h_2=>cases hop
 rename_i z' hz;split at hop
 case isFalse=>(repeat' split at hop) <;>simp at hop
 rename_i hc2;simp only[v6,bt.jG.injEq] at hop;obtain ⟨rfl,rfl,rfl,rfl⟩:=hop;obtain ⟨j,rfl⟩:=zz9 hc.1;simp only[Int.toNat_natCast] at hc hwp;exact (Me ho (Y5 hc2.1) hu hl hn hz hc2.2.1 hc2.2.2 hc.2.1 hc.2.2 hd (hdn d rfl) hf).wp hop0 hsim (fun a' w' hs=>hK _ a' w' hwp hs)
theorem UD{dr:Bool}{K:ae→Prop}{dst:Option Nat}{rest:List au}{a:Act}{w:World}{Kw:Act→World→Prop}{Q:Exit→Act→World→Prop}{e:TypeId}{sz:Nat}(hop:cA c.P o=some (.jF e sz))(hd:o.dst=dst)(hdn:∀ k,dst=some k→k<c.n)
  (hwp:aZ c.P c.Y dr K (aX A dst (.jF e sz) rest (al rest))) (hsim:bE c A a w) (hK:∀ B a' w',aZ c.P c.Y dr K (al rest B)→bE c B a' w'→Kw a' w'):o.wpIn c.bl 9 c.P a w Kw Q:=by
 have hop0:=hop;simp only[aX] at hwp;split at hwp
 case h_2=>cases hwp
 rename_i d;split at hwp
 case h_2=>cases hwp
 rename_i hf;unfold cA at hop;split at hop <;>try (first | (simp at hop;done) | ((repeat' split at hop) <;>simp at hop;done))
 rename_i t l l' ho;split at hop
 case h_2=>cases hop
 rename_i e' n' hu hl;split at hop
 case h_2=>cases hop
 rename_i z' hz;split at hop
 case isTrue=>cases hop
 split at hop
 case h_2=>cases hop
 rename_i m hm;split at hop
 case isFalse=>cases hop
 rename_i hb;simp only[v6,bt.jF.injEq] at hop;obtain ⟨rfl,rfl⟩:=hop;exact (Md ho hm hu hz hb hd (hdn d rfl) hf).wp hop0 hsim (fun a' w' hs=>hK _ a' w' hwp hs)
theorem UF{dr:Bool}{K:ae→Prop}{dst:Option Nat}{rest:List au}{a:Act}{w:World}{Kw:Act→World→Prop}{Q:Exit→Act→World→Prop}{ty:cm}{m k v:ay}(hop:cA c.P o=some (.j4 ty m k v))(hd:o.dst=dst)(hdn:∀ k,dst=some k→k<c.n)
  (hwp:aZ c.P c.Y dr K (aX A dst (.j4 ty m k v) rest (al rest))) (hsim:bE c A a w) (hK:∀ B a' w',aZ c.P c.Y dr K (al rest B)→bE c B a' w'→Kw a' w'):o.wpIn c.bl 9 c.P a w Kw Q:=by
 have hop0:=hop;simp only[aX] at hwp;split at hwp
 case h_2=>cases hwp
 split at hwp
 case h_2=>cases hwp
 rename_i n hm;split at hwp
 case h_2=>cases hwp
 rename_i ks vs hn;split at hwp
 case h_2=>cases hwp
 rename_i ks' vs' hl;unfold cA at hop;split at hop <;>try (first | (simp at hop;done) | ((repeat' split at hop) <;>simp at hop;done))
 all_goals
  rename_i t mo ko vo ho;split at hop
  case h_2=>cases hop
  rename_i kt et m' k' hu h1 h2;split at hop
  case h_2=>cases hop
  rename_i ty' v' hk h3;simp only[v6,bt.j4.injEq] at hop;obtain ⟨rfl,rfl,rfl,rfl⟩:=hop
 ·exact (AE (.inl ho) hu hk h1 h2 h3 hm hn hl hd).wp hop0 hsim (fun a' w' hs=>hK _ a' w' hwp hs)
 ·exact (AE (.inr ho) hu hk h1 h2 h3 hm hn hl hd).wp hop0 hsim (fun a' w' hs=>hK _ a' w' hwp hs)
theorem UB{dr:Bool}{K:ae→Prop}{dst:Option Nat}{rest:List au}{a:Act}{w:World}{Kw:Act→World→Prop}{Q:Exit→Act→World→Prop}{ty:cm}{m k:ay}(hop:cA c.P o=some (.lF ty m k))(hd:o.dst=dst)(hdn:∀ k,dst=some k→k<c.n)
  (hwp:aZ c.P c.Y dr K (aX A dst (.lF ty m k) rest (al rest))) (hsim:bE c A a w) (hK:∀ B a' w',aZ c.P c.Y dr K (al rest B)→bE c B a' w'→Kw a' w'):o.wpIn c.bl 9 c.P a w Kw Q:=by
 have hop0:=hop;simp only[aX] at hwp;split at hwp
 case h_2=>cases hwp
 split at hwp
 case h_2=>cases hwp
 rename_i n hm;split at hwp
 case h_2=>cases hwp
 rename_i ks vs hn;split at hwp
 case h_2=>cases hwp
 rename_i ks' vs' hl;unfold cA at hop;split at hop <;>try (first | (simp at hop;done) | ((repeat' split at hop) <;>simp at hop;done))
 rename_i args tys ho;split at hop
 case h_2=>cases hop
 rename_i mo ko t t' ha ht;split at hop
 case h_2=>cases hop
 rename_i kt et m' k' hu h1 h2;simp only[t7,bt.lF.injEq] at hop;obtain ⟨ty',hk,rfl,rfl,rfl⟩:=hop;have ha':args = #[mo,ko]:=by apply Array.ext';simpa using ha
 have ht':tys = #[t,t']:=by apply Array.ext';simpa using ht
 subst ha' ht';exact (Mb ho hu hk h1 h2 hm hn hl hd).wp hop0 hsim (fun a' w' hs=>hK _ a' w' hwp hs)
theorem UI{dr:Bool}{K:ae→Prop}{dst:Option Nat}{rest:List au}{a:Act}{w:World}{Kw:Act→World→Prop}{Q:Exit→Act→World→Prop}{x:ay}(hop:cA c.P o=some (.kd x))(hd:o.dst=dst)(hdn:∀ k,dst=some k→k<c.n)
  (hwp:aZ c.P c.Y dr K (aX A dst (.kd x) rest (al rest))) (hsim:bE c A a w) (hK:∀ B a' w',aZ c.P c.Y dr K (al rest B)→bE c B a' w'→Kw a' w'):o.wpIn c.bl 9 c.P a w Kw Q:=by
 have hop0:=hop;simp only[aX] at hwp;split at hwp
 case h_2=>cases hwp
 rename_i d;split at hwp
 case h_2=>cases hwp
 rename_i hf;split at hwp
 case h_2=>cases hwp
 rename_i ks vs hx;unfold cA at hop;split at hop <;>try (first | (simp at hop;done) | ((repeat' split at hop) <;>simp at hop;done))
 rename_i t y ho;split at hop
 case h_2=>cases hop
 rename_i kt et hu;simp only[t7,bt.kd.injEq] at hop;obtain ⟨z,hz,rfl⟩:=hop;exact (Mf ho hu hz hx hd (hdn d rfl) hf).wp hop0 hsim (fun a' w' hs=>hK _ a' w' hwp hs)
theorem UH{dr:Bool}{K:ae→Prop}{dst:Option Nat}{rest:List au}{a:Act}{w:World}{Kw:Act→World→Prop}{Q:Exit→Act→World→Prop}{x:ay}(hop:cA c.P o=some (.j5 x))(hd:o.dst=dst)(hdn:∀ k,dst=some k→k<c.n)
  (hwp:aZ c.P c.Y dr K (aX A dst (.j5 x) rest (al rest))) (hsim:bE c A a w) (hK:∀ B a' w',aZ c.P c.Y dr K (al rest B)→bE c B a' w'→Kw a' w'):o.wpIn c.bl 9 c.P a w Kw Q:=by
 have hop0:=hop;simp only[aX] at hwp;split at hwp
 case h_2=>cases hwp
 rename_i n hx;split at hwp
 case h_2=>cases hwp
 rename_i ks vs left cur hn;unfold cA at hop;split at hop <;>try (first | (simp at hop;done) | ((repeat' split at hop) <;>simp at hop;done))
 rename_i y ho;simp only[t7,bt.j5.injEq] at hop;obtain ⟨z,hz,rfl⟩:=hop;obtain ⟨D,E,hs⟩:=hsim;obtain ⟨w',v,hrun,hor⟩:=WK ho hz hx hn (by rw[hd];exact hdn) hs;refine ⟨js,?_⟩;rw[jK hop0,hrun,Oper.uponIn_value];rw[hd] at hor;split at hwp
 ·rename_i hl;rcases hor with ⟨_,hor⟩ | ⟨i,k,x,hi,_⟩
  ·exact hK _ _ _ hwp (by rw[hd];exact hor)
  ·rw[hl] at hi;cases hi
 ·rename_i hl;rcases hor with ⟨h,_⟩ | ⟨i,k,x,hi,hk,hx,hor⟩
  ·exact absurd h hl
  ·cases hwp with
   |any hdr hall =>
    have:=hall i hi;simp only[hk,hx] at this;exact hK _ _ _ this (by rw[hd];exact hor)
theorem Uy{dr:Bool}{K:ae→Prop}{dst:Option Nat}{rest:List au}{a:Act}{w:World}{Kw:Act→World→Prop}{Q:Exit→Act→World→Prop}{x:ay}{args:List ay}(hop:cA c.P o=some (.fq x args))(hd:o.dst=dst)(hdn:∀ k,dst=some k→k<c.n)
  (hwp:aZ c.P c.Y dr K (aX A dst (.fq x args) rest (al rest))) (hsim:bE c A a w) (hK:∀ B a' w',aZ c.P c.Y dr K (al rest B)→bE c B a' w'→Kw a' w'):o.wpIn c.bl 9 c.P a w Kw Q:=by
 have hop0:=hop;simp only[aX] at hwp;unfold cA at hop;split at hop <;>try (first | (simp at hop;done) | ((repeat' split at hop) <;>simp at hop;done))
 rename_i y xs ts _ ho;split at hop
 case h_2=>cases hop
 rename_i y' ys h1 h2;simp only[v6,bt.fq.injEq] at hop;obtain ⟨rfl,rfl⟩:=hop;obtain ⟨D,E,hs⟩:=hsim;have ab:=bn hs h1;split at hwp
 ·rename_i f caps hx;rw[hx] at ab;obtain ⟨cs,q1,q2⟩:=ab;simp only[af] at q2;obtain ⟨vs,q3,q4⟩:=q2;have hval:a.eval y=jh f vs:=by simpa[ba,I.isAgg,q3] using q1.symm
  have caps_ok:∀ D' E',aM c A a w D' E'→ee (aR w D' E') caps vs:=fun D' E' hs'=>by
   have hv':=bn hs' h1;rw[hx] at hv';obtain ⟨cs',q1',q2'⟩:=hv';simp only[af] at q2';obtain ⟨vs',q3',q4'⟩:=q2';have hval':a.eval y=jh f vs':=by simpa[ba,I.isAgg,q3'] using q1'.symm
   rw[hval] at hval';have:=M2 hval';subst this;exact pf q4'
  have e:xs.map a.eval=(xs.toList.map a.eval).toArray:=by apply Array.ext';simp
  rcases Nat.lt_or_ge f 1000000 with hf | hf
  ·rw[vk hf,vj hf] at hwp;rw[mb hf] at hval;refine uO (vs:=xs.toList.map a.eval++vs) hop0 rfl rfl (fun D' E' hs'=>(km hs' xs.toList ts.toList ys h2).append (caps_ok D' E' hs')) ⟨D,E,hs⟩ hwp hd hdn (fun hc =>?_) hK;simp only[execOp,ho,resolve,hval,Deferred.ofValue,Sem.run_bind,Sem.run_pure,Result.andThen_ok,invoke,Array.empty_append,mA hc];rw[e];simp
  ·obtain ⟨g,rfl⟩:∃ g:Nat,f=g+1000000:=⟨Nat.sub f 1000000,(Nat.sub_add_cancel hf).symm⟩
   rw[AY,AX] at hwp;rw[qb] at hval;refine uO (vs:=vs++xs.toList.map a.eval) hop0 rfl rfl (fun D' E' hs'=>(caps_ok D' E' hs').append (km hs' xs.toList ts.toList ys h2)) ⟨D,E,hs⟩ hwp hd hdn (fun hc =>?_) hK;simp only[execOp,ho,resolve,hval,Deferred.ofValue,Sem.run_bind,Sem.run_pure,Result.andThen_ok,invoke,Array.append_empty,mA hc];rw[e];simp
 ·rename_i u hx;rw[hx] at ab;obtain ⟨cs,q1,q2⟩:=ab;simp only[af] at q2;have hval:a.eval y=u:=by simpa[ba,I.isAgg,q2.1] using q1.symm
  refine I7 (vs:=xs.toList.map a.eval) hop0 (fun D' E' hs'=>km hs' xs.toList ts.toList ys h2) ⟨D,E,hs⟩ hwp hd hdn (fun l hl =>?_) hK;subst hl;have e:xs.map a.eval=(xs.toList.map a.eval).toArray:=by apply Array.ext';simp
  simp only[execOp,ho,resolve,hval,Deferred.ofValue,Sem.run_bind,Sem.run_pure,Result.andThen_ok,invoke,Array.empty_append];rw[e]
 ·cases hwp
theorem UG{dr:Bool}{K:ae→Prop}{dst:Option Nat}{rest:List au}{a:Act}{w:World}{Kw:Act→World→Prop}{Q:Exit→Act→World→Prop}{neg:Bool}{x:ay}(hop:cA c.P o=some (.nilS neg x))(hd:o.dst=dst)(hdn:∀ k,dst=some k→k<c.n)
  (hwp:aZ c.P c.Y dr K (aX A dst (.nilS neg x) rest (al rest))) (hsim:bE c A a w) (hK:∀ B a' w',aZ c.P c.Y dr K (al rest B)→bE c B a' w'→Kw a' w'):o.wpIn c.bl 9 c.P a w Kw Q:=by
 have hop0:=hop;simp only[aX] at hwp;split at hwp
 case isFalse=>exact BB hop hd hdn hsim hK hwp
 rename_i hu;cases hwp with
 |any hdr hall =>
 unfold cA at hop;split at hop <;>try (first | (simp at hop;done) | ((repeat' split at hop) <;>simp at hop;done))
 rename_i bop t y z yt ho;split at hop
 ·simp at hop
 ·simp at hop
 ·rename_i e y' z' hut h1 h2;split at hop
  ·rename_i s;split at hop
   ·rename_i hopp;simp only[v6,bt.nilS.injEq] at hop;obtain ⟨rfl,rfl⟩:=hop;have ho':o.op=.binOp (if (bop==.neq)=true then .neq else .eql) t y z yt:=by
     rcases hopp with rfl | rfl <;>simpa using ho
    obtain ⟨D,E,hs⟩:=hsim;have hund:∃ sz,ah A y'=.slice sz []∨ah A y'=.c0 sz:=by
     generalize ah A y'=q at hu;cases q <;>simp only[jm,zz3,List.isEmpty_iff] at hu
     ·rename_i sz;exact ⟨sz,.inr rfl⟩
     ·rename_i sz es;subst hu;exact ⟨sz,.inl rfl⟩
    obtain ⟨b,hrun⟩:=WL ho' hut h1 h2 hund hs;refine ⟨js,?_⟩;rw[jK hop0,hrun,Oper.uponIn_value];have hb:=hall (if b then 0 else 1) (by cases b <;>simp);refine hK _ _ _ hb ⟨D,E,?_⟩;rw[hd];have e:((if b=true then (0:Nat) else 1)==0)=b:=by cases b <;>rfl
    rw[e];exact hs.aP hdn (kJ b)
   ·cases hop
  ·cases hop
 ·split at hop <;>simp at hop
 ·(repeat' split at hop) <;>simp at hop
 ·split at hop <;>simp at hop
 ·cases hop
theorem Uu{dr:Bool}{K:ae→Prop}{dst:Option Nat}{rest:List au}{a:Act}{w:World}{Kw:Act→World→Prop}{Q:Exit→Act→World→Prop}{e:TypeId}{esz bytes:Nat}{z:I}{s x:ay}(hop:cA c.P o=some (.dM e esz bytes z s x))(hd:o.dst=dst)(hdn:∀ k,dst=some k→k<c.n)
  (hwp:aZ c.P c.Y dr K (aX A dst (.dM e esz bytes z s x) rest (al rest))) (hsim:bE c A a w) (hK:∀ B a' w',aZ c.P c.Y dr K (al rest B)→bE c B a' w'→Kw a' w'):o.wpIn c.bl 9 c.P a w Kw Q:=by
 have hop0:=hop;simp only[aX] at hwp;unfold cA at hop;split at hop <;>try (first | (simp at hop;done) | ((repeat' split at hop) <;>simp at hop;done))
 rename_i args tys ho;split at hop
 case h_2=>cases hop
 rename_i y q t t' ha ht;split at hop
 case h_2=>cases hop
 rename_i e' s' x' k1 k2 k3;split at hop
 case isFalse=>split at hop <;>simp at hop
 rename_i hk;simp only[t7,bt.dM.injEq] at hop;obtain ⟨zz,hz1,rfl,rfl,rfl,rfl,rfl,rfl⟩:=hop;obtain ⟨rfl,hk2,hk3⟩:=hk;have ha':args = #[y,q]:=by apply Array.ext';simpa using ha
 have ht':tys = #[t,t]:=by apply Array.ext';simpa using ht
 subst ha' ht';rw[hz1] at hk3;simp only[zz7,v6] at hk3;have hinfo:(c.P.info? e').isSome=true:=by
  obtain ⟨ti,_,hti,_⟩:=kj hz1;rw[hti];rfl
 have grow:∀ es ys,c7 A (c.P.cellsOf e') (ah A s')=some es→c7 A (c.P.cellsOf e') (ah A x')=some ys→ys≠[]→(∀ a w D E,aM c A a w D E→∀ ad l cp,a.eval y=.slice ad l cp→cp<l+ys.length) →
   aZ c.P c.Y dr K (fb A dst (c.P.cellsOf e') (c.P.bytesOf e') zz es ys (al rest))→o.wpIn c.bl 9 c.P a w Kw Q:=fun es ys hse hsx hne hfull h=>by
  simp only[fb] at h;split at h
  case h_2=>cases h
  rename_i d;split at h
  case h_2=>cases h
  rename_i hf;split at h
  case isFalse=>cases h
  rename_i hb;cases h with
  |any hdr hall =>
   obtain ⟨D,E,hs⟩:=hsim;obtain ⟨v,w',m,g1,g2,g3⟩:=Ha ho k1 k2 k3 hz1 hk3 hse hsx hb.1 hd (hdn d rfl) hf hne hs (hfull a w D E hs) hb.2;refine ⟨js,?_⟩;rw[jK hop0,g1,Oper.uponIn_value,hd];rw[hd] at g3;exact hK _ _ _ (hall m g2) g3
 split at hwp
 ·rename_i n l hs';split at hwp
  case h_2=>cases hwp
  rename_i sz ys hx';split at hwp
  case h_3=>cases hwp
  case h_2 =>
   rename_i T xs hn;split at hwp
   case isFalse=>cases hwp
   rename_i hok;obtain ⟨h1,h2,h3,h4,h5,h6,h7,h8⟩:=hok;subst h3 h4;have hl5:ys.length=(qh ys).length:=(congrArg List.length h5).trans (by simp);rw[hl5] at h7 h8 hwp;rw[h5] at hx';have hd':=L4 (o:=o) ho k1 k2 k3 hz1 h2 hs' hn h1 hx' (fun e=>h6 (by rw[h5,e];rfl)) h7 h8 (by rw[hd];exact hdn);exact hd'.wp hop0 hsim (fun a' w' hs=>by rw[hd] at hs;exact hK _ a' w' hwp hs)
  rename_i T sz' es hn;split at hwp
  case isFalse=>cases hwp
  rename_i hok;obtain ⟨h1,h2,h3,h4,h5,h6,h7⟩:=hok;subst h2 h3 h4;have hd':=L3 (o:=o) ho k1 k2 k3 hz1 hk3 hk2 hs' hn h1 hx' rfl h5 h6 h7 (by rw[hd];exact hdn);exact hd'.wp hop0 hsim (fun a' w' hs=>by rw[hd] at hs;exact hK _ a' w' hwp hs)
 ·simp only[ep] at hwp;split at hwp
  case h_2=>cases hwp
  rename_i es ys hse hsx;split at hwp
  ·rename_i hne;subst hne;exact ((L6 ho k1 hinfo k2 k3 hse hsx).does (by rw[hd];exact hdn)).wp hop0 hsim (fun a' w' hs=>by rw[hd] at hs;exact hK _ a' w' hwp hs)
  ·rename_i hne;have hpos:0<ys.length:=List.length_pos_iff.2 hne;split at hwp
   ·rename_i z0 hsv;refine grow es ys hse hsx hne (fun a w D E hs ad l cp ab =>?_) hwp;have h0:=bn hs k2;rw[hsv] at h0;obtain ⟨cs,q1,q2⟩:=h0;simp only[af] at q2;have:a.eval y=.slice none 0 0:=by simpa[ba,I.isAgg,q2] using q1.symm
    rw[this] at ab;simp only[Value.slice.injEq] at ab;omega
   ·rename_i z0 hsv;refine grow es ys hse hsx hne (fun a w D E hs ad l cp ab =>?_) hwp;have h0:=bn hs k2;rw[hsv] at h0;obtain ⟨cs,q1,q2⟩:=h0;simp only[af] at q2;obtain ⟨ad',q2⟩:=q2;have:a.eval y=.slice ad' 0 0:=by simpa[ba,I.isAgg,q2] using q1.symm
    rw[this] at ab;simp only[Value.slice.injEq] at ab;omega
   ·rename_i n p sz lo l hsv;split at hwp
    case h_2=>cases hwp
    rename_i b hn;split at hwp
    case h_2=>cases hwp
    rename_i fs hat;split at hwp
    ·rename_i hroom;split at hwp
     case isFalse=>cases hwp
     rename_i hok;obtain ⟨rfl,hsh⟩:=hok;exact (L5 ho k1 hinfo k2 k3 hsv hn hat hsx hroom hsh (by rw[hd];exact hdn)).wp hop0 hsim (fun a' w' hs=>by rw[hd] at hs;exact hK _ a' w' hwp hs)
    ·rename_i hroom;refine grow es ys hse hsx hne (fun a w D E hs ad l' cp ab =>?_) hwp;have h0:=bn hs k2;rw[hsv] at h0;obtain ⟨_,bb,cs,T,off,c1,c2,c3,_,_,_,_,_,_,_,_,_,_,r1,iB,tj⟩:=hs.view (fs:=fs) h0 (by simp only[bT,hn,hat]);rw[tj] at ab;simp only[Value.slice.injEq] at ab;omega
   ·cases hwp
theorem Uv{dr:Bool}{K:ae→Prop}{dst:Option Nat}{rest:List au}{a:Act}{w:World}{Kw:Act→World→Prop}{Q:Exit→Act→World→Prop}{e:TypeId}{esz bytes:Nat}{z:I}{s n:ay}(hop:cA c.P o=some (.jM e esz bytes z s n))(hd:o.dst=dst)(hdn:∀ k,dst=some k→k<c.n)
  (hwp:aZ c.P c.Y dr K (aX A dst (.jM e esz bytes z s n) rest (al rest))) (hsim:bE c A a w) (hK:∀ B a' w',aZ c.P c.Y dr K (al rest B)→bE c B a' w'→Kw a' w'):o.wpIn c.bl 9 c.P a w Kw Q:=by
 have hop0:=hop;simp only[aX] at hwp;unfold cA at hop;split at hop <;>try (first | (simp at hop;done) | ((repeat' split at hop) <;>simp at hop;done))
 rename_i args tys ho;split at hop
 case h_2=>cases hop
 rename_i y q t t' ha ht;split at hop
 case h_2=>cases hop
 rename_i e' s' x' k1 k2 k3;split at hop
 case isTrue=>simp at hop
 split at hop
 case isFalse=>cases hop
 rename_i hk;simp only[t7,bt.jM.injEq] at hop;obtain ⟨zz,hz1,rfl,rfl,rfl,rfl,rfl,rfl⟩:=hop;obtain ⟨hint,hk2,hk3⟩:=hk;have ha':args = #[y,q]:=by apply Array.ext';simpa using ha
 have ht':tys = #[t,t']:=by apply Array.ext';simpa using ht
 subst ha' ht';rw[hz1] at hk3;simp only[zz7,v6] at hk3;obtain ⟨kt,hkt⟩:∃ kt,c.P.underlying t'=some (.int kt):=by
  cases hu:c.P.underlying t' with
  |none=>rw[hu] at hint;cases hint
  |some dsc=>cases dsc <;>rw[hu] at hint <;>first | exact ⟨_,rfl⟩ | cases hint
 split at hwp
 case h_2=>cases hwp
 rename_i kx bA hx';simp only[pN] at hwp;split at hwp
 case h_2=>cases hwp
 rename_i es hse;split at hwp
 case h_2=>cases hwp
 rename_i nn p sz lo l hsv;split at hwp
 case h_2=>cases hwp
 rename_i bb hn;split at hwp
 case h_2=>cases hwp
 rename_i fs hat;split at hwp
 case isFalse=>cases hwp
 rename_i hroom;simp only[fb] at hwp;split at hwp
 case h_2=>cases hwp
 rename_i d;split at hwp
 case h_2=>cases hwp
 rename_i hf;split at hwp
 case isFalse=>cases hwp
 rename_i hb;rw[List.length_replicate] at hb;cases hwp with
 |any hdr hall =>
  obtain ⟨D,E,hs⟩:=hsim;obtain ⟨v,w',m,g1,g2,g3⟩:=Hc ho k1 k2 k3 hkt hx' rfl hroom.1 hk2 hz1 hk3 hse hb.1 hd (hdn d rfl) hf hs (fun ad l' cp ab=>by
   have h0:=bn hs k2;rw[hsv] at h0;have hsv':=hse;obtain ⟨_,b1,cs,T,off,c1,c2,c3,_,_,_,_,_,_,_,_,_,_,r1,iB,tj⟩:=hs.view (fs:=fs) h0 (by simp only[bT,hn,hat]);rw[tj] at ab;simp only[Value.slice.injEq] at ab;have hel:es.length=l:=by
    rw[hsv] at hse;simp only[c7,bT,hn,hat] at hse;split at hse
    ·simp only[v6] at hse;rw[←hse,zz4,zv1];omega
    ·cases hse
   omega) hb.2
  refine ⟨js,?_⟩;rw[jK hop0,g1,Oper.uponIn_value,hd];rw[hd] at g3;have:=hall m (by rw[List.length_replicate];exact g2);rw[List.length_replicate] at this;exact hK _ _ _ this g3
theorem Uz{dr:Bool}{K:ae→Prop}{dst:Option Nat}{rest:List au}{a:Act}{w:World}{Kw:Act→World→Prop}{Q:Exit→Act→World→Prop}{esz:Nat}{z:I}{x:ay}(hop:cA c.P o=some (.jv esz z x))(hd:o.dst=dst)(hdn:∀ k,dst=some k→k<c.n)
  (hwp:aZ c.P c.Y dr K (aX A dst (.jv esz z x) rest (al rest))) (hsim:bE c A a w) (hK:∀ B a' w',aZ c.P c.Y dr K (al rest B)→bE c B a' w'→Kw a' w'):o.wpIn c.bl 9 c.P a w Kw Q:=by
 have hop0:=hop;simp only[aX] at hwp;split at hwp
 case h_2=>cases hwp
 unfold cA at hop;split at hop <;>try (first | (simp at hop;done) | ((repeat' split at hop) <;>simp at hop;done))
 rename_i args tys ho;split at hop
 case h_2=>cases hop
 rename_i y t ha ht;split at hop
 case h_2=>cases hop
 rename_i e' x' k1 k2;simp only[t7,bt.jv.injEq] at hop;obtain ⟨zz,hz1,rfl,rfl,rfl⟩:=hop;have ha':args = #[y]:=by apply Array.ext';simpa using ha
 have ht':tys = #[t]:=by apply Array.ext';simpa using ht
 subst ha' ht';have nothing:aZ c.P c.Y dr K (al rest A)→(∀ a w D E,aM c A a w D E→∃ ad cp,a.eval y=.slice ad 0 cp)→o.wpIn c.bl 9 c.P a w Kw Q:=fun h ab=>by
  obtain ⟨D,E,hs⟩:=hsim;obtain ⟨ad,cp,ab⟩:=ab a w D E hs;refine ⟨js,?_⟩;have hrun:(execOp a.eval o).run c.P w=.ok (.value (.tuple #[])) w:=by
   cases ad <;>simp[execOp,ho,resolve,invoke,builtin,Builtin.clear_,run_underlying k1,ab]
  rw[jK hop0,hrun,Oper.uponIn_value,hd];exact hK _ _ _ h ⟨D,E,hs⟩
 unfold oj at hwp;split at hwp
 ·rename_i n p sz lo l ab;split at hwp
  case h_2=>cases hwp
  rename_i b hn;split at hwp
  case h_2=>cases hwp
  rename_i fs hat;split at hwp
  case isFalse=>cases hwp
  rename_i hok;obtain ⟨rfl,hsh⟩:=hok;exact (L8 ho k1 k2 hz1 ab hn hat hsh hd).wp hop0 hsim (fun a' w' hs=>hK _ a' w' hwp hs)
 ·rename_i z0 ab;refine nothing hwp fun a w D E hs =>?_;have h0:=bn hs k2;rw[ab] at h0;obtain ⟨cs,q1,q2⟩:=h0;simp only[af] at q2;exact ⟨none,0,by simpa[ba,I.isAgg,q2] using q1.symm⟩
 ·rename_i z0 ab;refine nothing hwp fun a w D E hs =>?_;have h0:=bn hs k2;rw[ab] at h0;obtain ⟨cs,q1,q2⟩:=h0;simp only[af] at q2;obtain ⟨ad,q2⟩:=q2;exact ⟨ad,0,by simpa[ba,I.isAgg,q2] using q1.symm⟩
 ·cases hwp
theorem UA{dr:Bool}{K:ae→Prop}{dst:Option Nat}{rest:List au}{a:Act}{w:World}{Kw:Act→World→Prop}{Q:Exit→Act→World→Prop}{esz:Nat}{x y:ay}(hop:cA c.P o=some (.gx esz x y))(hd:o.dst=dst)(hdn:∀ k,dst=some k→k<c.n)
  (hwp:aZ c.P c.Y dr K (aX A dst (.gx esz x y) rest (al rest))) (hsim:bE c A a w) (hK:∀ B a' w',aZ c.P c.Y dr K (al rest B)→bE c B a' w'→Kw a' w'):o.wpIn c.bl 9 c.P a w Kw Q:=by
 have hop0:=hop;simp only[aX] at hwp;unfold cA at hop;split at hop <;>try (first | (simp at hop;done) | ((repeat' split at hop) <;>simp at hop;done))
 rename_i args tys ho;split at hop
 case h_2=>cases hop
 rename_i u v t t' ha ht;split at hop
 case h_2=>cases hop
 rename_i e' x' y' k1 k2 k3;split at hop
 case isFalse=>cases hop
 rename_i hk;simp only[v6,bt.gx.injEq] at hop;obtain ⟨rfl,rfl,rfl⟩:=hop;obtain ⟨_,hinfo⟩:=hk;have ha':args = #[u,v]:=by apply Array.ext';simpa using ha
 have ht':tys = #[t,t']:=by apply Array.ext';simpa using ht
 subst ha' ht';unfold ku at hwp;split at hwp
 ·rename_i n p sz lo l ys ab hsx;split at hwp
  case h_2=>cases hwp
  rename_i b hn;split at hwp
  case h_2=>cases hwp
  rename_i fs hat;split at hwp
  case isFalse=>cases hwp
  rename_i hok;obtain ⟨rfl,hsh⟩:=hok;exact (L9 ho k1 hinfo k2 k3 ab hn hat hsx rfl hsh (by rw[hd];exact hdn)).wp hop0 hsim (fun a' w' hs=>by rw[hd] at hs;exact hK _ a' w' hwp hs)
 ·rename_i z0 ys ab hsx;exact (Ma ho k1 hinfo k2 k3 ab hsx (by rw[hd];exact hdn)).wp hop0 hsim (fun a' w' hs=>by rw[hd] at hs;exact hK _ a' w' hwp hs)
 ·cases hwp
theorem UJ{dr:Bool}{K:ae→Prop}{dst:Option Nat}{rest:List au}{a:Act}{w:World}{Kw:Act→World→Prop}{Q:Exit→Act→World→Prop}{x:ay}(hop:cA c.P o=some (.eO x))(hd:o.dst=dst)(hdn:∀ k,dst=some k→k<c.n)
  (hwp:aZ c.P c.Y dr K (aX A dst (.eO x) rest (al rest))) (hsim:bE c A a w) (hK:∀ B a' w',aZ c.P c.Y dr K (al rest B)→bE c B a' w'→Kw a' w'):o.wpIn c.bl 9 c.P a w Kw Q:=by
 have hop0:=hop;simp only[aX] at hwp;unfold cA at hop;split at hop <;>try (first | (simp at hop;done) | ((repeat' split at hop) <;>simp at hop;done))
 rename_i t t' y ho;split at hop
 case h_1=>simp at hop
 case h_2=>(repeat' split at hop) <;>simp at hop
 case h_4=>cases hop
 rename_i e y' k1 k2 k3;split at hop
 case h_2=>cases hop
 rename_i k4;simp only[v6,bt.eO.injEq] at hop;subst hop;cases hse:lO (ah A y') with
 |none=>rw[hse] at hwp;simp only[iF] at hwp;cases hwp
 |some ys =>
  rw[hse] at hwp;simp only[iF] at hwp;split at hwp
  case h_2=>cases hwp
  rename_i d;split at hwp
  case h_2=>cases hwp
  rename_i hf;cases hwp with
  |any hdr hall =>
   obtain ⟨D,E,hs⟩:=hsim;obtain ⟨v,w',m,g1,g2,g3⟩:=Y3 ho k1 k2 k4 k3 hse hd (hdn d rfl) hf hs;refine ⟨js,?_⟩;rw[jK hop0,g1,Oper.uponIn_value,hd];rw[hd] at g3;exact hK _ _ _ (hall m g2) g3
theorem sd{dr:Bool}{K:ae→Prop}{op:bt}{dst:Option Nat}{rest:List au}{a:Act}{w:World}{Kw:Act→World→Prop}{Q:Exit→Act→World→Prop}(hop:cA c.P o=some op)(hd:o.dst=dst)(hdn:∀ k,dst=some k→k<c.n)
  (hwp:aZ c.P c.Y dr K (aX A dst op rest (al rest))) (hsim:bE c A a w) (hK:∀ B a' w',aZ c.P c.Y dr K (al rest B)→bE c B a' w'→Kw a' w'):o.wpIn c.bl 9 c.P a w Kw Q:=by
 cases op with
 |alloc z=>exact Ut hop hd hdn hwp hsim hK
 |box x=>exact Uw hop hd hdn hwp hsim hK
 |aV s x v=>exact UK hop hd hdn hwp hsim hK
 |call f args=>exact Ux hop hd hdn hwp hsim hK
 |gW f args=>exact UL hop hd hdn hwp hsim hK
 |kK=>exact UC hop hd hdn hwp hsim hK
 |jF e sz=>exact UD hop hd hdn hwp hsim hK
 |jG e bytes z n=>exact UE hop hd hdn hwp hsim hK
 |j4 ty m k v=>exact UF hop hd hdn hwp hsim hK
 |lF ty m k=>exact UB hop hd hdn hwp hsim hK
 |kd x=>exact UI hop hd hdn hwp hsim hK
 |j5 x=>exact UH hop hd hdn hwp hsim hK
 |fq x args=>exact Uy hop hd hdn hwp hsim hK
 |nilS neg x=>exact UG hop hd hdn hwp hsim hK
 |dM e esz bytes z s x=>exact Uu hop hd hdn hwp hsim hK
 |jM e esz bytes z s n=>exact Uv hop hd hdn hwp hsim hK
 |jv esz z x=>exact Uz hop hd hdn hwp hsim hK
 |gx esz x y=>exact UA hop hd hdn hwp hsim hK
 |eO x=>exact UJ hop hd hdn hwp hsim hK
 |_=>exact BB hop hd hdn hsim hK (by simpa only[aX] using hwp)
theorem sj{j t:Nat}{bg:Array Oper}{a:Act}{w:World}{b b':Bool}(hs:bE c A a w)(hg:o.guard=some (j,b))(ht:(bg[j]?).bind (·.dst)=some t)(ab:A.t t=.bool b'):Region.wanted o (yielded bg a.tmps)=(b'==b):=by
 obtain ⟨D,E,hs⟩:=hs;have h:=hs.dK t;rw[ab] at h;have h:=kS h;have hy:yielded bg a.tmps j=some b':=by
  unfold yielded;rw[ht];simp only[zw8];simp only[Array.getD_eq_getD_getElem?] at h;cases hh:a.tmps[t]? with
  |none=>simp[hh,undef] at h
  |some v=>simp only[hh,Option.getD_some] at h;subst h;rfl
 unfold Region.wanted;rw[hg];simp only[hy];cases b <;>cases b' <;>rfl
theorem sk{j t:Nat}{bg:Array Oper}{a:Act}{w:World}{b:Bool}(hs:bE c A a w)(hg:o.guard=some (j,b))(ht:(bg[j]?).bind (·.dst)=some t)(ab:A.t t=.undef):Region.wanted o (yielded bg a.tmps)=false:=by
 obtain ⟨D,E,hs⟩:=hs;have h:=hs.dK t;rw[ab] at h;simp only[aR] at h;have hy:yielded bg a.tmps j=none:=by
  unfold yielded;rw[ht];simp only[zw8];simp only[Array.getD_eq_getD_getElem?] at h;cases hh:a.tmps[t]? with
  |none=>rfl
  |some v=>simp only[hh,Option.getD_some] at h;subst h;rfl
 unfold Region.wanted;rw[hg];simp only[hy];rfl
theorem bE.mz{a:Act}{w:World}(h:bE c A a w){d:Option Nat}(hd:∀ k,d=some k→k<c.n):bE c (A.aP d .undef) (a.put d undef) w:=by
 obtain ⟨D,E,h⟩:=h;exact ⟨D,E,h.aP hd (by simp[aR])⟩
theorem si{dr:Bool}{K:ae→Prop}{bg:Array Oper}{Q:Exit→Act→World→Prop}(hQ:∀ B a w,K B→bE c B a w→Q .normal a w):∀ (l:List Oper) (gs:List au) (A:ae) (a:Act) (w:World),fE c.P c.n bg l=some gs→aZ c.P c.Y dr K (al gs A) →
  bE c A a w→wpListIn c.bl 9 c.P bg Q l a w
 | [],gs,A,a,w,hc,hwp,hs=>by
  simp only[fE,v6] at hc;subst hc;simp only[al] at hwp;cases hwp with
  |done hk=>exact hQ A a w hk hs
 |o::l,gs,A,a,w,hc,hwp,hs=>by
  simp only[fE] at hc;split at hc
  case h_2=>cases hc
  rename_i g gs' hg hgs;simp only[v6] at hc;subst hc;obtain ⟨h1,h2,h3,h4⟩:=oi hg;have step:aZ c.P c.Y dr K (aX A g.dst g.op gs' (al gs'))→o.wpIn c.bl 9 c.P a w (wpListIn c.bl 9 c.P bg Q l) Q:=fun h =>
   sd h1 h2.symm (by rw[h2];exact h3) h hs (fun B a' w' hw hs'=>si hQ l gs' B a' w' hgs hw hs')
  simp only[wpListIn];simp only[al] at hwp;rcases h4 with ⟨h5,h6⟩ | ⟨j,b,t,h5,h6,h7⟩
  ·rw[h6] at hwp;have hw:Region.wanted o (yielded bg a.tmps)=true:=by simp[Region.wanted,h5]
   rw[hw,if_pos rfl];exact step hwp
  ·rw[h7] at hwp;simp only at hwp;split at hwp
   ·rename_i b' hb';rw[sj hs h5 h6 hb'];split at hwp
    ·rename_i hbb;subst hbb;simp only[BEq.rfl,if_true];exact step hwp
    ·rename_i hbb;have:(b'==b)=false:=by simpa using hbb
     rw[this];simp only[zz3,if_false];exact ⟨fun f _=>lB c f,si hQ l gs' _ _ w hgs hwp (by rw[h2];exact hs.mz h3)⟩
   ·rename_i hb';rw[sk hs h5 h6 hb'];simp only[zz3,if_false];exact ⟨fun f _=>lB c f,si hQ l gs' _ _ w hgs hwp (by rw[h2];exact hs.mz h3)⟩
   ·cases hwp
end
def ay.sl:ay→List Nat
 | .t n=>[n]
 | .c _=>[]
def sZ:Option ay→List Nat
 |some x=>x.sl
 |none=>[]
def iY(l:List ay):List Nat:=l.flatMap ay.sl
def bt.cz:bt→List Nat
 | .mv x=>x.sl
 | .pick c a b=>c.sl++(a.sl++b.sl)
 | .bin _ x y=>x.sl++y.sl
 | .eqv _ _ x y=>x.sl++y.sl
 | .nilS _ x=>x.sl
 | .conv _ x=>x.sl
 | .un _ x=>x.sl
 | .ld _ x=>x.sl
 | .fa _ _ x=>x.sl
 | .fl _ _ _ x=>x.sl
 | .ia _ _ x i=>x.sl++i.sl
 | .is _ x i=>x.sl++i.sl
 | .ix _ _ _ x i=>x.sl++i.sl
 | .len x=>x.sl
 | .lenT x=>x.sl
 | .va _ _ x=>x.sl
 | .sl _ x lo hi mx=>x.sl++(sZ lo++(sZ hi++sZ mx))
 | .bld _ ps=>iY (ps.map (·.2))
 | .bs _ _ ps=>iY ps
 | .ext x _=>x.sl
 | .mk _ caps=>iY caps
 | .alloc _=>[]
 | .box x=>x.sl
 | .aV _ x v=>x.sl++v.sl
 | .dM _ _ _ _ s x=>s.sl++x.sl
 | .jM _ _ _ _ s x=>s.sl++x.sl
 | .cap x=>x.sl
 | .bs0 _=>[]
 | .jv _ _ x=>x.sl
 | .gx _ x y=>x.sl++y.sl
 | .call _ args=>iY args
 | .fq x args=>x.sl++iY args
 | .gW _ args=>iY args
 | .nilC x=>x.sl
 | .ptrE _ x y=>x.sl++y.sl
 | .max2 x y=>x.sl++y.sl
 | .prim _ xs=>iY xs
 | .b2s x=>x.sl
 | .eO x=>x.sl
 | .jG _ _ _ n=>n.sl
 | .kK=>[]
 | .jF .. =>[]
 | .lk _ _ _ m k=>m.sl++k.sl
 | .j4 _ m k v=>m.sl++(k.sl++v.sl)
 | .lF _ m k=>m.sl++k.sl
 | .kd x=>x.sl
 | .j5 x=>x.sl
 | .ent x=>x.sl
def au.cz(g:au):List Nat:=g.op.cz++(match g.guard with | some (t,_)=>[t] | none=>[])
def bt.fY:bt→Nat
 | .mv _ | .pick .. | .bin .. | .eqv .. | .nilS .. | .conv .. | .un .. | .fl .. | .ix .. | .lenT _ | .bld .. | .ext .. | .mk .. | .nilC _ | .ptrE .. | .max2 .. | .prim .. =>0
 | .ld .. | .fa .. | .ia .. | .is .. | .len _ | .va .. | .bs .. | .sl .. | .cap _ | .bs0 _ | .lk .. | .ent _ | .b2s _=>1
 | .call .. | .fq .. =>2
 | .alloc _ | .box _=>3
 | .aV .. =>4
 | .dM .. | .jM .. | .jv .. | .gx .. | .gW .. | .jG .. | .kK | .jF .. | .j4 .. | .lF .. | .kd _ | .j5 _ | .eO _=>5
def uT(a b:Nat):Bool:=(decide (a≤2)&&decide (b≤3))||(a==0&&b==4)
def mf(g h:au):Bool:=uT g.op.fY h.op.fY&&(match g.dst with
  |some d => !h.cz.contains d&&h.dst != some d
  |none=>true)&&(match h.dst with
  |some d => !g.cz.contains d
  |none=>true)
def dD(A A':ae)(l:List Nat):Prop:=∀ k∈l,A'.t k=A.t k
section
variable {A A':ae}
theorem cH{x:ay}(h:dD A A' x.sl):ah A' x=ah A x:=by
 cases x with
 |t n=>exact h n (by simp[ay.sl])
 |c x=>rfl
theorem dD.l{l m:List Nat}(h:dD A A' (l++m)):dD A A' l:=fun k hk=>h k (List.mem_append_left _ hk)
theorem dD.r{l m:List Nat}(h:dD A A' (l++m)):dD A A' m:=fun k hk=>h k (List.mem_append_right _ hk)
theorem kD:∀ {l:List ay},dD A A' (iY l)→l.map (ah A')=l.map (ah A)
 | [],_=>rfl
 |x::l,h=>by
  simp only[iY,List.flatMap_cons] at h;simp only[zz1,cH h.l,kD (l:=l) h.r]
theorem ox{x:Option ay}(h:dD A A' (sZ x)):x.map (ah A')=x.map (ah A):=by
 cases x with
 |none=>rfl
 |some x=>simp only[zz7,cH (x:=x) h]
theorem AU:∀ {l:List (Nat×ay)},dD A A' (iY (l.map (·.2)))→(l.map fun p=>(p.1,ah A' p.2))=l.map fun p=>(p.1,ah A p.2)
 | [],_=>rfl
 |x::l,h=>by
  simp only[iY,zz1,List.flatMap_cons] at h;simp only[zz1,cH h.l,AU (l:=l) h.r]
theorem qv{f g:I→Option I}(h:∀ x v,f x=some v→g x=some v):∀ {xs vs:List I},ib f xs=some vs→ib g xs=some vs
 | [],vs,hx=>by simpa only[ib] using hx
 |x::xs,vs,hx=>by
  simp only[ib] at hx ⊢;cases h1:f x with
  |none=>rw[h1] at hx;cases hx
  |some y=>cases h2:ib f xs with
   |none=>rw[h1,h2] at hx;cases hx
   |some ys=>rw[h1,h2] at hx;rw[h x y h1,qv h h2];exact hx
theorem vp(hu:dE A A'):∀ (k:Nat) (x v:I),gA A k x=some v→gA A' k x=some v
 |0,_,_,h=>by simp[gA] at h
 |k+1,x,v,h=>by
  have ih:=vp hu k;simp only[gA] at h ⊢;split at h
  ·rename_i hc;rw[if_pos hc];exact h
  ·rename_i hc;rw[if_neg hc];cases x <;>simp only[] at h ⊢ <;>try (cases h;done)
   case agg fs =>
    simp only[t7] at h ⊢;obtain ⟨a,h1,h2⟩:=h;exact ⟨a,qv ih h1,h2⟩
   case func f fs =>
    split at h
    case isFalse hf=>rw[if_neg hf];exact h
    rename_i hf;rw[if_pos hf];simp only[t7] at h ⊢;obtain ⟨a,h1,h2⟩:=h;exact ⟨a,qv ih h1,h2⟩
   case ptr n p =>
    cases hd:bT A (.ptr n p) with
    |none=>rw[hd] at h;cases h
    |some y =>
     rw[hd] at h;rw[iO hu hd];simp only[t7] at h ⊢;obtain ⟨a,h1,h2⟩:=h;exact ⟨a,ih _ _ h1,h2⟩
   case view n p sz lo l =>
    cases hd:bT A (.ptr n p) with
    |none=>rw[hd] at h;cases h
    |some y=>rw[hd] at h;rw[iO hu hd];exact h
   case mref n =>
    cases ho:A.o n with
    |none=>rw[ho] at h;cases h
    |some y =>
     rw[ho] at h;rw[hu n y ho];cases y <;>try (cases h;done)
     simp only at h ⊢;split at h
     ·rename_i hk;rw[if_pos hk];simp only[t7] at h ⊢;obtain ⟨a,h1,h2⟩:=h;exact ⟨a,qv ih h1,h2⟩
     ·cases h
   case own n l =>
    cases ho:A.o n with
    |none=>rw[ho] at h;cases h
    |some y=>rw[ho] at h;rw[hu n y ho];exact h
mutual
theorem A8(hu:dE A A'){aE:Bool} : ∀ {x v:I},bf aE A x=some v→bf aE A' x=some v
 | .ptr n p,v,h=>by
  simp only[bf] at h ⊢;cases aE <;>simp only[zz3,if_false,if_true] at h ⊢
  ·exact h
  ·cases hd:bT A (.ptr n p) with
   |none=>rw[hd] at h;cases h
   |some y =>
    rw[hd] at h;rw[iO hu hd];simp only at h ⊢;split at h
    ·rename_i hc;rw[if_pos hc];exact h
    ·rename_i hc;rw[if_neg hc];simp only[t7] at h ⊢;obtain ⟨a,h1,h2⟩:=h;exact ⟨a,vp hu 9 _ _ h1,h2⟩
 | .mref n,v,h=>by
  simp only[bf] at h ⊢;cases aE <;>simp only[zz3,if_false,if_true] at h ⊢
  ·exact h
  ·cases ho:A.o n with
   |none=>rw[ho] at h;cases h
   |some y =>
    rw[ho] at h;rw[hu n y ho];cases y <;>try (cases h;done)
    simp only at h ⊢;split at h
    ·rename_i hk;rw[if_pos hk];simp only[t7] at h ⊢;obtain ⟨a,h1,h2⟩:=h;exact ⟨a,qv (vp hu 9) h1,h2⟩
    ·cases h
 | .c8 _,_,h=>by simp[bf] at h
 | .da _ _,_,h=>by simpa only[bf] using h
 | .own n k,v,h=>by
  simp only[bf] at h ⊢;cases ho:A.o n with
  |none=>rw[ho] at h;cases h
  |some y=>rw[ho] at h;rw[hu n y ho];exact h
 | .view n p sz lo k,v,h=>by
  simp only[bf] at h ⊢;cases aE <;>simp only[zz3,if_false,if_true] at h ⊢
  ·exact h
  ·cases hd:bT A (.ptr n p) with
   |none=>rw[hd] at h;cases h
   |some y=>rw[hd] at h;rw[iO hu hd];exact h
 | .func f caps,v,h=>by
  simp only[bf] at h ⊢;split at h
  case isFalse hf=>rw[if_neg hf];exact h
  rename_i hf;rw[if_pos hf];simp only[t7] at h ⊢;obtain ⟨a,h1,h2⟩:=h;exact ⟨a,kG hu h1,h2⟩
 | .agg fs,v,h=>by
  simp only[bf,t7] at h ⊢;obtain ⟨a,h1,h2⟩:=h;exact ⟨a,kG hu h1,h2⟩
 | .nils _,_,h | .c0 _,_,h | .tuple _,_,h | .undef,_,h | .dc,_,h | .bool _,_,h | .int _ _,_,h | .ak _,_,h | .nilp,_,h | .di,_,h | .cU,_,h | .any,_,h | .raw _,_,h | .slice _ _,_,h | .ref _,_,h | .iface _ _,_,h=>by simpa only[bf] using h
theorem kG(hu:dE A A'){aE:Bool} : ∀ {xs vs:List I},bJ aE A xs=some vs→bJ aE A' xs=some vs
 | [],vs,h=>by simpa only[bJ] using h
 |x::xs,vs,h=>by
  simp only[bJ] at h ⊢;cases h1:bf aE A x with
  |none=>rw[h1] at h;cases h
  |some y=>cases h2:bJ aE A xs with
   |none=>rw[h1,h2] at h;cases h
   |some ys=>rw[h1,h2] at h;rw[A8 hu h1,kG hu h2];exact h
end
theorem wN{op:bt}(hc:op.fY=0)(h:dD A A' op.cz):aY A' op=aY A op:=by
 cases op <;>simp only[bt.fY] at hc <;>try (cases hc;done)
 all_goals simp only[bt.cz] at h
 case mv x=>simp only[aY,cH h]
 case pick c a b=>simp only[aY,cH h.l,cH h.r.l,cH h.r.r]
 case bin _ x y=>simp only[aY,cH h.l,cH h.r]
 case eqv _ _ x y=>simp only[aY,cH h.l,cH h.r]
 case nilS x=>simp only[aY,cH h]
 case conv x=>simp only[aY,cH h]
 case un x=>simp only[aY,cH h]
 case fl x=>simp only[aY,cH h]
 case ix x i=>simp only[aY,cH h.l,cH h.r]
 case lenT x=>simp only[aY,cH h]
 case bld zs ps=>simp only[aY,AU h]
 case ext x i=>simp only[aY,cH h]
 case mk f caps=>simp only[aY,kD h]
 case nilC x=>simp only[aY,cH h]
 case ptrE neg x y=>simp only[aY,cH h.l,cH h.r]
 case max2 x y=>simp only[aY,cH h.l,cH h.r]
 case prim p xs=>simp only[aY,kD h]
theorem Ww(hu:dE A A'){m:I}{q:List I×List I}(h:gj A m=some q):gj A' m=some q:=by
 cases m with
 |mref n =>
  simp only[gj] at h ⊢;cases hd:A.o n with
  |none=>simp only[hd] at h;cases h
  |some y=>simp only[hd] at h;simp only[hu n y hd];exact h
 |raw v=>cases v <;>first | (cases h;done) | (rename_i m;cases m <;>first | exact h | cases h)
 |da ks vs=>exact h
 |_=>simp only[gj] at h;cases h
theorem Zq(hu:dE A A'){sz:Nat}{x:I}{es:List I}(h:c7 A sz x=some es):c7 A' sz x=some es:=by
 cases x <;>simp only[c7] at h ⊢ <;>try (exact h)
 ·rename_i n l;cases hd:A.o n with
  |none=>rw[hd] at h;cases h
  |some y=>rw[hd] at h;rw[hu n y hd];exact h
 ·rename_i n p z lo k;cases hd:bT A (.ptr n p) with
  |none=>rw[hd] at h;cases h
  |some y=>rw[hd] at h;rw[iO hu hd];exact h
theorem Dc{op:bt}(hu:dE A A')(h:dD A A' op.cz){v:I}(ab:aY A op=some v):aY A' op=some v:=by
 by_cases hc:op.fY=0
 ·rw[wN hc h];exact ab
 cases op <;>try (exact absurd rfl hc)
 all_goals simp only[bt.cz] at h
 case ld s x =>
  simp only[aY,cH h] at ab ⊢;cases hd:bT A (ah A x) with
  |none=>rw[hd] at ab;cases ab
  |some y=>rw[hd] at ab;rw[iO hu hd];exact ab
 case fa f off x =>
  simp only[aY,cH h] at ab ⊢;generalize ah A x=z at *;cases z <;>try (first | exact ab | (rename_i y;cases y <;>exact ab))
  rename_i n p;cases hd:bT A (.ptr n p) with
  |none=>simp only[hd] at ab;cases ab
  |some y=>simp only[hd] at ab;simp only[iO hu hd];exact ab
 case ia n esz x i =>
  simp only[aY,cH h.l,cH h.r] at ab ⊢;generalize ah A x=z at *;cases z <;>try (first | exact ab | (rename_i y;cases y <;>exact ab))
  rename_i n p;cases hd:bT A (.ptr n p) with
  |none=>simp only[hd] at ab;(repeat' split at ab) <;>cases ab
  |some y=>simp only[hd] at ab;simp only[iO hu hd];exact ab
 case is esz x i =>
  simp only[aY,cH h.l,cH h.r] at ab ⊢;generalize ah A i=q at *;cases q <;>try (exact ab)
  simp only at ab ⊢;generalize ah A x=z at *;cases z <;>try (first | exact ab | (rename_i y;cases y <;>exact ab))
  ·rename_i n p;cases hd:A.o n with
   |none=>simp only[hd] at ab;cases ab
   |some y=>simp only[hd] at ab;simp only[hu n y hd];exact ab
  ·rename_i n p sz lo k;simp only at ab ⊢;cases hd:bT A (.ptr n p) with
   |none=>simp only[hd] at ab;cases ab
   |some y=>simp only[hd] at ab;simp only[iO hu hd];exact ab
 case len x =>
  simp only[aY,cH h] at ab ⊢;generalize ah A x=z at *;cases z <;>try (first | exact ab | (rename_i y;cases y <;>exact ab))
  rename_i n p;cases hd:A.o n with
  |none=>simp only[hd] at ab;cases ab
  |some y=>simp only[hd] at ab;simp only[hu n y hd];exact ab
 case cap x =>
  simp only[aY,cH h] at ab ⊢;generalize ah A x=z at *;cases z <;>try (first | exact ab | (rename_i y;cases y <;>exact ab))
  rename_i n p sz lo k;simp only at ab ⊢;cases hd:bT A (.ptr n p) with
  |none=>simp only[hd] at ab;cases ab
  |some y=>simp only[hd] at ab;simp only[iO hu hd];exact ab
 case bs0 esz=>exact ab
 case sl esz x lo hi mx =>
  simp only[aY,cH h.l,ox h.r.l,ox h.r.r.l,ox h.r.r.r] at ab ⊢;generalize ah A x=z at *;cases z <;>try (first | exact ab | (rename_i y;cases y <;>exact ab))
  rename_i n p sz l0 k;simp only at ab ⊢;cases hd:bT A (.ptr n p) with
  |none=>simp only[hd] at ab;cases ab
  |some y=>simp only[hd] at ab;simp only[iO hu hd];exact ab
 case va n esz x =>
  simp only[aY,cH h] at ab ⊢;generalize ah A x=z at *;cases z <;>try (first | exact ab | (rename_i y;cases y <;>exact ab))
  rename_i n p;cases hd:bT A (.ptr n p) with
  |none=>simp only[hd] at ab;cases ab
  |some y=>simp only[hd] at ab;simp only[iO hu hd];exact ab
 case lk ty z ok m k =>
  simp only[aY,cH h.l,cH h.r] at ab ⊢;cases hd:gj A (ah A m) with
  |none=>rw[hd] at ab;cases ab
  |some y=>rw[hd] at ab;rw[Ww hu hd];exact ab
 case ent x =>
  simp only[aY,cH h] at ab ⊢;generalize ah A x=z at *;cases z <;>try (exact ab)
  rename_i n;simp only at ab ⊢;cases hd:A.o n with
  |none=>simp only[hd] at ab;cases ab
  |some y=>simp only[hd] at ab;simp only[hu n y hd];exact ab
 case b2s x =>
  simp only[aY,cH h] at ab ⊢;cases hd:c7 A 1 (ah A x) with
  |none=>rw[hd] at ab;cases ab
  |some y=>rw[hd] at ab;rw[Zq hu hd];exact ab
 case bs esz ps =>
  simp only[aY,kD h] at ab ⊢;cases hd:bJ false A (ps.map (ah A)) with
  |none=>rw[hd] at ab;cases ab
  |some y=>rw[hd] at ab;rw[kG hu hd];exact ab
 all_goals (simp only[aY] at ab;cases ab)
end
def pass(A:ae)(g:au):Prop:=match g.guard with | none=>True | some (t,b)=>A.t t=.bool b
def fP(A:ae)(g:au):Prop:=match g.guard with | none=>False | some (t,b)=>A.t t=.bool (!b)∨A.t t=.undef
inductive jc (P:Program) (A:ae):bt→I→Prop where
 |pure {op:bt} {v:I} : aY A op=some v→jc P A op v
 |flat {f:FuncId} {args:List ay} {cargs:List I} {r:I} : bJ true A (args.map (ah A))=some cargs→aS P f cargs r→r.flat=true→jc P A (.call f args) r
 |lead {f:FuncId} {args:List ay} {cargs:List I} {r:I} : bJ false A (args.map (ah A))=some cargs→aS P f cargs r→jc P A (.call f args) r
 |tV {x:ay} {f:FuncId} {caps:List I} {args:List ay} {cargs:List I} {r:I} : ah A x=.func f caps→bJ true A (hE f (args.map (ah A)) caps)=some cargs→aS P (kE f) cargs r→r.flat=true→jc P A (.fq x args) r
 |tW {x:ay} {f:FuncId} {caps:List I} {args:List ay} {cargs:List I} {r:I} : ah A x=.func f caps→bJ false A (hE f (args.map (ah A)) caps)=some cargs→aS P (kE f) cargs r→jc P A (.fq x args) r
def ry(A:ae)(op:bt)(x:I):Prop:=op=.alloc x∨∃ y,op=.box y∧(ah A y).cC=true∧x=ah A y
def rz(A:ae)(op:bt)(n:Nat)(z:aj):Prop:=∃ s x v p b old,op=.aV s x v∧ah A x=.ptr n p∧A.o n=some (.box b)∧b.at p=some old∧wC s (ah A v) old∧z=.box (b.dI p (ah A v))
def GD(A:ae)(dst:Option Nat)(op:bt)(B:ae):Prop:=op.fY=5∧∀ (rest:List au) (k:ae→bZ),aX A dst op rest k=k B
theorem ZI{A:ae}{neg:Bool}{x:ay}{v:I}(h:aY A (.nilS neg x)=some v):jm (ah A x)=false:=by
 simp only[aY] at h;generalize ah A x=q at *;cases q <;>simp only[jm] <;>simp only at h <;>try (cases h;done)
 rename_i sz es;cases es with
 |nil=>simp at h
 |cons=>rfl
inductive eK (P:Program) (g:au) (A:ae):ae→Prop where
 |skip:fP A g→eK P g A (A.aP g.dst .undef)
 |val {v:I} : pass A g→jc P A g.op v→eK P g A (A.aP g.dst v)
 |iR {d:Nat} {x:I} : pass A g→g.dst=some d→ry A g.op x→A.o d=none→eK P g A ((A.aQ d (.box x)).put d (.ptr d []))
 |aV {n:Nat} {z:aj} : pass A g→g.dst=none→rz A g.op n z→eK P g A (A.aQ n z)
 |ga {B:ae} : pass A g→GD A g.dst g.op B→eK P g A B
theorem uI{b' b:Bool}(h:b'≠b):b' = !b:=by cases b <;>cases b' <;>simp_all
section
variable {P:Program} {Y:Value→List I→List (Nat×aj)→b9→Prop} {K:ae→Prop}
theorem eK.CF{A:ae}{g:au}{rest:List au}(hp:pass A g)(h:aZ P Y true K (aX A g.dst g.op rest (al rest))):∃ B,eK P g A B∧aZ P Y true K (al rest B):=by
 have pure:aZ P Y true K (cq (aY A g.op) fun v=>al rest (A.aP g.dst v))→∃ B,eK P g A B∧aZ P Y true K (al rest B):=by
  intro h;cases ab:aY A g.op with
  |none=>rw[ab] at h;cases h
  |some v=>rw[ab] at h;exact ⟨_,.val hp (.pure ab),h⟩
 obtain ⟨dst,op,gd⟩:=g;cases op with
 |alloc z =>
  simp only[aX] at h;split at h
  case h_2=>cases h
  split at h
  case h_2=>cases h
  rename_i hd _ ho;exact ⟨_,.iR hp rfl (.inl rfl) ho,h⟩
 |box x =>
  simp only[aX] at h;split at h
  case h_2=>cases h
  split at h
  case h_2=>cases h
  rename_i hd _ ho;split at h
  case isFalse=>cases h
  rename_i ab;exact ⟨_,.iR hp rfl (.inr ⟨x,rfl,ab,rfl⟩) ho,h⟩
 |aV s x v =>
  simp only[aX] at h;split at h
  case h_2=>cases h
  split at h
  case h_2=>cases h
  rename_i n p hx;split at h
  case h_2=>cases h
  rename_i b hb;split at h
  case h_2=>cases h
  rename_i old hat;split at h
  case isFalse=>cases h
  rename_i hok;exact ⟨_,.aV hp rfl ⟨s,x,v,p,b,old,rfl,hx,hb,hat,hok,rfl⟩,h⟩
 |nilS neg x =>
  simp only[aX] at h;split at h
  ·cases h with | any hdr=>cases hdr
  ·exact pure h
 |dM e esz bytes z s x =>
  simp only[aX] at h;split at h
  ·rename_i n l hs';split at h
   case h_2=>cases h
   rename_i sz ys hx';split at h
   case h_3=>cases h
   case h_2 =>
    rename_i T xs hn;split at h
    case isFalse=>cases h
    rename_i hok;exact ⟨_,.ga hp ⟨rfl,fun rest k=>by simp only[aX,hs',hx',hn,if_pos hok]⟩,h⟩
   rename_i T sz' es hn;split at h
   case isFalse=>cases h
   rename_i hok;exact ⟨_,.ga hp ⟨rfl,fun rest k=>by simp only[aX,hs',hx',hn,if_pos hok]⟩,h⟩
  ·rename_i hno;have hg:∀ (rest:List au) (k:ae→bZ),aX A dst (.dM e esz bytes z s x) rest k=ep A dst esz bytes z (ah A s) (c7 A esz (ah A s)) (c7 A esz (ah A x)) k:=fun rest k=>by
    simp only[aX]
   simp only[ep] at h hg;split at h
   case h_2=>cases h
   rename_i es ys hse hsx;simp only[hse,hsx] at hg;have grow:¬ aZ P Y true K (fb A dst esz bytes z es ys (al rest)):=fun h=>by
    simp only[fb] at h;split at h
    case h_2=>cases h
    split at h
    case h_2=>cases h
    split at h
    case isFalse=>cases h
    cases h with | any hdr=>cases hdr
   split at h
   ·rename_i hne;simp only[if_pos hne] at hg;exact ⟨_,.ga hp ⟨rfl,hg⟩,h⟩
   ·rename_i hne;simp only[if_neg hne] at hg;split at h
    ·exact absurd h grow
    ·exact absurd h grow
    ·rename_i n p sz lo l hsv;split at h
     case h_2=>cases h
     rename_i b hn;split at h
     case h_2=>cases h
     rename_i fs hat;split at h
     ·rename_i hroom;split at h
      case isFalse=>cases h
      rename_i hok;simp only[hsv,hn,hat,if_pos hroom,if_pos hok] at hg;exact ⟨_,.ga hp ⟨rfl,hg⟩,h⟩
     ·exact absurd h grow
    ·cases h
 |gW f args =>
  simp only[aX] at h;cases h with | ext r hdr=>cases hdr
 |jM e esz bytes z s n =>
  exfalso
  simp only[aX] at h;split at h
  case h_2=>cases h
  simp only[pN] at h;split at h
  case h_2=>cases h
  split at h
  case h_2=>cases h
  split at h
  case h_2=>cases h
  split at h
  case h_2=>cases h
  split at h
  case isFalse=>cases h
  simp only[fb] at h;split at h
  case h_2=>cases h
  split at h
  case h_2=>cases h
  split at h
  case isFalse=>cases h
  cases h with | any hdr=>cases hdr
 |kK =>
  simp only[aX] at h;split at h
  case h_2=>cases h
  rename_i d;split at h
  case h_2=>cases h
  rename_i hf;exact ⟨_,.ga hp ⟨rfl,fun rest k=>by simp only[aX,hf]⟩,h⟩
 |jF e sz =>
  simp only[aX] at h;split at h
  case h_2=>cases h
  rename_i d;split at h
  case h_2=>cases h
  rename_i hf;exact ⟨_,.ga hp ⟨rfl,fun rest k=>by simp only[aX,hf]⟩,h⟩
 |jG e bytes z n =>
  simp only[aX] at h;split at h
  case h_2=>cases h
  rename_i d;split at h
  case h_2=>cases h
  rename_i hf;split at h
  case h_2=>cases h
  rename_i k m hn;split at h
  case isFalse=>cases h
  rename_i hc;exact ⟨_,.ga hp ⟨rfl,fun rest k=>by simp only[aX,hf,hn,if_pos hc]⟩,h⟩
 |j4 ty m key v =>
  simp only[aX] at h;split at h
  case h_2=>cases h
  split at h
  case h_2=>cases h
  rename_i n hm;split at h
  case h_2=>cases h
  rename_i ks vs hn;split at h
  case h_2=>cases h
  rename_i ks' vs' hl;exact ⟨_,.ga hp ⟨rfl,fun rest k=>by simp only[aX,hm,hn,hl]⟩,h⟩
 |lF ty m key =>
  simp only[aX] at h;split at h
  case h_2=>cases h
  split at h
  case h_2=>cases h
  rename_i n hm;split at h
  case h_2=>cases h
  rename_i ks vs hn;split at h
  case h_2=>cases h
  rename_i ks' vs' hl;exact ⟨_,.ga hp ⟨rfl,fun rest k=>by simp only[aX,hm,hn,hl]⟩,h⟩
 |kd x =>
  simp only[aX] at h;split at h
  case h_2=>cases h
  rename_i d;split at h
  case h_2=>cases h
  rename_i hf;split at h
  case h_2=>cases h
  rename_i ks vs hx;exact ⟨_,.ga hp ⟨rfl,fun rest k=>by simp only[aX,hf,hx]⟩,h⟩
 |j5 x =>
  simp only[aX] at h;split at h
  case h_2=>cases h
  rename_i n hx;split at h
  case h_2=>cases h
  rename_i ks vs left cur hn;split at h
  ·rename_i hl;exact ⟨_,.ga hp ⟨rfl,fun rest k=>by simp only[aX,hx,hn,if_pos hl]⟩,h⟩
  ·cases h with | any hdr=>cases hdr
 |jv esz z x =>
  simp only[aX] at h;split at h
  case h_2=>cases h
  have hg:∀ (rest:List au) (k:ae→bZ),aX A none (.jv esz z x) rest k=oj A esz z k (ah A x):=fun rest k=>rfl;simp only[oj] at h hg;split at h
  ·rename_i n p sz lo l ab;split at h
   case h_2=>cases h
   rename_i b hn;split at h
   case h_2=>cases h
   rename_i fs hat;split at h
   case isFalse=>cases h
   rename_i hok;simp only[ab,hn,hat,if_pos hok] at hg;exact ⟨_,.ga hp ⟨rfl,hg⟩,h⟩
  ·rename_i z0 ab;simp only[ab] at hg;exact ⟨_,.ga hp ⟨rfl,hg⟩,h⟩
  ·rename_i z0 ab;simp only[ab] at hg;exact ⟨_,.ga hp ⟨rfl,hg⟩,h⟩
  ·cases h
 |gx esz x y =>
  have hg:∀ (rest:List au) (k:ae→bZ),aX A dst (.gx esz x y) rest k=ku A dst esz k (ah A x) (kg A esz (ah A y)):=fun rest k=>rfl;simp only[aX] at h;simp only[ku] at h hg;split at h
  ·rename_i n p sz lo l ys ab hsx;split at h
   case h_2=>cases h
   rename_i b hn;split at h
   case h_2=>cases h
   rename_i fs hat;split at h
   case isFalse=>cases h
   rename_i hok;simp only[ab,hsx,hn,hat,if_pos hok] at hg;exact ⟨_,.ga hp ⟨rfl,hg⟩,h⟩
  ·rename_i z0 ys ab hsx;simp only[ab,hsx] at hg;exact ⟨_,.ga hp ⟨rfl,hg⟩,h⟩
  ·cases h
 |eO x =>
  simp only[aX] at h;unfold iF at h;split at h
  case h_2=>cases h
  split at h
  case h_2=>cases h
  split at h
  case h_2=>cases h
  cases h with | any hdr=>cases hdr
 |call f args =>
  simp only[aX] at h;generalize h1:bJ true A (args.map (ah A))=a1 at h;generalize h2:bJ false A (args.map (ah A))=a2 at h;cases h with
  |flat r hc hf hw=>exact ⟨_,.val hp (.flat h1 hc hf),hw⟩
  |lead r hc hw=>exact ⟨_,.val hp (.lead h2 hc),hw⟩
  |jV ns r hdr=>cases hdr
  |bD aE ρ os cargs post hdr=>cases hdr
 |fq x args =>
  simp only[aX] at h;split at h
  case h_3=>cases h
  case h_2=>cases h with | tY os cargs post hdr=>cases hdr
  rename_i f caps hx;generalize h1:bJ true A (hE f (args.map (ah A)) caps)=a1 at h;generalize h2:bJ false A (hE f (args.map (ah A)) caps)=a2 at h;cases h with
  |flat r hc hf hw=>exact ⟨_,.val hp (.tV hx h1 hc hf),hw⟩
  |lead r hc hw=>exact ⟨_,.val hp (.tW hx h2 hc),hw⟩
  |jV ns r hdr=>cases hdr
  |bD aE ρ os cargs post hdr=>cases hdr
 |_=>exact pure (by simpa only[aX] using h)
theorem eK.wv{A:ae}{g:au}{rest:List au}(h:aZ P Y true K (al (g::rest) A)):∃ B,eK P g A B∧aZ P Y true K (al rest B):=by
 simp only[al] at h;split at h
 ·rename_i hg;exact eK.CF (by simp only[pass,hg]) h
 ·rename_i t b hg;split at h
  ·rename_i b' hb;split at h
   ·rename_i hbb;subst hbb;exact eK.CF (by simp only[pass,hg];exact hb) h
   ·rename_i hbb;refine ⟨_,.skip (by simp only[fP,hg];exact .inl (by rw[hb,uI hbb])),h⟩
  ·rename_i hb;exact ⟨_,.skip (by simp only[fP,hg];exact .inr hb),h⟩
  ·cases h
theorem mN{A:ae}{g:au}{rest:List au}(hp:pass A g):al (g::rest) A=aX A g.dst g.op rest (al rest):=by
 simp only[al];cases hg:g.guard with
 |none=>rfl
 |some tb =>
  obtain ⟨t,b⟩:=tb;simp only[pass,hg] at hp;simp only[hp,if_true]
theorem eK.xI{A B:ae}{g:au}{rest:List au}(h:eK P g A B)(hw:aZ P Y true K (al rest B)):aZ P Y true K (al (g::rest) A):=by
 cases h with
 |skip hn =>
  simp only[al];cases hg:g.guard with
  |none=>simp only[fP,hg] at hn
  |some tb =>
   obtain ⟨t,b⟩:=tb;simp only[fP,hg] at hn;rcases hn with hn | hn
   ·simp only[hn];rw[if_neg (by cases b <;>simp)];exact hw
   ·simp only[hn];exact hw
 |val hp ab =>
  rw[mN hp];obtain ⟨dst,op,gd⟩:=g;cases ab with
  |pure ab =>
   have hv':aY A op=some _:=ab;cases op <;>try (simp only[aX,hv',cq] <;>first | exact hw | (simp only[aY] at hv';cases hv');done)
   all_goals first
    |(simp only[aY] at hv';cases hv';done)
    |(simp only[aX,ZI hv',zz3,if_false,hv',cq];exact hw)
  |flat h1 h2 h3=>simp only[aX,h1];exact .flat _ h2 h3 hw
  |lead h1 h2=>simp only[aX,h1];exact .lead _ h2 hw
  |tV h0 h1 h2 h3=>simp only[aX,h0,h1];exact .flat _ h2 h3 hw
  |tW h0 h1 h2=>simp only[aX,h0,h1];exact .lead _ h2 hw
 |iR hp hd hm ho =>
  rw[mN hp];obtain ⟨dst,op,gd⟩:=g;simp only at hd;subst hd;rcases hm with hm | ⟨y,hm,ab,rfl⟩ <;>simp only at hm <;>subst hm
  ·simp only[aX,ho];exact hw
  ·simp only[aX,ho,ab,if_true];exact hw
 |aV hp hd hm =>
  rw[mN hp];obtain ⟨dst,op,gd⟩:=g;simp only at hd;subst hd;obtain ⟨s,x,v,p,b,old,h1,h2,h3,h4,h5,rfl⟩:=hm;simp only at h1;subst h1;simp only[aX,h2,h3,h4,if_pos h5];exact hw
 |ga hp hm =>
  rw[mN hp,hm.2];exact hw
theorem jc.cE{A A':ae}{op:bt}{v:I}(h:jc P A op v)(hu:dE A A')(ha:dD A A' op.cz):jc P A' op v:=by
 cases h with
 |pure h=>exact .pure (Dc hu ha h)
 |flat h1 h2 h3=>exact .flat (by rw[kD ha];exact kG hu h1) h2 h3
 |lead h1 h2=>exact .lead (by rw[kD ha];exact kG hu h1) h2
 |tV h0 h1 h2 h3=>simp only[bt.cz] at ha;exact .tV (by rw[cH ha.l];exact h0) (by rw[kD ha.r];exact kG hu h1) h2 h3
 |tW h0 h1 h2=>simp only[bt.cz] at ha;exact .tW (by rw[cH ha.l];exact h0) (by rw[kD ha.r];exact kG hu h1) h2
theorem jc.jV{A A':ae}{op:bt}{v:I}(h:jc P A op v)(hc:op.fY=0)(ha:dD A A' op.cz):jc P A' op v:=by
 cases h with
 |pure h=>exact .pure (by rw[wN hc ha];exact h)
 |_=>simp[bt.fY] at hc
theorem mw{A A':ae}{g:au}(ha:dD A A' g.cz)(h:pass A g):pass A' g:=by
 unfold pass at *;cases hg:g.guard with
 |none=>trivial
 |some tb=>simp only[hg] at h ⊢;rw[ha tb.1 (by simp[au.cz,hg])];exact h
theorem oU{A A':ae}{g:au}(ha:dD A A' g.cz)(h:fP A g):fP A' g:=by
 unfold fP at *;cases hg:g.guard with
 |none=>simp only[hg] at h
 |some tb=>simp only[hg] at h ⊢;rw[ha tb.1 (by simp[au.cz,hg])];exact h
theorem au.jj{A A':ae}{g:au}(ha:dD A A' g.cz):dD A A' g.op.cz:=fun k hk=>ha k (List.mem_append_left _ hk)
def kl(P:Program)(g:au)(A:ae)(v:I):Prop:=(fP A g∧v=.undef)∨(pass A g∧jc P A g.op v)
theorem kl.step{A:ae}{g:au}{v:I}(h:kl P g A v):eK P g A (A.aP g.dst v):=by
 rcases h with ⟨h,rfl⟩ | ⟨h,k⟩
 ·exact .skip h
 ·exact .val h k
theorem kl.cE{A A':ae}{g:au}{v:I}(h:kl P g A v)(hu:dE A A')(ha:dD A A' g.cz):kl P g A' v:=by
 rcases h with ⟨h,rfl⟩ | ⟨h,k⟩
 ·exact .inl ⟨oU ha h,rfl⟩
 ·exact .inr ⟨mw ha h,k.cE hu (au.jj ha)⟩
theorem kl.jV{A A':ae}{g:au}{v:I}(h:kl P g A v)(hc:g.op.fY=0)(ha:dD A A' g.cz):kl P g A' v:=by
 rcases h with ⟨h,rfl⟩ | ⟨h,k⟩
 ·exact .inl ⟨oU ha h,rfl⟩
 ·exact .inr ⟨mw ha h,k.jV hc (au.jj ha)⟩
theorem eK.iq{A B:ae}{g:au}(h:eK P g A B)(hc:g.op.fY≤2):∃ v,kl P g A v∧B=A.aP g.dst v:=by
 cases h with
 |skip h=>exact ⟨_,.inl ⟨h,rfl⟩,rfl⟩
 |val h k=>exact ⟨_,.inr ⟨h,k⟩,rfl⟩
 |iR h1 h2 h3 h4=>rcases h3 with h3 | ⟨y,h3,_⟩ <;>(rw[h3] at hc;simp[bt.fY] at hc)
 |aV h1 h2 h3=>obtain ⟨s,x,v,p,b,old,h4,_⟩:=h3;rw[h4] at hc;simp[bt.fY] at hc
 |ga h1 h3=>rw[h3.1] at hc;omega
theorem pc{A:ae}{a b:Option Nat}{v u:I}(h:∀ d,a=some d→b≠some d):(A.aP a v).aP b u=(A.aP b u).aP a v:=by
 cases a with
 |none=>rfl
 |some d=>cases b with
  |none=>rfl
  |some e =>
   have hne:d≠e:=fun he=>h d rfl (by rw[he]);simp only[ae.aP,ae.put,ae.mk.injEq,and_true]
   funext k
   by_cases h1:k=e <;>by_cases h2:k=d <;>simp_all
theorem gR{A:ae}{d:Option Nat}{v:I} : (A.aP d v).o=A.o:=by cases d <;>rfl
theorem lH{A:ae}{d:Option Nat}{v:I}{l:List Nat}(h:∀ k,d=some k→k∉l):dD A (A.aP d v) l:=by
 cases d with
 |none=>exact fun _ _=>rfl
 |some e =>
  intro k hk;have:k≠e:=fun he=>h e rfl (he▸hk);simp[ae.aP,ae.put,this]
theorem dD.symm{A A':ae}{l:List Nat}(h:dD A A' l):dD A' A l:=fun k hk=>(h k hk).symm
theorem ry.same{A A':ae}{op:bt}{x:I}(h:ry A op x)(ha:dD A A' op.cz):ry A' op x:=by
 rcases h with h | ⟨y,h1,h2,h3⟩
 ·exact .inl h
 ·subst h1;have:=cH (x:=y) ha;exact .inr ⟨y,rfl,by rw[this];exact h2,by rw[this];exact h3⟩
theorem rz.same{A A':ae}{op:bt}{n:Nat}{z:aj}(h:rz A op n z)(ho:A'.o=A.o)(ha:dD A A' op.cz):rz A' op n z:=by
 obtain ⟨s,x,v,p,b,old,h1,h2,h3,h4,h5,h6⟩:=h;subst h1;simp only[bt.cz] at ha;have e1:=cH ha.l;have e2:=cH ha.r;exact ⟨s,x,v,p,b,old,rfl,by rw[e1];exact h2,by rw[ho];exact h3,h4,by rw[e2];exact h5,by rw[e2];exact h6⟩
theorem VG{g h:au}(hi:mf g h=true):uT g.op.fY h.op.fY=true∧(∀ d,g.dst=some d→d∉h.cz)∧(∀ d,g.dst=some d→h.dst≠some d)∧(∀ d,h.dst=some d→d∉g.cz):=by
 simp only[mf,Z7] at hi;obtain ⟨⟨h1,h2⟩,h3⟩:=hi;refine ⟨h1,fun d hd =>?_,fun d hd =>?_,fun d hd =>?_⟩
 ·rw[hd] at h2;simp at h2;exact h2.1
 ·rw[hd] at h2;simp at h2;exact h2.2
 ·rw[hd] at h3;simpa using h3
theorem eK.rh{A B C:ae}{g h:au}(hi:mf g h=true)(h1:eK P g A B)(h2:eK P h B C):∃ B',eK P h A B'∧eK P g B' C:=by
 obtain ⟨hc,i1,i2,i3⟩:=VG hi;simp only[uT,Bool.or_eq_true,Z7,decide_eq_true_eq,beq_iff_eq] at hc;have hg2:g.op.fY≤2:=by rcases hc with hc | hc <;>omega
 obtain ⟨v,ab,rfl⟩:=h1.iq hg2;have ag:dD (A.aP g.dst v) A h.cz:=(lH i1).symm;have cE:dE (A.aP g.dst v) A:=fun n x hx=>by rwa [gR] at hx
 cases h2 with
 |skip hn =>
  exact ⟨_,.skip (oU ag hn),by
   rw[pc i2];exact (ab.cE (by intro n x hx;rwa [gR]) (lH i3)).step⟩
 |val hp hu =>
  exact ⟨_,.val (mw ag hp) (hu.cE cE (au.jj ag)),by
   rw[pc i2];exact (ab.cE (by intro n x hx;rwa [gR]) (lH i3)).step⟩
 |iR hp hd hm ho =>
  rename_i d x;rw[gR] at ho;refine ⟨_,.iR (mw ag hp) hd (hm.same (au.jj ag)) ho,?_⟩;have e:((A.aP g.dst v).aQ d (.box x)).put d (.ptr d [])=((A.aQ d (.box x)).put d (.ptr d [])).aP g.dst v:=by
   cases hgd:g.dst with
   |none=>rfl
   |some e =>
    have hne:e≠d:=fun he=>i2 e hgd (by rw[hd,he]);simp only[ae.aP,ae.put,ae.aQ,ae.mk.injEq,and_true]
    funext k
    by_cases h1:k=e <;>by_cases h2:k=d <;>simp_all
  rw[e];refine (ab.cE (fun n y hy =>?_) (fun k hk =>?_)).step
  ·have:n≠d:=fun he=>by rw[he,ho] at hy;cases hy
   simp only[ae.put,ae.aQ,this,if_false];exact hy
  ·have:k≠d:=fun he=>i3 d hd (he▸hk);simp only[ae.put,ae.aQ,this,if_false]
 |aV hp hd hm =>
  rename_i n z;have hc0:g.op.fY=0:=by
   obtain ⟨s,x,v,p,b,old,h4,_⟩:=hm;rcases hc with hc | hc
   ·rw[h4] at hc;exact absurd hc.2 (by simp[bt.fY])
   ·exact hc.1
  refine ⟨_,.aV (mw ag hp) hd (hm.same gR.symm (au.jj ag)),?_⟩;have e:(A.aP g.dst v).aQ n z=(A.aQ n z).aP g.dst v:=by cases g.dst <;>rfl
  rw[e];exact (kl.jV (A':=A.aQ n z) ab hc0 (fun _ _=>rfl)).step
 |ga hp hm =>
  exfalso
  rw[hm.1] at hc;omega
theorem aZ.rh{A:ae}{g h:au}{rest:List au}(hi:mf g h=true)(hw:aZ P Y true K (al (g::h::rest) A)):aZ P Y true K (al (h::g::rest) A):=by
 obtain ⟨B,h1,h2⟩:=eK.wv hw;obtain ⟨C,h3,h4⟩:=eK.wv h2;obtain ⟨B',h5,h6⟩:=eK.rh hi h1 h3;exact h5.xI (h6.xI h4)
theorem aZ.pS{g:au} : ∀ {l:List au} {r:List au} {A:ae},(∀ j∈l,mf j g=true)→aZ P Y true K (al (l++g::r) A)→aZ P Y true K (al (g::(l++r)) A)
 | [],r,A,_,h=>h
 |j::l,r,A,hi,h=>by
  obtain ⟨B,h1,h2⟩:=eK.wv (g:=j) (rest:=l++g::r) h;have h3:=aZ.pS (l:=l) (r:=r) (fun k hk=>hi k (by simp[hk])) h2;exact aZ.rh (hi j (by simp)) (h1.xI h3)
end
def dT(o:Oper):List Nat:=(o.after.toList.filter fun e=>Region.binds .any e).map (·.on)
def nQ(cl:List Nat):List Nat→Nat
 | []=>0
 |k::ks=>(2^k ||| cl.getD k 0) ||| nQ cl ks
def rX(on:List (List Nat))(gs:List au)(cl:List Nat):Bool :=
 (List.range gs.length).all fun i=>(on.getD i []).all (fun k=>decide (k<i))&&Nat.beq (cl.getD i 0) (nQ cl (on.getD i [])) &&
  (List.range i).all fun j=>(cl.getD i 0).testBit j||mf (gs.getD j default) (gs.getD i default)
theorem xL{cl:List Nat}{j:Nat} : ∀ {l:List Nat},(nQ cl l).testBit j=true→j∈l∨∃ k∈l,(cl.getD k 0).testBit j=true
 | [],h=>by simp[nQ] at h
 |k::ks,h=>by
  simp only[nQ,Nat.testBit_or,Bool.or_eq_true,Nat.testBit_two_pow,decide_eq_true_eq] at h;rcases h with (h | h) | h
  ·exact .inl (by simp[h])
  ·exact .inr ⟨k,by simp,h⟩
  ·rcases xL h with h | ⟨m,h1,h2⟩
   ·exact .inl (by simp[h])
   ·exact .inr ⟨m,by simp[h1],h2⟩
structure uc (l:List Oper) (gs:List au):Prop where
 ln:∀ i o,l[i]?=some o→∀ k∈dT o,k<i
 vJ:∀ (S:Nat→Prop),(∀ i o,l[i]?=some o→S i→∀ k∈dT o,S k)→∀ i o g j,l[i]?=some o→gs[i]?=some g→(∀ k∈dT o,S k)→j<i→¬ S j→mf (gs.getD j default) g=true
theorem Mk{l:List Oper}{gs:List au}{cl:List Nat}(hlen:gs.length=l.length)(h:rX (l.map dT) gs cl=true):uc l gs:=by
 simp only[rX,zx8,List.mem_range] at h;have bp:∀ i o,l[i]?=some o→∃ g,gs[i]?=some g∧(∀ k∈dT o,k<i)∧(∀ j,(cl.getD i 0).testBit j=true→j∈dT o∨∃ k∈dT o,(cl.getD k 0).testBit j=true)∧∀ j,j<i→(cl.getD i 0).testBit j=true∨mf (gs.getD j default) g=true:=by
  intro i o ho;have hi:i<l.length:=(zz6.1 ho).1;have h1:=h i (by omega);have hon:(l.map dT).getD i []=dT o:=by simp[zy9,ho]
  have hgi:i<gs.length:=by omega
  have hg:gs[i]?=some gs[i]:=zy0 hgi;have hgd:gs.getD i default=gs[i]:=by simp[zy9,hg]
  rw[hon,hgd] at h1;simp only[Z7,zx8,decide_eq_true_eq,Bool.or_eq_true,List.mem_range] at h1;have hb:=Nat.eq_of_beq_eq_true h1.1.2;exact ⟨_,hg,h1.1.1,fun j hj=>xL (by rw[←hb];exact hj),h1.2⟩
 refine ⟨fun i o ho=>(bp i o ho).choose_spec.2.1,?_⟩;intro S hS i o g j ho hg hon hj hnj;have key:∀ n i o,i≤n→l[i]?=some o→(∀ k∈dT o,S k)→∀ j,(cl.getD i 0).testBit j=true→S j:=by
  intro n
  induction n with
  |zero =>
   intro i o hi ho hon j hj;obtain ⟨g,_,h1,h2,_⟩:=bp i o ho;rcases h2 j hj with h | ⟨k,hk,_⟩
   ·exact hon j h
   ·have:=h1 k hk;omega
  |succ n ih =>
   intro i o hi ho hon j hj;obtain ⟨g,_,h1,h2,_⟩:=bp i o ho;rcases h2 j hj with h | ⟨k,hk,hjk⟩
   ·exact hon j h
   ·have hki:=h1 k hk;have hkl:k<l.length:=Nat.lt_trans hki (zz6.1 ho).1;obtain ⟨ok,hok⟩:∃ ok,l[k]?=some ok:=⟨l[k],zy0 hkl⟩
    exact ih k ok (by omega) hok (hS k ok hok (hon k hk)) j hjk
 obtain ⟨g',hg',_,_,h3⟩:=bp i o ho;rw[hg,v6] at hg';subst hg';rcases h3 j hj with h | h
 ·exact absurd (key i i o (zz2 _) ho hon j h) hnj
 ·exact h
def iD(listed:Array Bool)(n:Nat):List Nat:=(List.range n).filter fun i => !listed.getD i true
def nu(gs:List au)(listed:Array Bool)(n:Nat):List au:=(iD listed n).map fun i=>gs.getD i default
theorem Em{i n:Nat}(h:i<n):List.range n=List.range i++i::(List.range (n-(i+1))).map (i+1 + ·):=by
 conv=>lhs;rw[show n=(i+1)+(n-(i+1)) by omega,List.range_add]
 rw[List.range_succ];simp
theorem YC{listed:Array Bool}{i n:Nat}(h:i<n)(hs:listed.size=n)(hu:listed.getD i true=false):∃ l1 l2,iD listed n=l1++i::l2∧iD (listed.setIfInBounds i true) n=l1++l2∧∀ j∈l1,j<i∧listed.getD j true=false:=by
 have same:∀ j,j≠i→(listed.setIfInBounds i true).getD j true=listed.getD j true:=fun j hj=>getD_set_ne true (Ne.symm hj);have jY:(listed.setIfInBounds i true).getD i true=true:=by simp[hs,h]
 refine ⟨(List.range i).filter fun j => !listed.getD j true,((List.range (n-(i+1))).map (i+1 + ·)).filter fun j => !listed.getD j true,?_,?_,?_⟩
 ·simp only[iD];rw[Em h,List.filter_append,List.filter_cons];simp only[hu,Bool.not_false,if_true]
 ·simp only[iD];rw[Em h,List.filter_append,List.filter_cons];simp only[jY,Bool.not_true,zz3,if_false]
  congr 1
  ·refine List.filter_congr fun j hj =>?_;rw[same j (by have:=List.mem_range.1 hj;omega)]
  ·refine List.filter_congr fun j hj =>?_;obtain ⟨k,_,rfl⟩:=zx4.1 hj;rw[same _ (by omega)]
 ·intro j hj;simp only[List.mem_filter,List.mem_range,Bool.not_eq_true'] at hj;exact hj
theorem EB{n:Nat} : iD (Array.replicate n false) n=List.range n:=by
 simp only[iD];refine List.filter_eq_self.2 fun i hi =>?_;have:=List.mem_range.1 hi;simp[this]
theorem Wx(gs:List au):((List.range gs.length).map fun i=>gs.getD i default)=gs:=by
 apply List.ext_getElem
 ·simp
 ·intro i h1 h2;simp[zy9,h2]
section
variable {c:ct}
theorem l9{P:Program}{n:Nat}{bg:Array Oper} : ∀ {l:List Oper} {gs:List au},fE P n bg l=some gs→gs.length=l.length∧∀ (i:Nat) (o:Oper),l[i]?=some o→∃ g,gs[i]?=some g∧lr P n bg o=some g
 | [],gs,h=>by simp only[fE,v6] at h;subst h;exact ⟨rfl,fun i o ho=>by simp at ho⟩
 |o::l,gs,h=>by
  simp only[fE] at h;split at h
  case h_2=>cases h
  rename_i g gs' hg hgs;simp only[v6] at h;subst h;obtain ⟨h1,h2⟩:=l9 (l:=l) hgs;refine ⟨by simp[h1],fun i o' ho =>?_⟩;cases i with
  |zero=>simp only[List.getElem?_cons_zero,v6] at ho;subst ho;exact ⟨g,rfl,hg⟩
  |succ i=>simpa using h2 i o' (by simpa using ho)
theorem Un{K:ae→Prop}{bg:Array Oper}{Q:Exit→Act→World→Prop}{o:Oper}{g:au}{rest:List au}{A:ae}{a:Act}{w:World}{Kw:Act→World→Prop}(hg:lr c.P c.n bg o=some g)(hwp:aZ c.P c.Y true K (al (g::rest) A))(hs:bE c A a w)
  (hK:∀ B a' w',aZ c.P c.Y true K (al rest B)→bE c B a' w'→Kw a' w'):if Region.wanted o (yielded bg a.tmps) then o.wpIn c.bl 9 c.P a w Kw Q else (∀ f,o.about c.P w a.eval=some f→c.bl.fn f)∧Kw (a.put o.dst undef) w:=by
 obtain ⟨h1,h2,h3,h4⟩:=oi hg;have step:aZ c.P c.Y true K (aX A g.dst g.op rest (al rest))→o.wpIn c.bl 9 c.P a w Kw Q:=fun h =>
  sd h1 h2.symm (by rw[h2];exact h3) h hs (fun B a' w' hw hs'=>hK B a' w' hw hs')
 simp only[al] at hwp;rcases h4 with ⟨h5,h6⟩ | ⟨j,b,t,h5,h6,h7⟩
 ·rw[h6] at hwp;have hw:Region.wanted o (yielded bg a.tmps)=true:=by simp[Region.wanted,h5]
  rw[hw,if_pos rfl];exact step hwp
 ·rw[h7] at hwp;simp only at hwp;split at hwp
  ·rename_i b' hb';rw[sj hs h5 h6 hb'];split at hwp
   ·rename_i hbb;subst hbb;simp only[BEq.rfl,if_true];exact step hwp
   ·rename_i hbb;have:(b'==b)=false:=by simpa using hbb
    rw[this];simp only[zz3,if_false];exact ⟨fun f _=>lB c f,hK _ _ _ hwp (by rw[h2];exact hs.mz h3)⟩
  ·rename_i hb';rw[sk hs h5 h6 hb'];simp only[zz3,if_false];exact ⟨fun f _=>lB c f,hK _ _ _ hwp (by rw[h2];exact hs.mz h3)⟩
  ·cases hwp
theorem GZ{K:ae→Prop}{bg:Array Oper}{gs:List au}{Q:Exit→Act→World→Prop}(hQ:∀ B a w,K B→bE c B a w→Q .normal a w)(hgs:fE c.P c.n bg bg.toList=some gs)(hd:uc bg.toList gs) :
  ∀ (fuel:Nat) (listed:Array Bool) (A:ae) (a:Act) (w:World),listed.size=bg.size→(∀ i o,bg.toList[i]?=some o→listed.getD i false=true→∀ k∈dT o,listed.getD k false=true)→(iD listed bg.size).length≤fuel →
   aZ c.P c.Y true K (al (nu gs listed bg.size) A)→bE c A a w→wpAnyIn c.bl 9 c.P .any bg Q fuel listed a w:=by
 obtain ⟨hlen,hat⟩:=l9 hgs;have onOf_mem:∀ (o:Oper) (e:Edge),e∈o.after→Region.binds .any e=true→e.on∈dT o:=fun o e he hb=>by
  simp only[dT,zx4,List.mem_filter];exact ⟨e,⟨by simpa using he,hb⟩,rfl⟩
 have of_onOf:∀ (o:Oper) (k:Nat),k∈dT o→∃ e∈o.after,Region.binds .any e=true∧e.on=k:=fun o k hk=>by
  simp only[dT,zx4,List.mem_filter] at hk;obtain ⟨e,⟨h1,h2⟩,h3⟩:=hk;exact ⟨e,by simpa using h1,h2,h3⟩
 have last:∀ (listed:Array Bool) (A:ae) (a:Act) (w:World),listed.size=bg.size→Region.ready .any bg listed=[]→aZ c.P c.Y true K (al (nu gs listed bg.size) A)→bE c A a w→Q .normal a w:=by
  intro listed A a w hsz hr hwp hs;have hnone:iD listed bg.size=[]:=by
   have all:∀ n,∀ i,i<n→i<bg.size→listed.getD i true=true:=by
    intro n
    induction n with
    |zero=>intro i hi;omega
    |succ n ih =>
     intro i hi his;cases hb:listed.getD i true with
     |true=>rfl
     |false =>
      exfalso
      have ho:bg[i]?=some bg[i]:=zw7 his;have:i∈Region.ready .any bg listed:=mem_ready.2 ⟨hb,bg[i],ho,fun e he hbd=>by
       have hlt:=hd.ln i bg[i] (by simp) e.on (onOf_mem _ e he hbd);have h1:=ih e.on (by omega) (by omega);have h2:e.on<listed.size:=by omega
       simpa[Array.getD_eq_getD_getElem?,h2] using h1⟩
      rw[hr] at this;cases this
   simp only[iD];refine List.filter_eq_nil_iff.2 fun i hi =>?_;have:=all (i+1) i (by omega) (List.mem_range.1 hi);simp only[this,Bool.not_true,zz3,not_false_eq_true]
  simp only[nu,hnone,zy5,al] at hwp;cases hwp with
  |done hk=>exact hQ A a w hk hs
 intro fuel
 induction fuel with
 |zero =>
  intro listed A a w hsz hcl hcnt hwp hs;have hnone:iD listed bg.size=[]:=List.length_eq_zero_iff.1 (by omega);have hr:Region.ready .any bg listed=[]:=by
   refine List.eq_nil_iff_forall_not_mem.2 fun i hi =>?_;obtain ⟨h1,o,ho,_⟩:=mem_ready.1 hi;have:i∈iD listed bg.size:=by
    simp only[iD,List.mem_filter,List.mem_range,h1,Bool.not_false,and_true];exact (zy1.1 ho).1
   rw[hnone] at this;cases this
  exact ⟨hr,last listed A a w hsz hr hwp hs⟩
 |succ fuel ih =>
  intro listed A a w hsz hcl hcnt hwp hs;refine ⟨fun hr=>last listed A a w hsz hr hwp hs,fun i hi =>?_⟩;obtain ⟨hun,o,ho,hall⟩:=mem_ready.1 hi;have hin:i<bg.size:=(zy1.1 ho).1;obtain ⟨l1,l2,e1,e2,hl1⟩:=YC hin hsz hun;have hol:bg.toList[i]?=some o:=by simpa using ho
  obtain ⟨g,hgi,hcg⟩:=hat i o hol;have hon:∀ k∈dT o,listed.getD k false=true:=fun k hk=>by
   obtain ⟨e,h1,h2,h3⟩:=of_onOf o k hk;exact h3▸hall e h1 h2
  have hgd:gs.getD i default=g:=by simp[zy9,hgi]
  have hwp':aZ c.P c.Y true K (al (g::nu gs (listed.setIfInBounds i true) bg.size) A):=by
   simp only[nu,e1,zx5,zz1,hgd] at hwp;simp only[nu,e2,zx5];refine aZ.pS (fun j hj =>?_) hwp;obtain ⟨k,hk,rfl⟩:=zx4.1 hj;obtain ⟨hk1,hk2⟩:=hl1 k hk;refine hd.vJ (fun k=>listed.getD k false=true) hcl i o g k hol hgi hon hk1 ?_;have hks:k<listed.size:=by omega
   simp[Array.getD_eq_getD_getElem?,hks] at hk2 ⊢;exact hk2
  unfold wpOpIn;rw[ho];refine Un hcg hwp' hs fun B a' w' hw hs'=>ih _ B a' w' (by simpa using hsz) ?_ ?_ hw hs'
  ·intro m om hom hm k hk;by_cases hmi:m=i
   ·subst hmi;rw[hol,v6] at hom;subst hom;exact getD_set_true (hon k hk)
   ·rw[getD_set_ne false (Ne.symm hmi)] at hm;exact getD_set_true (hcl m om hom hm k hk)
  ·have:(iD listed bg.size).length=(iD (listed.setIfInBounds i true) bg.size).length+1:=by
    rw[e1,e2];simp;omega
   omega
theorem YB{K:ae→Prop}{bg:Array Oper}{gs:List au}{Q:Exit→Act→World→Prop}{id:Nat}{A:ae}{a:Act}{w:World}(hm:c.P.follows .mixedOrders=true)(hQ:∀ B a w,K B→bE c B a w→Q .normal a w)(hgs:fE c.P c.n bg bg.toList=some gs)(hd:uc bg.toList gs)
  (hwp:aZ c.P c.Y true K (al gs A)) (hs:bE c A a w):(Code.region id bg true).wpIn c.bl 9 c.P Q a w:=by
 refine wpIn_region_any hm (GZ hQ hgs hd bg.size (Array.replicate bg.size false) A a _ (by simp) ?_ ?_ ?_ ?_)
 ·intro i o _ h
  exfalso
  simp only[Array.getD_eq_getD_getElem?,Array.getElem?_replicate] at h;split at h <;>simp at h
 ·rw[EB];simp
 ·have hl:=(l9 hgs).1;simp only[zx6] at hl;simp only[nu,EB];rw[←hl,Wx];exact hwp
 ·obtain ⟨D,E,hs⟩:=hs;exact ⟨D,E,hs.grow (w' := { w with drawn:=w.drawn+1 }) ⟨rfl,rfl,rfl,zz2 _,fun _ _=>rfl⟩ (fun _ _ h=>h) (fun _ _ h _=>h) (fun b o h=>hs.cS b o h)⟩
end
inductive bj where
 |bY (on:Option (List (List Nat))) (gs:List au)
 |seq (x y:bj)
 |cond (b:ay) (x y:bj)
 |block (id:Nat) (x:bj)
 |loop (x:bj)
 |exit (id:Nat)
 |ret
 |skip
 |scope (x:bj)
 |label
 |pQ
 |nB (f:ay) (ps:List Nat) (x y:bj)
 deriving Inhabited
def dY(P:Program)(n:Nat):Code→Option bj
 | .region _ bg draw=>match fE P n bg bg.toList with
  |some gs=>if (!draw||P.follows .mixedOrders)=true then some (.bY (bif draw then some (bg.toList.map dT) else none) gs) else none
  |none=>some .pQ
 | .seq x y=>match dY P n x,dY P n y with
  |some x,some y=>some (.seq x y)
  |_,_=>none
 | .cond b x y=>match aU P 0 b,dY P n x,dY P n y with
  |some b,some x,some y=>some (.cond b x y)
  |_,_,_=>none
 | .block id x=>match dY P n x with
  |some x=>some (.block id x)
  |none=>none
 | .loop x=>match dY P n x with
  |some x=>some (.loop x)
  |none=>none
 | .exit id=>some (.exit id)
 | .ret=>some .ret
 | .skip=>some .skip
 | .scope x=>match dY P n x with
  |some x=>some (.scope x)
  |none=>none
 | .label _=>some .label
 | .rangeFunc f ps x y=>match aU P 0 f,dY P n x,dY P n y with
  |some f,some x,some y=>if (ps.toList.all fun p=>p<n)=true then some (.nB f ps.toList x y) else none
  |_,_,_=>none
 |_=>none
def sE(c:ct)(Q:Exit→ae→Prop):Exit→Act→World→Prop:=fun e a w=>∃ A,Q e A∧bE c A a w
def U(c:ct)(x:bj)(Q:Exit→ae→Prop)(A:ae):Prop :=
 ∀ code,dY c.P c.n code=some x→∀ a w,bE c A a w→code.wpIn c.bl 9 c.P (sE c Q) a w
def cT(k:ae→Prop)(Q:Exit→ae→Prop):Exit→ae→Prop
 | .normal,A=>k A
 |e,A=>Q e A
def lq(id:Nat)(Q:Exit→ae→Prop):Exit→ae→Prop
 | .exit id',A=>if id'=id then Q .normal A else Q (.exit id') A
 |e,A=>Q e A
section
variable {c:ct} {A:ae} {Q:Exit→ae→Prop}
def LX(d:Option (List (List Nat)))(gs:List au)(cl:List Nat):Bool:=match d with
 |none=>true
 |some on=>rX on gs cl
theorem U.bY{d:Option (List (List Nat))}{gs:List au}{cl:List Nat}(hd:LX d gs cl=true)(h:∀ K:ae→Prop,(∀ B,Q .normal B→K B)→aZ c.P c.Y d.isSome K (al gs A)):U c (.bY d gs) Q A:=by
 intro code hc a w hs;cases code <;>simp only[dY] at hc <;>try (first | (cases hc;done) | ((repeat' split at hc) <;>cases hc;done))
 rename_i id bg draw;split at hc
 ·rename_i gs' hgs;split at hc
  case isFalse=>cases hc
  rename_i hok;simp only[v6,bj.bY.injEq] at hc;obtain ⟨rfl,rfl⟩:=hc;cases draw with
  |false=>exact wpIn_region_list (si (K:=Q .normal) (fun B a w hk hs=>⟨B,hk,hs⟩) bg.toList gs' A a w hgs (h _ fun _ hb=>hb) hs)
  |true =>
   simp only[Bool.not_true,Bool.false_or] at hok;exact YB (K:=Q .normal) hok (fun B a w hk hs=>⟨B,hk,hs⟩) hgs (Mk (l9 hgs).1 hd) (h _ fun _ hb=>hb) hs
 ·cases hc
theorem U.seq{x y:bj}(h:U c x (cT (fun B=>U c y Q B) Q) A):U c (.seq x y) Q A:=by
 intro code hc a w hs;cases code <;>simp only[dY] at hc <;>try (first | (cases hc;done) | ((repeat' split at hc) <;>cases hc;done))
 rename_i cx cy;split at hc
 ·rename_i x' y' hx hy;simp only[v6,bj.seq.injEq] at hc;obtain ⟨rfl,rfl⟩:=hc;refine wpIn_seq (wpIn_mono (h cx hx a w hs) ?_);rintro e a' w' ⟨B,hq,hs'⟩;cases e <;>simp only[cT,Exit.then] at * <;>first | exact hq cy hy a' w' hs' | exact ⟨B,hq,hs'⟩
 ·cases hc
theorem U.cond{b:ay}{x y:bj}{t:Bool}(hb:ah A b=.bool t)(h1:t=true→U c x Q A)(h2:t=false→U c y Q A):U c (.cond b x y) Q A:=by
 intro code hc a w hs;cases code <;>simp only[dY] at hc <;>try (first | (cases hc;done) | ((repeat' split at hc) <;>cases hc;done))
 rename_i cb cx cy;split at hc
 ·rename_i b' x' y' hb' hx hy;simp only[v6,bj.cond.injEq] at hc;obtain ⟨rfl,rfl,rfl⟩:=hc;obtain ⟨D,E,hs'⟩:=hs;have ab:=bn hs' hb';rw[hb] at ab;exact wpIn_cond_split (kS ab) (fun ht=>h1 ht cx hx a w ⟨D,E,hs'⟩) (fun ht=>h2 ht cy hy a w ⟨D,E,hs'⟩)
 ·cases hc
theorem U.block{id:Nat}{x:bj}(h:U c x (lq id Q) A):U c (.block id x) Q A:=by
 intro code hc a w hs;cases code <;>simp only[dY] at hc <;>try (first | (cases hc;done) | ((repeat' split at hc) <;>cases hc;done))
 rename_i id' cx;split at hc
 ·rename_i x' hx;simp only[v6,bj.block.injEq] at hc;obtain ⟨rfl,rfl⟩:=hc;refine wpIn_block (wpIn_mono (h cx hx a w hs) ?_);rintro e a' w' ⟨B,hq,hs'⟩;cases e <;>simp only[lq,Exit.inBlock] at * <;>first
   |exact ⟨B,hq,hs'⟩
   |(split at hq
     ·rename_i he;rw[if_pos he];exact ⟨B,hq,hs'⟩
     ·rename_i he;rw[if_neg he];exact ⟨B,hq,hs'⟩)
 ·cases hc
theorem U.exit{id:Nat}(h:Q (.exit id) A):U c (.exit id) Q A:=by
 intro code hc a w hs;cases code <;>simp only[dY] at hc <;>try (first | (cases hc;done) | ((repeat' split at hc) <;>cases hc;done))
 simp only[v6,bj.exit.injEq] at hc;subst hc;exact wpIn_exit ⟨A,h,hs⟩
theorem U.ret(h:Q .ret A):U c .ret Q A:=by
 intro code hc a w hs;cases code <;>simp only[dY] at hc <;>try (first | (cases hc;done) | ((repeat' split at hc) <;>cases hc;done))
 exact wpIn_ret ⟨A,h,hs⟩
theorem U.skip(h:Q .normal A):U c .skip Q A:=by
 intro code hc a w hs;cases code <;>simp only[dY] at hc <;>try (first | (cases hc;done) | ((repeat' split at hc) <;>cases hc;done))
 exact wpIn_skip ⟨A,h,hs⟩
theorem AV{p:Nat→Prop}(h:∃ n,p n):∃ n,p n∧∀ m,p m→n≤m:=by
 obtain ⟨n,hn⟩:=h
 induction n using Nat.strongRecOn with
 |_ n ih =>
  by_cases hm:∃ m,m<n∧p m
  ·obtain ⟨m,h1,h2⟩:=hm;exact ih m h1 h2
  ·exact ⟨n,hn,fun m hp=>Nat.le_of_not_lt fun hlt=>hm ⟨m,hlt,hp⟩⟩
open Classical in
noncomputable def least(p:Nat→Prop):Nat:=if h:∃ n,p n then (AV h).choose else 0
theorem Cc{p:Nat→Prop}(h:∃ n,p n):p (least p)∧∀ m,p m→least p≤m:=by
 simp only[least,dif_pos h];exact (AV h).choose_spec
theorem ZP{bl:Fence}{N:Nat}{P:Program}{code:Code}{QQ:Exit→Act→World→Prop}(aW:Nat→Act→World→Prop)(round:∀ n a w,aW n a w→code.wpIn bl N P (Exit.then (fun a' w'=>∃ m,m<n∧aW m a' w') QQ) a w) :
  ∀ n a w,aW n a w→(Code.loop code).wpIn bl N P QQ a w:=by
 intro n a w h;refine wpIn_loop (fun a w=>∃ n,aW n a w) (fun a w=>least fun n=>aW n a w) ⟨n,h⟩ ?_;intro a w hI;have hm:=(Cc hI).1;refine wpIn_mono (round _ a w hm) ?_;intro e a' w' hq;cases e <;>simp only[Exit.then] at hq ⊢ <;>try exact hq
 obtain ⟨m,h1,h2⟩:=hq;exact ⟨⟨m,h2⟩,Nat.lt_of_le_of_lt ((Cc ⟨m,h2⟩).2 m h2) h1⟩
def bx(A B:ae):Prop:=∀ (c:ct) (a:Act) (w:World),bE c A a w→bE c B a w
theorem bx.refl(A:ae):bx A A:=fun _ _ _ h=>h
theorem bx.trans{A B C:ae}(h:bx A B)(k:bx B C):bx A C:=fun c a w hs=>k c a w (h c a w hs)
theorem U.sub{x:bj}{B:ae}(hsub:bx A B)(h:U c x Q B):U c x Q A:=fun code hc a w hs=>h code hc a w (hsub c a w hs)
theorem U.mono{x:bj}{Q':Exit→ae→Prop}(h:U c x Q A)(hq:∀ e B,Q e B→Q' e B):U c x Q' A :=
 fun code hc a w hs=>wpIn_mono (h code hc a w hs) fun e a' w' ⟨B,h1,h2⟩=>⟨B,hq e B h1,h2⟩
theorem U.loop{σ:Type}(S:σ→ae)(C:σ→Prop)(m:σ→Nat)(s0:σ){x:bj}(h0:C s0)(hsub:bx A (S s0))
  (round:∀ s,C s→U c x (cT (fun B=>∃ s',C s'∧m s'<m s∧bx B (S s')) Q) (S s)):U c (.loop x) Q A:=by
 intro code hc a w hs;cases code <;>simp only[dY] at hc <;>try (first | (cases hc;done) | ((repeat' split at hc) <;>cases hc;done))
 rename_i cx;split at hc
 ·rename_i x' hx;simp only[v6,bj.loop.injEq] at hc;subst hc;refine ZP (fun n a w=>∃ s,C s∧m s=n∧bE c (S s) a w) ?_ (m s0) a w ⟨s0,h0,rfl,hsub c a w hs⟩;rintro n a w ⟨s,hC,rfl,hs⟩;refine wpIn_mono (round s hC cx hx a w hs) ?_;rintro e a' w' ⟨B,hq,hs'⟩;cases e <;>simp only[cT,Exit.then] at * <;>first
   |exact ⟨B,hq,hs'⟩
   |(obtain ⟨s',h1,h2,h3⟩:=hq;exact ⟨m s',h2,s',h1,rfl,h3 c a' w' hs'⟩)
 ·cases hc
end
inductive bB where
 |tmp (t:Nat)
 |cell (a:Nat) (s:Option Nat)
def gv(P:Program):List ResultVar→Option (List bB)
 | []=>some []
 | .tmp t::l=>(gv P l).map (.tmp t :: ·)
 | .cell a t::l=>match fh P t,gv P l with
  |some s,some l=>some (.cell a s::l)
  |_,_=>none
def tw(A:ae):bB→Option I
 | .tmp t=>bf true A (A.t t)
 | .cell a s=>match bT A (A.t a) with
  |some x=>if bN s x then bf true A x else none
  |none=>none
def eG(A:ae):List bB→Option (List I)
 | []=>some []
 |r::rs=>match tw A r,eG A rs with
  |some x,some xs=>some (x::xs)
  |_,_=>none
def j8:List I→I
 | [x]=>x
 |xs=>.tuple xs
def nN(args:List I):ae:=⟨fun t=>args.getD t .undef,fun _=>none⟩
def kc(rs:List bB)(r:I):Exit→ae→Prop
 | .ret,A=>∃ xs,eG A rs=some xs∧j8 xs=r
 | .normal,A=>∃ xs,eG A rs=some xs∧j8 xs=r
 |_,_=>False
def nO(args:List I)(os:List (Nat×aj)):ae:=⟨fun t=>args.getD t .undef,aD os⟩
theorem xz{P:Program}{n:Nat}{w:World}{D:aH}{E:aN}{Y:Value→List I→List (Nat×aj)→b9→Prop}{args:List I}{os:List (Nat×aj)}{vs:List Value}(hD:∀ b o,D b o→b<w.heap.size)(ho:jq (fun _=>True) w D E (aD os))
  (ab:ao w D E args vs) (hn:vs.length≤n) (hos:∀ m,aC os m=true→n≤m∧1000000≤m) (hy:oa ⟨P,w,D,n,bU E,E,Y,none,none⟩) :
  aM ⟨P,w,D,n,bU E,E,Y,none,none⟩ (nO args os) { tmps:=vs.toArray++Array.replicate (n-vs.toArray.size) undef,defers:=[] } w D E:=by
 refine ⟨by simp;omega,⟨[],rfl,.nil,fun _ h=>by simp at h⟩,fun t =>?_,eH.refl _ _,fun _ _ h _=>h,hD,fun m =>?_,ho.cD,fun m e h=>.inr ⟨e,h,.refl e⟩,fun m hm =>?_,fun _ _ h=>h,hy,.refl _ _⟩
 ·have key:∀ (args:List I) (vs:List Value) (t:Nat),ao w D E args vs→aR w D E (args.getD t .undef) (vs.getD t undef):=by
   intro args
   induction args with
   |nil=>intro vs t h;simp only[ao] at h;subst h;simp[aR]
   |cons x xs ih =>
    intro vs t h;simp only[ao] at h;obtain ⟨v,rest,cs,rfl,h1,h2,h3⟩:=h;cases t with
    |zero=>simpa using fG h1 h2
    |succ t=>simpa using ih rest t h3
  have:=key args vs t ab;have e:(vs.toArray++Array.replicate (n-vs.toArray.size) undef).getD t undef=vs.getD t undef:=by
   simp only[Array.getD_eq_getD_getElem?,zy9];rcases Nat.lt_or_ge t vs.length with h | h
   ·rw[Array.getElem?_append_left (by simpa using h)];simp
   ·rw[Array.getElem?_append_right (by simpa using h),List.getElem?_eq_none h];simp only[Array.getElem?_replicate];split <;>rfl
  simp only[nO];rw[e];exact this
 ·have h:=ho.bD m;simp only[nO];cases hx:aD os m with
  |none=>rw[hx] at h;exact h
  |some x =>
   rw[hx] at h;cases x with
   |box x =>
    obtain ⟨b,cs,T,k1,_,k3⟩:=h;exact ⟨b,cs,T,k1,.inr ⟨m,_,k1,rfl⟩,k3⟩
   |bF T sz es =>
    obtain ⟨aB,k1,k2,k3⟩:=h;refine ⟨aB,k1,k2,?_⟩;cases aB with
    |none=>exact k3
    |some bc =>
     obtain ⟨b,cap⟩:=bc;obtain ⟨cs,pre,rest,_,k4⟩:=k3;exact ⟨cs,pre,rest,.inr ⟨m,_,k1,rfl⟩,k4⟩
   |dW T xs =>
    obtain ⟨aB,k1,k2,k3⟩:=h;refine ⟨aB,k1,k2,?_⟩;cases aB with
    |none=>exact k3
    |some bc =>
     obtain ⟨b,cap⟩:=bc;obtain ⟨cs,rest,_,k4⟩:=k3;exact ⟨cs,rest,.inr ⟨m,_,k1,rfl⟩,k4⟩
   |dm x =>
    obtain ⟨b,k1,_,k3⟩:=h;exact ⟨b,k1,.inr ⟨m,_,k1,rfl⟩,k3⟩
   |cn ks vs =>
    obtain ⟨b,es,ck,k1,_,k3⟩:=h;exact ⟨b,es,ck,k1,.inr ⟨m,_,k1,rfl⟩,k3⟩
   |it ks vs left cur =>
    obtain ⟨r,b,es,ck,ea,se,la,k1,_,k3⟩:=h;exact ⟨r,b,es,ck,ea,se,la,k1,.inr ⟨m,_,k1,rfl⟩,k3⟩
 ·have h:=ho.bD m;refine hos m ?_;cases hx:aD os m with
  |none=>rw[hx] at h;exact absurd h hm
  |some x=>simp[aC,hx]
def qP(tmps:Array Value):ResultVar→Sem Value
 | .tmp t=>pure (tmps.getD t undef)
 | .cell a t=>do loadVar t (←asAddr (tmps.getD a undef))
theorem YN(fn:Func)(tmps:Array Value):results fn tmps=(do
  let vs ←fn.results.mapM (qP tmps)
  pure (if h:vs.size=1 then vs[0] else .tuple vs)):=by
 unfold results;rfl
def nr(A:ae):bB→Option I
 | .tmp t=>some (A.t t)
 | .cell a s=>match bT A (A.t a) with
  |some x=>if bN s x then some x else none
  |none=>none
def lM(A A0:ae)(os:List (Nat×aj)):List bB→List I→Prop
 | [],[]=>True
 |r::rs,y::ys=>(∃ x,nr A r=some x∧((y=x∧x.cC=true∧x.only (aC os)=true)∨bf true A0 x=some y))∧lM A A0 os rs ys
 |_,_=>False
def ae.ke(A:ae)(os:List (Nat×aj)):ae:=⟨A.t,fun n=>if aC os n then none else A.o n⟩
def jd(rs:List bB)(post:b9)(A:ae):Prop :=
 ∃ (os:List (Nat×aj)) (xs:List I),(∀ n x,aD os n=some x→A.o n=some x∧x.only (aC os)=true∧x.eB=true)∧lM A (A.ke os) os rs xs∧post (j8 xs) os
def nz(rs:List bB)(post:b9):Exit→ae→Prop
 | .ret,A=>jd rs post A
 | .normal,A=>jd rs post A
 |_,_=>False
theorem wX{c:ct}{A:ae}{a:Act}{w:World}{D:aH}{E:aN}(hs:aM c A a w D E){A0:ae}(hu:dE A0 A){os:List (Nat×aj)}{D':aH}{E':aN}(hw:gY true A0 D E D')(aq:∀ n,aC os n=true→E' n=E n)(hE':∀ n,aC os n=false→E' n=none) :
  ∀ (rs:List ResultVar) (ls:List bB) (xs:List I),gv c.P rs=some ls→lM A A0 os ls xs→∃ vs:List Value,(rs.mapM (qP a.tmps)).run c.P w=.ok vs w∧ao w D' E' xs vs
 | [],ls,xs,hc,hr=>by
  simp only[gv,v6] at hc;subst hc;cases xs with
  |nil=>exact ⟨[],by simp,by simp[ao]⟩
  |cons x xs=>simp[lM] at hr
 |r::rs,ls,xs,hc,hr=>by
  have hl:dy w D E' w D' E':=⟨hw.cO,fun _ _ _ _ h=>h,fun _ _ _ h=>h,fun _ aB l h=>⟨aB,l,h,zz2 _,fun _=>rfl⟩,fun _ _ h=>h,fun _ _ h=>h,fun _ _ _ _ h=>h⟩
  have fin1:∀ {x y:I} {v:Value},aR w D E x v→((y=x∧x.cC=true∧x.only (aC os)=true)∨bf true A0 x=some y)→∃ cs,ba y v cs∧af w D' E' y cs:=by
   intro x y v ab hf;rcases hf with ⟨rfl,h1,h2⟩ | hf
   ·have h3:=aR.later hl (aR.dO aq h2 ab);cases y <;>simp only[aR] at h3 <;>first | (simp[I.cC] at h1;done) | exact h3
   ·have h1:ao w D E [x] [v]:=kV [x] [v] (.cons ab .nil) (by
     intro z hz;simp only[zx2] at hz;subst hz;cases z <;>simp_all[bf,I.cC])
    have h2:=lA (E':=E') hs hu hw [x] [y] [v] h1 (by simp[bJ,hf]);simp only[ao] at h2;obtain ⟨v',rest,cs,e,k1,k2,_⟩:=h2;simp only[zy7] at e;obtain ⟨rfl,_⟩:=e;exact ⟨cs,k1,k2⟩
  cases r with
  |tmp t =>
   simp only[gv,t7] at hc;obtain ⟨ls',hl',rfl⟩:=hc;cases xs with
   |nil=>simp[lM] at hr
   |cons y ys =>
    simp only[lM] at hr;obtain ⟨⟨x,h1,h2⟩,h3⟩:=hr;simp only[nr,v6] at h1;subst h1;obtain ⟨vs,k1,k2⟩:=wX hs hu hw aq hE' rs ls' ys hl' h3;obtain ⟨cs,k3,k4⟩:=fin1 (hs.dK t) h2;refine ⟨a.tmps.getD t undef::vs,?_,?_⟩
    ·simp only[List.mapM_cons,Sem.run_bind,qP,Sem.run_pure,Result.andThen_ok,k1]
    ·simp only[ao];exact ⟨_,vs,cs,rfl,k3,k4,k2⟩
  |cell ad t =>
   simp only[gv] at hc;split at hc
   ·rename_i s ls' hk hl';simp only[v6] at hc;subst hc;cases xs with
    |nil=>simp[lM] at hr
    |cons y ys =>
     simp only[lM] at hr;obtain ⟨⟨x,h1,h2⟩,h3⟩:=hr;obtain ⟨vs,k1,k2⟩:=wX hs hu hw aq hE' rs ls' ys hl' h3;simp only[nr] at h1;split at h1
     ·rename_i z hz;split at h1
      ·rename_i hok;simp only[v6] at h1;subst h1;obtain ⟨b,off,cs,q1,q2,q3⟩:=hs.yN (hs.dK ad) hz;obtain ⟨v,q4,q5⟩:=EO hk hok q2 q3;obtain ⟨cs',k3,k4⟩:=fin1 q5 h2;refine ⟨v::vs,?_,?_⟩
       ·have e:(qP a.tmps (.cell ad t)).run c.P w=.ok v w:=by
         simp only[qP,Sem.run_bind,q1,asAddr,Sem.run_pure,Result.andThen_ok,q4]
        simp only[List.mapM_cons,Sem.run_bind,Sem.run_pure,Result.andThen_ok,k1,e]
       ·simp only[ao];exact ⟨_,vs,cs',rfl,k3,k4,k2⟩
      ·cases h1
     ·cases h1
   ·cases hc
theorem aM.Aj{c:ct}{A:ae}{a:Act}{w:World}{D:aH}{E:aN}(h:aM c A a w D E)(hb:c.dF=none){B:Nat}{ds:List Deferred}(hd:a.defers = { target:=.collected B,args := #[] } :: ds) :
  w.heap[B]?=some (.deferred (some []))∧aM c A { a with defers:=ds } (w.putObj B (.deferred none)) D E:=by
 have hdf:=h.er;rw[hb] at hdf;obtain ⟨Bs,h1,h2,h3⟩:=hdf;rw[hd] at h1;cases Bs with
 |nil=>cases h1
 |cons B' Bs =>
  simp only[zz1,zy7,Deferred.mk.injEq,Target.collected.injEq,and_true] at h1;obtain ⟨rfl,rfl⟩:=h1;have hB:=h3 B (by simp);have hlt:B<w.heap.size:=(zy1.1 hB.2).1;have hl:dy w D E (w.putObj B (.deferred none)) D E :=
   ⟨fun _ _ h=>h,fun b o v _ ab=>uR hB.2 rfl ab,fun _ _ _ h=>h,fun _ aB l h=>⟨aB,l,h,zz2 _,fun _=>rfl⟩,fun _ _ h=>h,fun _ _ h=>h,fun b es ck _ hm=>(World.putObj_heap_other (fun e=>by rw[e,hB.2] at hm;cases hm)).trans hm⟩
  have hne:∀ {b:Nat} {cs:Array Value} {T:TypeId},w.heap[b]?=some (.cells cs T (0,0))→(w.putObj B (.deferred none)).heap[b]?=w.heap[b]?:=fun {b cs T} hb =>
   World.putObj_heap_other (fun e=>by rw[e,hB.2] at hb;cases hb)
  refine ⟨hB.2,h.sz,by rw[hb];refine ⟨Bs,rfl,(List.nodup_cons.1 h2).2,fun B2 hB2=>⟨(h3 B2 (by simp[hB2])).1,?_⟩⟩;rw[World.putObj_heap_other (fun e=>(List.nodup_cons.1 h2).1 (by rw[←e];exact hB2))];exact (h3 B2 (by simp[hB2])).2,fun t=>aR.later hl (h.dK t),h.dn.trans ⟨rfl,rfl,rfl,by simp,fun k hk =>?_⟩,h.cO,fun b o hd=>by have:=h.cS b o hd;simpa using this,fun n =>?_,h.cD,h.dG,h.eN,h.cE,h.eV,h.kh hl⟩
  ·exact World.putObj_heap_other (fun e=>hk (e▸.inl hB.1))
  ·refine (h.bD n).later hl rfl fun e b he hb=>⟨?_,fun _ h=>h⟩
   have hob:=h.bD n;unfold c6 at hob;split at hob
   ·rw[hob] at he;cases he
   ·obtain ⟨b',cs,T,k1,_,k3,_⟩:=hob;rw[k1,v6] at he;subst he;simp only[bw.aB,v6] at hb;subst hb;exact World.putObj_heap_other (fun e=>k3.Cz (by rw[e];exact hB.2))
   ·obtain ⟨aB,k1,_,k3⟩:=hob;rw[k1,v6] at he;subst he;split at k3
    ·simp[bw.aB] at hb
    ·obtain ⟨cs,pre,rest,_,k5,_⟩:=k3;simp only[bw.aB,v6] at hb;subst hb;exact hne k5
   ·obtain ⟨b',k1,_,k3,k4,_⟩:=hob;rw[k1,v6] at he;subst he;simp only[bw.aB,v6] at hb;subst hb;exact World.putObj_heap_other (fun e=>by rw[e,hB.2] at k3;cases k3;cases k4)
   ·obtain ⟨b',es,ck,k1,_,k3,_⟩:=hob;rw[k1,v6] at he;subst he;cases hb;exact World.putObj_heap_other (fun e=>by rw[e,hB.2] at k3;cases k3)
   ·obtain ⟨r,b',es,ck,ea,se,la,k1,_,k3,_⟩:=hob;rw[k1,v6] at he;subst he;cases hb;exact World.putObj_heap_other (fun e=>by rw[e,hB.2] at k3;cases k3)
   ·obtain ⟨aB,k1,_,k3⟩:=hob;rw[k1,v6] at he;subst he;split at k3
    ·simp[bw.aB] at hb
    ·obtain ⟨cs,m,_,k5,_⟩:=k3;simp only[bw.aB,v6] at hb;subst hb;exact hne k5
def fK(w:World)(D:aH)(E:aN)(post:b9)(v:Value)(w':World):Prop :=
 ∃ D' E' r os',post r os'∧aR w' D' E' r v∧jq (fun b=>w.heap.size≤b∨bU E b) w' D' E' (aD os') ∧
  eH (fun b=>w.heap.size≤b∨bU E b) w w'∧(∀ b o,D b o→D' b o)∧(∀ b o,D' b o→b<w'.heap.size)∧(∀ b o,D' b o→b<w.heap.size→¬ bU E b→D b o) ∧
  (∀ n e,E n=some e→aC os' n=true→∃ e',E' n=some e'∧e.eD e')∧gq w D w'
theorem aM.vU{P:Program}{n:Nat}{w:World}{D:aH}{E:aN}{Y:Value→List I→List (Nat×aj)→b9→Prop}{qQ:Option Nat}{dF:Option (List Deferred)}{A:ae}{a:Act}{w':World}{D':aH}{E':aN}
  (hs:aM ⟨P,w,D,n,bU E,E,Y,qQ,dF⟩ A a w' D' E') {os:List (Nat×aj)} (h1:∀ n x,aD os n=some x→A.o n=some x∧x.only (aC os)=true∧x.eB=true) :
  ∃ D2 E2,gY true (A.ke os) D' E' D2∧(∀ n,aC os n=true→E2 n=E' n)∧(∀ n,aC os n=false→E2 n=none)∧jq (fun b=>w.heap.size≤b∨bU E b) w' D2 E2 (aD os) ∧
   eH (fun b=>w.heap.size≤b∨bU E b) w w'∧(∀ b o,D b o→D2 b o)∧(∀ b o,D2 b o→b<w'.heap.size)∧(∀ b o,D2 b o→b<w.heap.size→¬ bU E b→D b o) ∧
   (∀ n e,E n=some e→aC os n=true→∃ e',E2 n=some e'∧e.eD e')∧gq w D w':=by
 obtain ⟨c,hc⟩:∃ c:ct,c=⟨P,w,D,n,bU E,E,Y,qQ,dF⟩:=⟨_,rfl⟩
 rw[←hc] at hs;have hM:c.eA=fun b=>w.heap.size≤b∨bU E b:=by rw[hc];rfl
 obtain ⟨E2,hE2⟩:∃ E2:aN,E2=fun n=>if aC os n then E' n else none:=⟨_,rfl⟩
 obtain ⟨D2,hD2⟩:∃ D2:aH,D2=fun b o=>b<w'.heap.size∧(D' b o∨(¬ bU E2 b∧c.eA b)):=⟨_,rfl⟩
 have e2:∀ n,aC os n=true→E2 n=E' n:=fun n hn=>by rw[hE2];simp only[hn,if_true]
 have kv:∀ n e,E2 n=some e→aC os n=true∧E' n=some e:=fun n e he=>by
  rw[hE2] at he;simp only at he;split at he
  ·exact ⟨by assumption,he⟩
  ·cases he
 have up2:∀ b o,D' b o→D2 b o:=fun b o hd=>by
  rw[hD2];exact ⟨hs.cS b o hd,.inl hd⟩
 have down:∀ b o,D2 b o→bU E2 b→D' b o:=fun b o hd hb=>by
  rw[hD2] at hd;rcases hd.2 with h | h
  ·exact h
  ·exact absurd hb h.1
 have hu:dE (A.ke os) A:=fun n x hx=>by
  simp only[ae.ke] at hx;split at hx
  ·cases hx
  ·exact hx
 have notOwn:∀ n e b,(A.ke os).o n≠none→E' n=some e→e.aB=some b→¬ bU E2 b:=fun n e b hn he hb ho=>by
  obtain ⟨m,e',k1,k3⟩:=ho;obtain ⟨k1,k2⟩:=kv m e' k1;have:=hs.cD n m e _ b he k2 hb k3;subst this;simp[ae.ke,k1] at hn
 have hw:gY true (A.ke os) D' E' D2:=by
  refine ⟨up2,fun n T sz es b cap hn aq o _ =>?_,fun _ n x b aL hn aq o _ =>?_,fun _ n ks vs b hn aq =>?_⟩
  ·rw[hD2];refine ⟨hs.fp aq rfl,.inr ⟨notOwn n _ b (by rw[hn];simp) aq rfl,?_⟩⟩;obtain ⟨aB,k1,k2,k3⟩:=hs.bF (hu n _ hn);rw[aq] at k1;simp only[v6,bw.rw.injEq,and_true] at k1;subst k1;obtain ⟨_,_,_,k4,_⟩:=k3;exact k4
  ·rw[hD2];refine ⟨hs.fp aq rfl,.inr ⟨notOwn n _ b (by rw[hn];simp) aq rfl,?_⟩⟩;obtain ⟨b',cs,T,k1,k2,_⟩:=hs.box (hu n _ hn);rw[k1] at aq;simp only[v6,bw.aE.injEq] at aq;obtain ⟨rfl,_⟩:=aq;exact k2
  ·rw[hD2];refine ⟨hs.fp aq rfl,.inr ⟨notOwn n _ b (by rw[hn];simp) aq rfl,?_⟩⟩;obtain ⟨b',es,ck,k1,k2,_⟩:=hs.map (hu n _ hn);rw[k1] at aq;cases aq;exact k2
 have hst:gq w D w':=by
  have:=hs.fy;rw[hc] at this;exact this
 refine ⟨D2,E2,hw,e2,fun n hn=>by rw[hE2];simp[hn],⟨fun m =>?_,fun m m' e e' b g1 g2 g3 g4 =>?_⟩,?_,fun b o hd=>up2 b o (hs.cE b o (by rw[hc];exact hd)),fun b o hd=>by rw[hD2] at hd;exact hd.1,fun b o hd hlt hno =>?_,fun m e hm hin =>?_,hst⟩
 ·cases hx:aD os m with
  |none=>simp only[c6];rw[hE2];simp[aC,hx]
  |some x =>
   have hm:aC os m=true:=by simp[aC,hx]
   obtain ⟨k1,k2,k3⟩:=h1 m x hx;have ho:=hs.bD m;rw[k1] at ho;have hl2:dy w' D' E2 w' D2 E2:=⟨up2,fun _ _ _ _ h=>h,fun _ _ _ h=>h,fun _ aB l h=>⟨aB,l,h,zz2 _,fun _=>rfl⟩,fun _ _ h=>h,fun _ _ h=>h,fun _ _ _ _ h=>h⟩
   have nD:∀ e b,E' m=some e→e.aB=some b→∀ o,D2 b o→D' b o:=fun e b he hb o hd=>down b o hd ⟨m,e,(e2 m hm).trans he,hb⟩;cases x with
   |bF T sz es =>
    obtain ⟨aB,q1,q2,q3⟩:=ho;refine ⟨aB,(e2 m hm).trans q1,q2,?_⟩;cases aB with
    |none=>exact q3
    |some bc =>
     obtain ⟨b,cap⟩:=bc;obtain ⟨cs,pre,rest,g1,g2,g3,g4,g5,g6,g7,g8⟩:=q3;exact ⟨cs,pre,rest,by rw[←hM];exact g1,g2,g3,aA.later hl2 _ _ (aA.dO e2 _ _ (by simpa[aj.only] using k2) g4),g5,g6,g7,fun o hd=>g8 o (nD _ b q1 rfl o hd)⟩
   |box y =>
    obtain ⟨b',cs,T,q1,q2,q3,q4,q5⟩:=ho;exact ⟨b',cs,T,(e2 m hm).trans q1,by rw[←hM];exact q2,q3,af.later hl2 _ _ (af.dO e2 _ _ (by simpa[aj.only] using k2) q4),fun o hd=>q5 o (nD _ b' q1 rfl o hd)⟩
   |dm o =>
    obtain ⟨b',q1,q2,q3,q4,q5⟩:=ho;exact ⟨b',(e2 m hm).trans q1,by rw[←hM];exact q2,q3,q4,fun o hd=>q5 o (nD _ b' q1 rfl o hd)⟩
   |cn ks vs =>
    obtain ⟨b',es,ck,q1,q2,q3,q4,q5,q6,q7⟩:=ho;simp only[aj.only,Z7] at k2;exact ⟨b',es,ck,(e2 m hm).trans q1,by rw[←hM];exact q2,q3,q4,ao.later hl2 _ _ (ao.dO e2 _ _ k2.1 q5),ao.later hl2 _ _ (ao.dO e2 _ _ k2.2 q6),fun o hd=>q7 o (nD _ b' q1 rfl o hd)⟩
   |it ks vs left cur=>cases k3
   |dW T xs =>
    obtain ⟨aB,q1,q2,q3⟩:=ho;refine ⟨aB,(e2 m hm).trans q1,q2,?_⟩;cases aB with
    |none=>exact q3
    |some bc =>
     obtain ⟨b,cap⟩:=bc;obtain ⟨cs,r,g1,g2,g3,g4,g5,g6,g7⟩:=q3;exact ⟨cs,r,by rw[←hM];exact g1,g2,g3,g4,g5,g6,fun o hd=>g7 o (nD _ b q1 rfl o hd)⟩
 ·exact hs.cD m m' e e' b (kv m e g1).2 (kv m' e' g2).2 g3 g4
 ·rw[←hM];have:=hs.dn;rw[hc] at this ⊢;exact this
 ·rw[hD2] at hd;have hnm:¬ c.eA b:=by
    rw[hM];rintro (h | h);· omega
    ·exact hno h
  rcases hd.2 with h | h
  ·have:=hs.cO b o h hnm;rw[hc] at this;exact this
  ·exact absurd h.2 hnm
 ·rw[e2 m hin];have ho:A.o m≠none:=by
   cases hx:aD os m with
   |none=>simp[aC,hx] at hin
   |some x=>rw[(h1 m x hx).1];simp
  rcases hs.dG m e (by rw[hc];exact hm) with h | h
  ·have hob:=hs.bD m;cases hx:A.o m with
   |none=>exact absurd hx ho
   |some x=>rw[hx] at hob;exact absurd h (qz hob)
  ·exact h
theorem aM.sC{P:Program}{n:Nat}{w:World}{D:aH}{E:aN}{Y:Value→List I→List (Nat×aj)→b9→Prop}{dF:Option (List Deferred)}{rs:List bB}{post:b9}{fn:Func}{A:ae}{a:Act}{w':World}{D':aH}{E':aN}
  (hs:aM ⟨P,w,D,n,bU E,E,Y,none,dF⟩ A a w' D' E') (hrs:gv P fn.results.toList=some rs) (h:jd rs post A):∃ v,(results fn a.tmps).run P w'=.ok v w'∧fK w D E post v w':=by
 obtain ⟨os,xs,h1,h2,h3⟩:=h;obtain ⟨D2,E2,hw,e2,e2n,q1,q2,q3,q4,q5,q6⟩:=hs.vU h1;have hu:dE (A.ke os) A:=fun n x hx=>by
  simp only[ae.ke] at hx;split at hx
  ·cases hx
  ·exact hx
 obtain ⟨vs,k1,k2⟩:=wX hs hu (os:=os) (E':=E2) hw e2 e2n fn.results.toList rs xs hrs h2;have hres:(results fn a.tmps).run P w'=.ok (if h:vs.toArray.size=1 then vs.toArray[0] else .tuple vs.toArray) w':=by
  rw[YN,Sem.run_bind,Array.mapM_eq_mapM_toList,Sem.run_map,k1];rfl
 refine ⟨_,hres,D2,E2,j8 xs,os,h3,?_,q1,q2,q3,q4,q5,q6⟩
 match xs,vs,k2 with
 | [x],vs,k2 =>
  simp only[ao] at k2;obtain ⟨v,rest,cs,rfl,q1,q2,rfl⟩:=k2;simpa[j8] using fG q1 q2
 | [],vs,k2 =>
  simp only[ao] at k2;subst k2;simp[j8,aR,ao]
 |x::y::xs,vs,k2 =>
  have hl:vs.length≠1:=by
   simp only[ao] at k2;obtain ⟨v,rest,cs,rfl,_,_,v2,rest2,cs2,rfl,_⟩:=k2;simp
  simp only[j8,aR];exact ⟨vs,by simp[hl],k2⟩
theorem Cd{P:Program}{n:Nat}{w:World}{D:aH}{E:aN}{Y:Value→List I→List (Nat×aj)→b9→Prop}{rs:List bB}{post:b9}{fn:Func}{A:ae}{D':aH}{E':aN}(hrs:gv P fn.results.toList=some rs)(h:jd rs post A) :
  ∀ (ds:List Deferred) (a:Act) (w':World),a.defers=ds→aM ⟨P,w,D,n,bU E,E,Y,none,none⟩ A a w' D' E'→LeavesInM Fence.wide 9 P fn a.tmps (fun e w'=>∃ v,e=.returned v∧fK w D E post v w') ds .returning w'
 | [],a,w',_,hs=>by
  obtain ⟨v,h1,h2⟩:=hs.sC hrs h;exact ⟨v,h1,v,rfl,h2⟩
 |d::ds,a,w',hd,hs=>by
  obtain ⟨Bs,h1,_⟩:=hs.er;rw[hd] at h1;cases Bs with
  |nil=>cases h1
  |cons B Bs =>
   simp only[zz1,zy7] at h1;obtain ⟨rfl,rfl⟩:=h1;obtain ⟨k1,k2⟩:=hs.Aj rfl hd;exact ⟨by simp,.inl ⟨B,_,rfl,run_takeDeferred k1,Cd hrs h _ { a with defers:=Bs.map _ } _ rfl k2⟩⟩
theorem qS{w:World}{D:aH}{E:aN} : ∀ {args:List I} {vs:List Value},ao w D E args vs→vs.length=args.length
 | [],vs,h=>by simp only[ao] at h;subst h;rfl
 |x::xs,vs,h=>by
  simp only[ao] at h;obtain ⟨v,rest,cs,rfl,_,_,h3⟩:=h;simp[qS h3]
def jo(P:Program)(f:FuncId)(Y:Value→List I→List (Nat×aj)→b9→Prop)(args:List I)(os:List (Nat×aj))(post:b9):Prop :=
 dZ P f=true∧∀ (w:World) (D:aH) (E:aN) (vs:List Value),(∀ n,oa ⟨P,w,D,n,bU E,E,Y,none,none⟩)→(∀ b o,D b o→b<w.heap.size)→jq (fun _=>True) w D E (aD os)→ao w D E args vs →
  Calls P f vs.toArray w fun e w'=>∃ v,e=.returned v∧fK w D E post v w'
theorem jo.s7{P:Program}{f:FuncId}{fn:Func}{body:Code}{x:bj}{rs:List bB}{Y:Value→List I→List (Nat×aj)→b9→Prop}{args:List I}{os:List (Nat×aj)}{post:b9}(hf:P.funcs[f]?=some fn)(hb:fn.body=some body)(hcall:dZ P f=true)(hc:dY P fn.ntmps body=some x)
  (hrs:gv P fn.results.toList=some rs) (hn:args.length≤fn.ntmps) (hos:∀ m,aC os m=true→fn.ntmps≤m∧1000000≤m) (h:∀ (w:World) (D:aH) (E:aN),U ⟨P,w,D,fn.ntmps,bU E,E,Y,none,none⟩ x (nz rs post) (nO args os)):jo P f Y args os post:=by
 refine ⟨hcall,fun w D E vs hy hD ho ab =>?_⟩;have hlen:=qS ab;have hsim:=xz (P:=P) (n:=fn.ntmps) (Y:=Y) hD ho ab (by omega) hos (hy fn.ntmps);refine (callsIn_wide (n:=9)).1 (callsIn_of_wp_marks hf hb trivial ?_);refine wpIn_mono (h w D E body hc _ w ⟨D,E,hsim⟩) ?_;rintro e a w' ⟨A,hq,D',E',hs⟩;cases e <;>simp only[nz] at hq <;>first
  |exact Cd hrs hq a.defers a w' rfl hs
  |cases hq
theorem pA{P:Program}{w:World}{D:aH}{E:aN}{n:Nat}{dF:Option (List Deferred)}(hl:eJ P w (bU E)):oa ⟨P,w,D,n,bU E,E,fO,none,dF⟩:=⟨hl,fun _ _ _ _ h=>h.elim⟩
theorem eW.CE{P:Program}{f:FuncId}{args:List I}{os:List (Nat×aj)}{post:b9}(h:jo P f fO args os post):eW P f args os post :=
 ⟨h.1,fun w D E vs hl hD ho ab=>(h.2 w D E vs (fun _=>pA hl) hD ho ab).mono fun e w' ⟨v,he,D',E',r,os',k⟩=>⟨v,D',E',r,os',he,k⟩⟩
theorem aS.CD{P:Program}{f:FuncId}{args:List I}{r:I}(h:eW P f args [] (fun r' os'=>r'=r∧os'=[])):aS P f args r:=by
 refine ⟨h.1,fun w D vs hl hD ab =>?_⟩;have hh:jq (fun _=>True) w D cu (aD []):=⟨fun n=>rfl,fun n m e e' b h=>by simp[cu] at h⟩
 refine (h.2 w D cu vs (hl.sD fun b ⟨n,e,h1,_⟩=>by simp[cu] at h1) hD hh ab).mono fun e w' hq =>?_;obtain ⟨v,D',E',r',os',he,⟨h1,h2⟩,k1,k2,k3,k4,k5,k6,_⟩:=hq;subst h1 h2;refine ⟨v,D',he,?_,?_,k5,fun b o hd hlt=>k6 b o hd hlt fun ⟨n,e,h,_⟩=>by simp[cu] at h⟩
 ·have:E'=cu:=by funext n;exact k2.bD n
  rw[←this];exact k1
 ·exact k3.Hp fun k hk hm=>by
   rcases hm with hm | ⟨n,e,h,_⟩
   ·omega
   ·simp[cu] at h
theorem Y6(A:ae):A.ke []=A:=rfl
theorem EF{A:ae} : ∀ {rs:List bB} {xs:List I},eG A rs=some xs→lM A (A.ke []) [] rs xs
 | [],xs,h=>by simp only[eG,v6] at h;subst h;trivial
 |r::rs,xs,h=>by
  simp only[eG] at h;split at h
  ·rename_i x xs' h1 h2;simp only[v6] at h;subst h;refine ⟨?_,EF h2⟩;rw[Y6];cases r with
   |tmp t=>exact ⟨_,rfl,.inr h1⟩
   |cell a s =>
    simp only[tw,nr] at h1 ⊢;split at h1
    ·rename_i y hy;split at h1
     ·rename_i hok;exact ⟨y,by simp[hok],.inr h1⟩
     ·cases h1
    ·cases h1
  ·cases h
theorem YP{rs:List bB}{r:I}{e:Exit}{A:ae}(h:kc rs r e A):nz rs (fun r' os'=>r'=r∧os'=[]) e A:=by
 cases e <;>simp only[kc] at h <;>first
  |exact h.elim
  |(obtain ⟨xs,h1,h2⟩:=h
    exact ⟨[],xs,fun n x hx=>by simp[aD] at hx,EF h1,h2,rfl⟩)
theorem aS.s7{P:Program}{f:FuncId}{fn:Func}{body:Code}{x:bj}{rs:List bB}{args:List I}{r:I}(hf:P.funcs[f]?=some fn)(hb:fn.body=some body)(hcall:dZ P f=true)(hc:dY P fn.ntmps body=some x)
  (hrs:gv P fn.results.toList=some rs) (hn:args.length≤fn.ntmps) (h:∀ (w:World) (D:aH) (E:aN),U ⟨P,w,D,fn.ntmps,bU E,E,fO,none,none⟩ x (kc rs r) (nN args)):aS P f args r:=by
 refine aS.CD (eW.CE (jo.s7 hf hb hcall hc hrs hn (fun m hm=>by simp[aC,aD] at hm) fun w D E =>?_));exact (h w D E).mono fun e B hq=>YP hq
end Go.Abs
