/-
  A part of the proof that the law RollBooks returns true for every input; five variables of Go's library start as the text lays them (the card ties them); conditions: none beyond the statement's own. (part 2 of 7)
-/
import Derived.Lib.AppendZerosOnto
import Derived.Lib.Strings
import Derived.Maps.RangeRun
import Derived.Laws.MakeOwn
import Derived.Laws.BytesArg
import Derived.Lib.ConvBytes
import Derived.Lib.AtoiErrMem
import Derived.Orders
import Derived.OrdersIn
import Derived.Test.YtoffnnjbplgnaaaGreatDoorNha
set_option linter.unusedSimpArgs false
set_option linter.unusedVariables false
set_option maxHeartbeats 16000000
set_option maxRecDepth 100000
namespace Go.Abs
open Go Go.RowKit
section
variable {c:ct} {A:ab} {o:Oper} {x:I}
theorem lV{P:Program}{w:World}(k:IntKind)(n:Int)(y:Nat)(code:BoundsCode)(g1:0≤n)(g2:n≤y):(Instr.sliceBound (.int k n) y code).run P w=.ok n.toNat w:=by
 simp[Instr.sliceBound,asIntOf,g1,g2]
theorem Yn{t e:TypeId}{y:Operand}{y':aF}{lo hi mx:Option Operand}{lo' hi' mx':Option aF}{i:TypeInfo}{fs:List I}{n:Nat}{p:List Nat}{sz l0 k:Nat}(ho:o.op=.slice t y lo hi mx)(hu:c.P.underlying t=some (.slice e))(hi0:c.P.info? e=some i)
  (hy:aX c.P 0 y=some y') (h1:ig c.P lo=some lo') (h2:ig c.P hi=some hi') (h3:ig c.P mx=some mx') (hmh:mx'.isSome=true→hi'.isSome=true) (hsz:sz=c.P.cellsOf e)
  (h:af A y'=.view n p sz l0 k) (hd:b6 A (.ptr n p)=some (.agg fs)) (hx:iU n p sz l0 k fs.length (lo'.map (af A)) (hi'.map (af A)) (mx'.map (af A))=some x):cN c A o x :=
 .same fun a w D E hs=>by
  have opt:∀ {q:Option Operand} {q':Option aF},ig c.P q=some q'→gV w D E (q'.map (af A)) (q.map a.eval):=by
   intro q q' hq;cases q with
   |none=>simp only[ig,v6] at hq;subst hq;simp[gV]
   |some z =>
    simp only[ig,t8] at hq;obtain ⟨z',hz,rfl⟩:=hq;simpa[gV] using br hs hz
  have h0:=br hs hy;rw[h] at h0;obtain ⟨yy,b,cs,T,off,c1,c2,c3,k1,k2,k3,k4,k5,k6,k7,k8,k9,k10,k11,k12,hval⟩:=hs.view h0 hd;have hmh':(mx'.map (af A)).isSome=true→(hi'.map (af A)).isSome=true:=by simpa using hmh
  unfold iU at hx;split at hx
  ·cases hx
  rename_i hh hbh;split at hx
  ·cases hx
  rename_i ll hbl;have d1:=qL (opt h1) hbl;have d2:=qL (opt h2) hbh;have o3:=opt h3;split at hx
  ·rename_i hmx;split at hx
   case isFalse=>cases hx
   rename_i hb;obtain ⟨b1,b2,b3⟩:=hb;have hvmx:mx.map a.eval=none:=by
    rw[hmx] at o3;cases hq:mx.map a.eval with
    |none=>rfl
    |some v=>rw[hq] at o3;simp[gV] at o3
   have hsb:(Instr.sliceBounds true k (fs.length-l0) (lo.map a.eval) (hi.map a.eval) (mx.map a.eval)).run c.P w=.ok (ll.toNat,hh.toNat,fs.length-l0) w:=by
    rw[hvmx];rcases d2 with ⟨_,g2,hm2⟩ | ⟨_,q2,g2⟩ <;>rcases d1 with ⟨_,g1,hm1⟩ | ⟨_,q1,g1⟩ <;>rw[g1,g2]
    ·subst hm1 hm2;simp[Instr.sliceBounds]
    ·subst hm2;simp[Instr.sliceBounds,lV q1 ll k _ b1 (by omega)]
    ·subst hm1;simp[Instr.sliceBounds,lV q2 hh (fs.length-l0) _ (by omega) (by omega)]
    ·simp[Instr.sliceBounds,lV q2 hh (fs.length-l0) _ (by omega) (by omega),lV q1 ll hh.toNat _ b1 (by omega)]
   have hrun:(Instr.sliceAt t (a.eval y) (lo.map a.eval) (hi.map a.eval) (mx.map a.eval)).run c.P w =
     .ok (.slice (if fs.length-l0=ll.toNat then some ⟨b,off+l0*sz,none⟩ else some ⟨b,off+l0*sz+ll.toNat*c.P.cellsOf e,none⟩) (hh.toNat-ll.toNat) (fs.length-l0-ll.toNat)) w:=by
    rw[hval];simp only[Instr.sliceAt,Instr.slice,Sem.run_bind,run_underlying hu,Result.andThen_ok,hsb,gG hi0,Sem.run_pure,zy1,mh]
   refine ⟨_,by simp only[execOp,ho,Sem.run_bind,hrun];rfl,?_⟩;split at hx
   ·rename_i hl;simp only[v6] at hx;subst hx;have e1:fs.length-l0=ll.toNat:=by omega
    have e2:hh.toNat-ll.toNat=0:=by omega
    rw[if_pos e1,e2,e1,Nat.sub_self];exact ⟨_,by simp[bd,I.isAgg];rfl,by simp only[ae];exact ⟨_,rfl⟩⟩
   ·rename_i hl;simp only[v6] at hx;subst hx;rw[if_neg (by omega)];refine ⟨_,by simp[bd,I.isAgg];rfl,?_⟩;simp only[ae];refine ⟨b,yy.aL,off,I.cI fs,k2,k5,lW p yy _ k4,?_,?_,?_,?_⟩
    ·rw[I.cM,zz2,Nat.add_mul,Nat.add_assoc,hsz,Nat.sub_sub]
    ·rw[I.cM,zz2];exact k12
    ·rw[I.cM,zz2];omega
    ·rw[I.cM];intro s hs';obtain ⟨f,hf,rfl⟩:=zx1.1 hs';rw[I.iC];exact k10 f hf
  ·rename_i kk m hmx;split at hx
   case isFalse=>cases hx
   rename_i hb;obtain ⟨b1,b2,b3,b4⟩:=hb;simp only[v6] at hx;subst hx;obtain ⟨vmx,hvmx,hvm⟩:∃ v,mx.map a.eval=some v∧v=.int kk m:=by
    rw[hmx] at o3;cases hq:mx.map a.eval with
    |none=>rw[hq] at o3;simp[gV] at o3
    |some v=>rw[hq] at o3;simp only[gV] at o3;exact ⟨v,rfl,(dh o3).1⟩
   subst hvm;have hsb:∃ r,(Instr.sliceBounds true k (fs.length-l0) (lo.map a.eval) (hi.map a.eval) (mx.map a.eval)).run c.P w=.ok r w:=by
    rw[hvmx];rcases d2 with ⟨g0,g2,hm2⟩ | ⟨_,q2,g2⟩
    ·rw[hmx,g0] at hmh';simp at hmh'
    ·rcases d1 with ⟨_,g1,hm1⟩ | ⟨_,q1,g1⟩ <;>rw[g1,g2]
     ·exact ⟨_,by simp[Instr.sliceBounds,lV kk m (fs.length-l0) _ (by omega) b4,lV q2 hh m.toNat _ (by omega) (by omega)];rfl⟩
     ·exact ⟨_,by simp[Instr.sliceBounds,lV kk m (fs.length-l0) _ (by omega) b4,lV q2 hh m.toNat _ (by omega) (by omega),lV q1 ll hh.toNat _ b1 (by omega)];rfl⟩
   obtain ⟨⟨r1,gX,tG⟩,hsb⟩:=hsb;have hrun:∃ v,(Instr.sliceAt t (a.eval y) (lo.map a.eval) (hi.map a.eval) (mx.map a.eval)).run c.P w=.ok v w:=by
    rw[hval];exact ⟨_,by simp only[Instr.sliceAt,Instr.slice,Sem.run_bind,run_underlying hu,Result.andThen_ok,hsb,gG hi0,Sem.run_pure,zy1];rfl⟩
   obtain ⟨v,hrun⟩:=hrun;exact ⟨v,by simp only[execOp,ho,Sem.run_bind,hrun];rfl,by simp[aQ]⟩
  ·cases hx
theorem X8{t e:TypeId}{y z:Operand}{y' z':aF}{i:TypeInfo}{fs:List I}{n:Nat}{p:List Nat}{sz lo k:Nat}{kk:IntKind}{j:Int}(ho:o.op=.indexAddr t y z)(hu:c.P.underlying t=some (.slice e))(hi:c.P.info? e=some i)
  (hy:aX c.P 0 y=some y') (hz:aX c.P 0 z=some z') (hsz:sz=c.P.cellsOf e) (h:af A y'=.view n p sz lo k) (hd:b6 A (.ptr n p)=some (.agg fs)) (h':af A z'=.int kk j) (hj:0≤j∧j<k):cN c A o (.ptr n (p++[lo+j.toNat])) :=
 .same fun a w D E hs=>by
  have h0:=br hs hy;rw[h] at h0;have h1':=br hs hz;rw[h'] at h1';obtain ⟨yy,b,cs,T,off,c1,c2,c3,k1,k2,k3,k4,k5,k6,k7,k8,k9,k10,k11,k12,hval⟩:=hs.view h0 hd;refine ⟨.pointer (some ⟨b,off+lo*sz+j.toNat*c.P.cellsOf e,none⟩),by simp only[execOp,ho,hval,(dh h1').1,Sem.run_bind,w6 hu hi hj];rfl,?_⟩;refine ⟨_,by simp[bd,I.isAgg];rfl,?_⟩;simp only[ae];refine ⟨b,yy.aL,off+(lo+j.toNat)*sz,k2,?_,by rw[Nat.add_mul,←Nat.add_assoc,hsz]⟩;have hl:lo+j.toNat<fs.length:=by omega
  rw[bY.tp p yy.aL off (lo+j.toNat) _ k5 (lW p yy _ k4) (by rw[I.cM];simpa using hl),I.cM,←List.map_take,←I.cM,I.lX,nQ fs _ k10 (by omega)]
theorem vK{ty:TypeId}{y:Operand}{y':aF}{n:Nat}{e:TypeId}(ho:o.op=.call { callee:=.builtin .cap,args := #[y],argTypes := #[ty] })(hu:c.P.underlying ty=some (.slice e))
  (hy:aX c.P ty y=some y') (h:∀ a w D E,aM c A a w D E→∀ v,aQ w D E (af A y') v→n≤maxLen∧∃ ad l,v=.slice ad l n):cN c A o (.int .i64 n) :=
 .same fun a w D E hs=>by
  obtain ⟨h0,ad,l,hv⟩:=h a w D E hs _ (br hs hy);exact ⟨.int .i64 n,by simp[execOp,ho,resolve,invoke,builtin,Builtin.cap_,run_underlying hu,hv,goInt],iv (wb h0)⟩
theorem XV{t e:TypeId}{i:TypeInfo}(ho:o.op=.buildSlice t 0 #[])(hu:c.P.underlying t=some (.slice e))(hi:c.P.info? e=some i):cN c A o (.c0 (c.P.cellsOf e)):=by
 intro a w D E hs;have hs':=hs.newRow (.cells #[] e);refine ⟨.slice (some ⟨w.heap.size,0,none⟩) 0 0,_,_,?_,hs',⟨_,by simp[bd,I.isAgg];rfl,by simp only[ae];exact ⟨_,rfl⟩⟩⟩;simp[execOp,ho,Instr.buildSlice,run_underlying hu,gG hi,newRow,Instr.fill,show (Array.range 0) = #[] from rfl]
theorem Zz{neg:Bool}{t e:TypeId}{y z:Operand}{y':aF}{yt:TypeId}{s:Nat}(ho:o.op=.binOp (if neg then .neq else .eql) t y z yt)(hu:c.P.underlying t=some (.slice e))(hy:aX c.P 0 y=some y')(hz:aX c.P 0 z=some (.c (.nils s)))
  (h:∃ sz,af A y'=.slice sz []∨af A y'=.c0 sz) {a:Act} {w:World} {D:aJ} {E:aO} (hs:aM c A a w D E):∃ b,(execOp a.eval o).run c.P w=.ok (.value (.bool b)) w:=by
 have h0:=br hs hy;have h1:aQ w D E (.nils s) (a.eval z):=br hs hz;have hv:∃ ad cp,a.eval y=.slice ad 0 cp:=by
  obtain ⟨sz,h | h⟩:=h <;>rw[h] at h0
  ·obtain ⟨ad,cap,e1,_⟩:=kT h0;exact ⟨ad,cap,by simpa using e1⟩
  ·obtain ⟨cs,q1,q2⟩:=h0;simp only[ae] at q2;obtain ⟨ad,q2⟩:=q2;exact ⟨ad,0,by simpa[bd,I.isAgg,q2] using q1.symm⟩
 obtain ⟨ad,cp,hyv⟩:=hv;have hv:a.eval z=.slice none 0 0:=by
  obtain ⟨cs,q1,q2⟩:=h1;simp only[ae] at q2;simpa[bd,I.isAgg,q2] using q1.symm
 have he:∀ d,(Op.equalIn (d+1) t (.slice ad 0 cp) (.slice none 0 0)).run c.P w=.ok ad.isNone w:=fun d=>by
  cases ad <;>simp[Op.equalIn,run_underlying hu]
 refine ⟨if neg then !ad.isNone else ad.isNone,?_⟩;cases neg <;>simp only[execOp,ho,hyv,hv,if_true,zz4,if_false,Sem.run_bind,eqGuard] <;>simp[binOp,Op.equal,Op.maxDepth,he]
def hE(y:I)(p:List Nat)(j:Nat)(fs ys:List I):I:=y.dm p (.agg (fs.take j++(ys++fs.drop (j+ys.length))))
theorem Ny{t e:TypeId}{y:Operand}{y':aF}{z:I}{n:Nat}{p:List Nat}{lo k:Nat}{b:I}{fs:List I}(ho:o.op=.call { callee:=.builtin .clear,args := #[y],argTypes := #[t] })(hu:c.P.underlying t=some (.slice e))(hy:aX c.P t y=some y')
  (hz:fx c.P e=some z) (hv:af A y'=.view n p (c.P.cellsOf e) lo k) (hn:A.o n=some (.box b)) (hat:b.at p=some (.agg fs)) (hsh:I.cI (List.replicate k z)=I.cI ((fs.drop lo).take k)) (hd:o.dst=none) :
  gh c A o (A.aN n (.box (hE b p lo fs (List.replicate k z)))):=by
 intro a w D E hs;obtain ⟨i,zv,hi,hzv,hzr⟩:=km hz;have h0:=br hs hy;rw[hv] at h0;have hx:b6 A (.ptr n p)=some (.agg fs):=by simp only[b6,hn,hat]
 obtain ⟨yy,bk,cs,T,off,c1,c2,c3,k1,k2,k3,k4,k5,k6,k7,k8,k9,k10,k11,k12,hval⟩:=hs.view h0 hx;rw[hn] at k1;simp only[v6,ai.box.injEq] at k1;subst k1;have hr:aI w D E (List.replicate k z) (Builtin.zeroCells zv.cells k).toList:=by
  rw[um];exact qP (hzr w D E) k
 obtain ⟨w',h1,h2⟩:=hs.hE (j:=lo) (ys:=List.replicate k z) hn k2 k3 k4 k5 k6 k7 k8 k9 k10 hr (by simpa using k11) (by simpa using hsh) c.P;cases k with
 |zero =>
  refine ⟨w,.inl ⟨.tuple #[],?_,D,E,?_⟩⟩
  ·simp[execOp,ho,resolve,invoke,builtin,Builtin.clear_,run_underlying hu,hval]
  ·rw[hd];have:hE b p lo fs (List.replicate 0 z)=b.dm p (.agg fs):=by simp[hE]
   have hw:w'=w:=by
    simp[Builtin.zeroCells,storeCells] at h1;exact h1.symm
   rw[hw] at h2;exact h2
 |succ k =>
  refine ⟨w',.inl ⟨.tuple #[],?_,D,E,?_⟩⟩
  ·simp[execOp,ho,resolve,invoke,builtin,Builtin.clear_,run_underlying hu,hval,zeroValue,typeInfo,hi,hzv,h1]
  ·rw[hd];exact h2
theorem EU{w:World}{D:aJ}{E:aO} : ∀ l:List UInt8,aI w D E (l.map fun b=>I.int .u8 b.toNat) (l.map fun b=>Value.int .u8 b.toNat)
 | []=>rfl
 |b::l=>by
  simp only[zz7,aI];refine ⟨[.int .u8 b.toNat],_,rfl,?_,EU l⟩;simp only[ae,true_and];have:=b.toNat_lt;simp[IntKind.min,IntKind.max,IntKind.bits,IntKind.signed];omega
theorem aM.FI{a:Act}{w:World}{D:aJ}{E:aO}(hsim:aM c A a w D E){sz:Nat}{x:I}{v:Value}{ys:List I}(hv:aQ w D E x v)(hs:kj A sz x=some ys) :
  ∃ news:List Value,aI w D E ys news∧(∀ y∈ys,y.size=sz)∧ys.length≤maxLen∧(∀ P:Program,(Builtin.lenOf v).run P w=.ok ys.length w)∧∀ (P:Program) (m:Nat) (d2 rest:List Value),m≤ys.length→news=d2++rest→d2.length=m*sz→(Builtin.firstCells sz m v).run P w=.ok d2.toArray w:=by
 unfold kj at hs;split at hs
 ·rename_i s;split at hs
  case isFalse=>cases hs
  rename_i h1;subst h1;simp only[v6] at hs;subst hs;obtain ⟨rfl,hsz⟩:=gb hv;refine ⟨s.data.toList.map fun b=>.int .u8 b.toNat,EU _,?_,by simpa using hsz,fun P=>by simp[Builtin.lenOf],fun P m d2 rest hm e hl =>?_⟩
  ·intro y hy;obtain ⟨b,_,rfl⟩:=zx1.1 hy;simp[I.size]
  ·have e2:d2=(s.data.toList.map fun b=>Value.int .u8 b.toNat).take m:=by rw[e,List.take_left' (by omega)]
   have e3:=Lib.extract_data s 0 m;simp only[Builtin.firstCells,Sem.run_pure]
   congr 1
   apply Array.ext';rw[e2,Array.toList_map,e3];simp
 ·obtain ⟨ad,cp,news,s1,s2,s3,s4,s5,s6⟩:=hsim.l8 hv hs;refine ⟨news,s4,s5,by omega,fun P=>by rw[s1];simp[Builtin.lenOf],fun P m d2 rest hm e hl =>?_⟩;rw[s1];by_cases hm0:m=0
  ·have:d2=[]:=zw2 (by rw[hl,hm0];simp);subst this;cases ad with
   |none=>exact run_firstCells_none _ _ _ _ _
   |some ad=>exact run_firstCells_some w sz m ad ys.length cp [] (by simp[hm0]) (by simp)
  ·obtain ⟨b2,o2,rfl,hr⟩:=s6 (fun h=>by rw[h] at hm;simp at hm;omega);refine run_firstCells_some w sz m _ ys.length cp d2 hl fun j v hj =>?_;rw[Addr.add_lit];refine hr j v ?_;rw[e,zx8 (zz9.1 hj).1];exact hj
theorem Nz{t t' e:TypeId}{y x:Operand}{y' x':aF}{n:Nat}{p:List Nat}{lo k m:Nat}{b:I}{fs ys:List I}(ho:o.op=.call { callee:=.builtin .copy,args := #[y,x],argTypes := #[t,t'] })(hu:c.P.underlying t=some (.slice e))(hi:(c.P.info? e).isSome=true)
  (hy:aX c.P t y=some y') (hx:aX c.P t' x=some x') (hv:af A y'=.view n p (c.P.cellsOf e) lo k) (hn:A.o n=some (.box b)) (hat:b.at p=some (.agg fs)) (hs:kj A (c.P.cellsOf e) (af A x')=some ys) (hm:m=min ys.length k)
  (hsh:I.cI (ys.take m)=I.cI ((fs.drop lo).take m)) (hdn:∀ k,o.dst=some k→k<c.n) :
  gh c A o ((A.aN n (.box (hE b p lo fs (ys.take m)))).aP o.dst (.int .i64 m)):=by
 intro a w D E hsim;obtain ⟨i,hi⟩:=zy7.1 hi;have h0:=br hsim hy;rw[hv] at h0;have hxx:b6 A (.ptr n p)=some (.agg fs):=by simp only[b6,hn,hat]
 obtain ⟨yy,bk,cs,T,off,c1,c2,c3,k1,k2,k3,k4,k5,k6,k7,k8,k9,k10,k11,k12,hval⟩:=hsim.view h0 hxx;rw[hn] at k1;simp only[v6,ai.box.injEq] at k1;subst k1;obtain ⟨news,s4,s5,s3,s1,s6⟩:=hsim.FI (br hsim hx) hs;have hmy:m≤ys.length:=by omega
 have hci:c.P.cellsOf e=i.size:=by simp[Program.cellsOf,hi]
 obtain ⟨d1,d2,d3,e1,e2,e3,e4⟩:=tL s4 s5 0 m (by omega);simp only[Nat.zero_mul,List.drop_zero] at e2 e3;have e2':d1=[]:=zw2 e2;subst e2';simp only[zy4] at e1;have hlen:(ys.take m).length=m:=by rw[zy0];omega
 have hd2:d2.length=m*i.size:=by rw[aI.length _ _ e3,I.gv (sz:=c.P.cellsOf e) _ (fun y hy=>s5 y (List.mem_of_mem_take hy)),hlen,hci]
 obtain ⟨w',h1,h2⟩:=hsim.hE (j:=lo) (ys:=ys.take m) hn k2 k3 k4 k5 k6 k7 k8 k9 k10 e3 (by rw[hlen];omega) (by rw[hlen];exact hsh) c.P;have hf:=s6 c.P m d2 d3 hmy e1 (by rw[hd2,hci]);have h63:m≤maxLen:=by omega
 refine ⟨w',.inl ⟨.int .i64 m,?_,D,E,h2.aP hdn (iv (wb h63))⟩⟩;have hmin:Nat.min ys.length k=m:=hm.symm;have hlo:=s1 c.P;simp only[execOp,ho,resolve,invoke,builtin,Sem.run_bind,Sem.run_pure,Result.andThen_ok,List.map_toArray,zz7,zy9,hval];simp[Builtin.copy_,run_underlying hu,hlo,hmin,gG hi,hf,h1,goInt]
theorem NA{t t' e:TypeId}{y x:Operand}{y' x':aF}{z0:Nat}{ys:List I}(ho:o.op=.call { callee:=.builtin .copy,args := #[y,x],argTypes := #[t,t'] })(hu:c.P.underlying t=some (.slice e))(hi:(c.P.info? e).isSome=true)
  (hy:aX c.P t y=some y') (hx:aX c.P t' x=some x') (hv:af A y'=.c0 z0) (hs:kj A (c.P.cellsOf e) (af A x')=some ys) (hdn:∀ k,o.dst=some k→k<c.n) :
  gh c A o (A.aP o.dst (.int .i64 0)):=by
 intro a w D E hsim;obtain ⟨i,hi⟩:=zy7.1 hi;have h0:=br hsim hy;rw[hv] at h0;obtain ⟨cs,q1,q2⟩:=h0;simp only[ae] at q2;obtain ⟨ad,q2⟩:=q2;have hval:a.eval y=.slice ad 0 0:=by simpa[bd,I.isAgg,q2] using q1.symm
 obtain ⟨news,s4,s5,s3,s1,s6⟩:=hsim.FI (br hsim hx) hs;have hf:=s6 c.P 0 [] news (by omega) (by simp) (by simp);have hlo:=s1 c.P;refine ⟨w,.inl ⟨.int .i64 0,?_,D,E,hsim.aP hdn (iv ⟨by decide,by decide⟩)⟩⟩;have hmin:Nat.min ys.length 0=0:=Nat.min_eq_right (by omega);simp only[execOp,ho,resolve,invoke,builtin,Sem.run_bind,Sem.run_pure,Result.andThen_ok,List.map_toArray,zz7,zy9,hval];cases ad <;>simp[Builtin.copy_,run_underlying hu,hlo,gG hi,hf,goInt,storeCells]
theorem oo{a:Act}{w:World}{D:aJ}{E:aO}(hs:aM c A a w D E){sz:Nat}{x:I}{v:Value}{es:List I}(hv:aQ w D E x v)(he:cT A sz x=some es) :
  ∃ ad cp olds,v=.slice ad es.length cp∧es.length≤cp∧cp≤maxLen∧aI w D E es olds∧(∀ y∈es,y.size=sz)∧∀ (P:Program) (w':World),(∀ p u,w.cell? p=some u→w'.cell? p=some u)→(Builtin.firstCells sz es.length v).run P w'=.ok olds.toArray w':=by
 obtain ⟨ad,cp,news,s1,s2,s3,s4,s5,s6⟩:=hs.l8 hv he;refine ⟨ad,cp,news,s1,s2,s3,s4,s5,fun P w' hw =>?_⟩;have hl:news.length=es.length*sz:=by rw[aI.length _ _ s4,I.gv _ s5]
 rw[s1];by_cases h0:es=[]
 ·subst h0;have:news=[]:=zw2 (by rw[hl];simp);subst this;cases ad with
  |none=>exact run_firstCells_none _ _ _ _ _
  |some ad=>exact run_firstCells_some w' sz _ ad _ cp [] (by simp) (by simp)
 ·obtain ⟨b,o',rfl,hr⟩:=s6 h0;exact run_firstCells_some w' sz _ _ _ cp news hl fun j v hj=>by rw[Addr.add_lit];exact hw _ _ (hr j v hj)
theorem HI{t e:TypeId}{s x:Operand}{s' x':aF}{es ys:List I}{z:I}{d:Nat}(ho:o.op=.call { callee:=.builtin .append,args := #[s,x],argTypes := #[t,t] })(hu:c.P.underlying t=some (.slice e))(hs':aX c.P t s=some s')(hx':aX c.P t x=some x')
  (hz:fx c.P e=some z) (hzs:z.size=c.P.cellsOf e) (hse:cT A (c.P.cellsOf e) (af A s')=some es) (hsx:cT A (c.P.cellsOf e) (af A x')=some ys) (hby:(es.length+ys.length)*c.P.bytesOf e≤140737488355328)
  (hd:o.dst=some d) (hdn:d<c.n) (hf:A.o d=none) (hne:ys≠[]) {a:Act} {w:World} {D:aJ} {E:aO} (hsim:aM c A a w D E) (hfull:∀ ad l cp,a.eval s=.slice ad l cp→cp<l+ys.length) (hml:es.length+ys.length≤maxLen) :
  ∃ v w' m,(execOp a.eval o).run c.P w=.ok (.value v) w'∧es.length+ys.length+m≤maxLen ∧
   bG c ((A.aN d (.box (.agg (es++(ys++List.replicate m z))))).aP o.dst (.view d [] (c.P.cellsOf e) 0 (es.length+ys.length))) (a.put o.dst v) w':=by
 obtain ⟨i,zv,hi,hzv,hzr⟩:=km hz;have hci:c.P.cellsOf e=i.size:=by simp[Program.cellsOf,hi]
 have hbi:c.P.bytesOf e=i.bytes:=by simp[Program.bytesOf,hi]
 obtain ⟨ad1,cp1,olds,s1,s2,s3,s4,s5,s6⟩:=oo hsim (br hsim hs') hse;obtain ⟨ad2,cp2,news,t1,t2,t3,t4,t5,t6⟩:=oo hsim (br hsim hx') hsx;have hlt:=hfull _ _ _ s1;obtain ⟨m,hm⟩:∃ m,m=grownCap w (es.length+ys.length) cp1 e-(es.length+ys.length):=⟨_,rfl⟩
 have hge:=grownCap_ge w (es.length+ys.length) cp1 e;have hle:=grownCap_le_maxLen w (es.length+ys.length) cp1 e hml;obtain ⟨cells,hcells⟩:∃ cells:Array Value,cells=olds.toArray++news.toArray++Builtin.zeroCells zv.cells m:=⟨_,rfl⟩
 have hrun:(Builtin.append_ #[t,t] o.type #[a.eval s,a.eval x]).run c.P w=.ok (.slice (some ⟨w.heap.size,0,none⟩) (es.length+ys.length) (grownCap w (es.length+ys.length) cp1 e)) (w.drew.alloc (.cells cells e)):=by
  have hn:¬ (es.length+ys.length≤cp1):=by omega
  have h63:¬ (9223372036854775807<((es.length:Int)+(ys.length:Int))):=by simp only[maxLen] at hml;omega
  have h48:¬ (281474976710656<Builtin.nextslicecap (es.length+ys.length) cp1*i.bytes):=by
   have h3:(es.length+ys.length)*i.bytes≤140737488355328:=by rw[←hbi];exact hby
   have:=growslice_fits hlt h3;omega
  have g1:=s6 c.P w.drew (fun _ _ h=>h);have g2:=t6 c.P w.drew (fun _ _ h=>h);rw[s1,hci] at g1;rw[t1,hci] at g2;rw[s1,t1,hcells,hm];simp[Builtin.append_,run_underlying hu,sizeOf,typeInfo,zeroValue,hi,hzv,Builtin.lenOf,hn,h63,h48,Question.forced,g1,g2,newRow,grownCap]
  congr 2
  apply Array.ext';simp[zy3]
 have hcl:cells.toList=olds++(news++(List.replicate m zv.cells.toList).flatten):=by
  rw[hcells];simp[um]
 have hrc:ae w D E (.agg (es++(ys++List.replicate m z))) cells.toList:=by
  rw[hcl];simp only[ae];exact jq _ _ _ _ s4 (jq _ _ _ _ t4 (qP (hzr w D E) m))
 have hsim':aM c A a w.drew D E:=hsim.grow ⟨rfl,rfl,rfl,zz8 _,fun _ _=>rfl⟩ (fun _ _ h=>h) (fun _ _ h _=>h) (fun b o h=>hsim.cQ b o h);have hrc':ae w.drew D E (.agg (es++(ys++List.replicate m z))) cells.toList:=ae.later (w:=w) (w':=w.drew) (D:=D) (E:=E) ⟨fun _ _ h=>h,fun _ _ _ _ h=>h,fun _ _ _ h=>h,fun _ aH l h=>⟨aH,l,h,zz8 _,fun _=>rfl⟩,fun _ _ h=>h,fun _ _ h=>h,fun _ _ _ _ h=>h⟩ _ _ hrc;have h1:=hsim'.qG (T:=e) (.inl hdn) hf hrc';have hall:∀ y∈es++(ys++List.replicate m z),y.size=c.P.cellsOf e:=by
  intro y hy;rcases zw1.1 hy with hy | hy
  ·exact s5 y hy
  ·rcases zw1.1 hy with hy | hy
   ·exact t5 y hy
   ·rw[List.eq_of_mem_replicate hy];exact hzs
 have hlen:(es++(ys++List.replicate m z)).length=es.length+ys.length+m:=by simp[Nat.add_assoc]
 have h2:=h1.put (d:=d) (x:=.view d [] (c.P.cellsOf e) 0 (es.length+ys.length)) (v:=.slice (some ⟨w.heap.size,0,none⟩) (es.length+ys.length) (grownCap w (es.length+ys.length) cp1 e)) hdn ⟨_,by simp[bd,I.isAgg];rfl,by
  simp only[ae,if_true];refine ⟨w.heap.size,(I.agg (es++(ys++List.replicate m z))).aL,0,I.cI (es++(ys++List.replicate m z)),rfl,by cases (I.agg (es++(ys++List.replicate m z))).aL <;>simp[bY.off],by simp only[I.aL,bY.part],?_,?_,?_,?_⟩
  ·rw[I.cM,zz2,hlen,hm];simp;omega
  ·rw[I.cM,zz2,hlen];omega
  ·rw[I.cM,zz2,hlen];omega
  ·rw[I.cM];intro s hs;obtain ⟨f,hf,rfl⟩:=zx1.1 hs;rw[I.iC];exact hall f hf⟩
 refine ⟨.slice (some ⟨w.heap.size,0,none⟩) (es.length+ys.length) (grownCap w (es.length+ys.length) cp1 e),w.drew.alloc (.cells cells e),m,?_,by omega,?_⟩
 ·unfold execOp;simp only[ho,resolve,invoke,builtin,Sem.run_bind,Sem.run_pure,Result.andThen_ok,List.map_toArray,zz7,zy9,hrun]
 ·rw[hd];exact ⟨D,_,h2⟩
theorem HK{t t' e:TypeId}{s x:Operand}{s' x':aF}{es:List I}{k:Nat}{kx kt:IntKind}{bg:Int}{z:I}{d:Nat}(ho:o.op=.call { callee:=.builtin .append,args := #[s,x],argTypes := #[t,t'] })(hu:c.P.underlying t=some (.slice e))(hs':aX c.P t s=some s')(hx':aX c.P t' x=some x')(ht':c.P.underlying t'=some (.int kt))(hvx:af A x'=.int kx bg)(hk:bg.toNat=k)(hk0:0<k)(hpos:0<c.P.cellsOf e)
  (hz:fx c.P e=some z) (hzs:z.size=c.P.cellsOf e) (hse:cT A (c.P.cellsOf e) (af A s')=some es) (hby:(es.length+k)*c.P.bytesOf e≤140737488355328)
  (hd:o.dst=some d) (hdn:d<c.n) (hf:A.o d=none) {a:Act} {w:World} {D:aJ} {E:aO} (hsim:aM c A a w D E) (hfull:∀ ad l cp,a.eval s=.slice ad l cp→cp<l+k) (hml:es.length+k≤maxLen) :
  ∃ v w' m,(execOp a.eval o).run c.P w=.ok (.value v) w'∧es.length+k+m≤maxLen ∧
   bG c ((A.aN d (.box (.agg (es++(List.replicate k z++List.replicate m z))))).aP o.dst (.view d [] (c.P.cellsOf e) 0 (es.length+k))) (a.put o.dst v) w':=by
 obtain ⟨i,zv,hi,hzv,hzr⟩:=km hz;have hci:c.P.cellsOf e=i.size:=by simp[Program.cellsOf,hi]
 have hbi:c.P.bytesOf e=i.bytes:=by simp[Program.bytesOf,hi]
 obtain ⟨ad1,cp1,olds,s1,s2,s3,s4,s5,s6⟩:=oo hsim (br hsim hs') hse;have v2:=br hsim hx';rw[hvx] at v2;have t1:a.eval x=.int kx ((k:Nat):Int):=by rw[(dh v2).1];congr 1;omega
 have t4:aI w D E (List.replicate k z) (List.replicate k zv.cells.toList).flatten:=qP (hzr w D E) k;have t5:∀ y∈List.replicate k z,y.size=c.P.cellsOf e:=fun y hy=>by rw[List.eq_of_mem_replicate hy];exact hzs
 have hlt:=hfull _ _ _ s1;obtain ⟨m,hm⟩:∃ m,m=grownCap w (es.length+k) cp1 e-(es.length+k):=⟨_,rfl⟩
 have hge:=grownCap_ge w (es.length+k) cp1 e;have hle:=grownCap_le_maxLen w (es.length+k) cp1 e hml;obtain ⟨cells,hcells⟩:∃ cells:Array Value,cells=olds.toArray++Builtin.zeroCells zv.cells k++Builtin.zeroCells zv.cells m:=⟨_,rfl⟩
 have hrun:(Builtin.append_ #[t,t'] o.type #[a.eval s,a.eval x]).run c.P w=.ok (.slice (some ⟨w.heap.size,0,none⟩) (es.length+k) (grownCap w (es.length+k) cp1 e)) (w.drew.alloc (.cells cells e)):=by
  have h3:(es.length+k)*i.bytes≤140737488355328:=by rw[←hbi];exact hby
  have g1:=s6 c.P w.drew (fun _ _ h=>h);rw[s1,hci] at g1;have hfit:=growslice_fits hlt h3;have hkb:k*i.bytes≤(es.length+k)*i.bytes:=Nat.mul_le_mul_right _ (by omega);rw[s1,t1,hcells,hm];exact Lib.run_append_grow_zeros w t t' o.type e i zv kx kt hu ht' hi hzv ad1 es.length cp1 olds g1 k hk0 (by rw[←hci];exact hpos) hlt (by simp only[maxLen] at hml;omega) (by omega) (by omega)
 have hcl:cells.toList=olds++((List.replicate k zv.cells.toList).flatten++(List.replicate m zv.cells.toList).flatten):=by
  rw[hcells];simp[um]
 have hrc:ae w D E (.agg (es++(List.replicate k z++List.replicate m z))) cells.toList:=by
  rw[hcl];simp only[ae];exact jq _ _ _ _ s4 (jq _ _ _ _ t4 (qP (hzr w D E) m))
 have hsim':aM c A a w.drew D E:=hsim.grow ⟨rfl,rfl,rfl,zz8 _,fun _ _=>rfl⟩ (fun _ _ h=>h) (fun _ _ h _=>h) (fun b o h=>hsim.cQ b o h);have hrc':ae w.drew D E (.agg (es++(List.replicate k z++List.replicate m z))) cells.toList:=ae.later (w:=w) (w':=w.drew) (D:=D) (E:=E) ⟨fun _ _ h=>h,fun _ _ _ _ h=>h,fun _ _ _ h=>h,fun _ aH l h=>⟨aH,l,h,zz8 _,fun _=>rfl⟩,fun _ _ h=>h,fun _ _ h=>h,fun _ _ _ _ h=>h⟩ _ _ hrc;have h1:=hsim'.qG (T:=e) (.inl hdn) hf hrc';have hall:∀ y∈es++(List.replicate k z++List.replicate m z),y.size=c.P.cellsOf e:=by
  intro y hy;rcases zw1.1 hy with hy | hy
  ·exact s5 y hy
  ·rcases zw1.1 hy with hy | hy
   ·exact t5 y hy
   ·rw[List.eq_of_mem_replicate hy];exact hzs
 have hlen:(es++(List.replicate k z++List.replicate m z)).length=es.length+k+m:=by simp[Nat.add_assoc]
 have h2:=h1.put (d:=d) (x:=.view d [] (c.P.cellsOf e) 0 (es.length+k)) (v:=.slice (some ⟨w.heap.size,0,none⟩) (es.length+k) (grownCap w (es.length+k) cp1 e)) hdn ⟨_,by simp[bd,I.isAgg];rfl,by
  simp only[ae,if_true];refine ⟨w.heap.size,(I.agg (es++(List.replicate k z++List.replicate m z))).aL,0,I.cI (es++(List.replicate k z++List.replicate m z)),rfl,by cases (I.agg (es++(List.replicate k z++List.replicate m z))).aL <;>simp[bY.off],by simp only[I.aL,bY.part],?_,?_,?_,?_⟩
  ·rw[I.cM,zz2,hlen,hm];simp;omega
  ·rw[I.cM,zz2,hlen];omega
  ·rw[I.cM,zz2,hlen];omega
  ·rw[I.cM];intro s hs;obtain ⟨f,hf,rfl⟩:=zx1.1 hs;rw[I.iC];exact hall f hf⟩
 refine ⟨.slice (some ⟨w.heap.size,0,none⟩) (es.length+k) (grownCap w (es.length+k) cp1 e),w.drew.alloc (.cells cells e),m,?_,by omega,?_⟩
 ·unfold execOp;simp only[ho,resolve,invoke,builtin,Sem.run_bind,Sem.run_pure,Result.andThen_ok,List.map_toArray,zz7,zy9,hrun]
 ·rw[hd];exact ⟨D,_,h2⟩
theorem Nv{t e:TypeId}{s x:Operand}{s' x':aF}{ys:List I}{n:Nat}{p:List Nat}{lo k:Nat}{b:I}{fs:List I}(ho:o.op=.call { callee:=.builtin .append,args := #[s,x],argTypes := #[t,t] })(hu:c.P.underlying t=some (.slice e))(hi:(c.P.info? e).isSome=true)
  (hs':aX c.P t s=some s') (hx':aX c.P t x=some x') (hv:af A s'=.view n p (c.P.cellsOf e) lo k) (hn:A.o n=some (.box b)) (hat:b.at p=some (.agg fs)) (hsx:cT A (c.P.cellsOf e) (af A x')=some ys) (hroom:lo+k+ys.length≤fs.length)
  (hsh:I.cI ys=I.cI ((fs.drop (lo+k)).take ys.length)) (hdn:∀ k,o.dst=some k→k<c.n) :
  gh c A o ((A.aN n (.box (hE b p (lo+k) fs ys))).aP o.dst (.view n p (c.P.cellsOf e) lo (k+ys.length))):=by
 intro a w D E hsim;obtain ⟨i,hi⟩:=zy7.1 hi;have hci:c.P.cellsOf e=i.size:=by simp[Program.cellsOf,hi]
 have h0:=br hsim hs';rw[hv] at h0;have hxx:b6 A (.ptr n p)=some (.agg fs):=by simp only[b6,hn,hat]
 obtain ⟨yy,bk,cs,T,off,c1,c2,c3,k1,k2,k3,k4,k5,k6,k7,k8,k9,k10,k11,k12,hval⟩:=hsim.view h0 hxx;rw[hn] at k1;simp only[v6,ai.box.injEq] at k1;subst k1;obtain ⟨ad2,cp2,news,t1,t2,t3,t4,t5,t6⟩:=oo hsim (br hsim hx') hsx;obtain ⟨w',h1,h2⟩:=hsim.hE (j:=lo+k) (ys:=ys) hn k2 k3 k4 k5 k6 k7 k8 k9 k10 t4 hroom hsh c.P;have g2:=t6 c.P w (fun _ _ h=>h);rw[t1,hci] at g2;have hr:k+ys.length≤fs.length-lo:=by omega
 refine ⟨w',.inl ⟨.slice (some ⟨bk,off+lo*c.P.cellsOf e,none⟩) (k+ys.length) (fs.length-lo),?_,D,E,h2.aP hdn ?_⟩⟩
 ·have e1:off+lo*i.size+k*i.size=off+(lo+k)*c.P.cellsOf e:=by rw[hci,Nat.add_mul];omega
  unfold execOp;simp only[ho,resolve,invoke,builtin,Sem.run_bind,Sem.run_pure,Result.andThen_ok,List.map_toArray,zz7,zy9,hval,t1];simp[Builtin.append_,run_underlying hu,sizeOf,typeInfo,hi,Builtin.lenOf,hr,g2,Addr.add_lit,hci,e1];rw[hci] at h1;simp[h1]
 ·refine ⟨_,by simp[bd,I.isAgg];rfl,?_⟩;simp only[ae];refine ⟨bk,b.aL,off,I.cI fs,k2,k5,lW p b _ k4,?_,?_,?_,?_⟩
  ·rw[I.cM,zz2]
  ·rw[I.cM,zz2];exact k12
  ·rw[I.cM,zz2];omega
  ·rw[I.cM];intro s hs;obtain ⟨f,hf,rfl⟩:=zx1.1 hs;rw[I.iC];exact k10 f hf
theorem Nw{t e:TypeId}{s x:Operand}{s' x':aF}{es:List I}(ho:o.op=.call { callee:=.builtin .append,args := #[s,x],argTypes := #[t,t] })(hu:c.P.underlying t=some (.slice e))(hi:(c.P.info? e).isSome=true)(hs':aX c.P t s=some s')(hx':aX c.P t x=some x')
  (hse:cT A (c.P.cellsOf e) (af A s')=some es) (hsx:cT A (c.P.cellsOf e) (af A x')=some []):cN c A o (af A s') :=
 .same fun a w D E hsim=>by
  obtain ⟨i,hi⟩:=zy7.1 hi;have hci:c.P.cellsOf e=i.size:=by simp[Program.cellsOf,hi]
  obtain ⟨ad1,cp1,olds,s1,s2,s3,s4,s5,s6⟩:=oo hsim (br hsim hs') hse;obtain ⟨ad2,cp2,news,t1,t2,t3,t4,t5,t6⟩:=oo hsim (br hsim hx') hsx;have g2:=t6 c.P w (fun _ _ h=>h);rw[t1,hci] at g2;simp only[aI] at t4;subst t4;refine ⟨a.eval s,?_,br hsim hs'⟩;simp only[zx9] at g2 t1;unfold execOp;simp only[ho,resolve,invoke,builtin,Sem.run_bind,Sem.run_pure,Result.andThen_ok,List.map_toArray,zz7,zy9,s1,t1];cases ad1 <;>simp[Builtin.append_,run_underlying hu,sizeOf,typeInfo,hi,Builtin.lenOf,s2,g2,storeCells]
end
theorem AT{w:World}{D:aJ}{E:aO} : ∀ (l:List cm) (xs ys:List I) (cs ds:List Value),l.all vS=true→gB l xs ys=some true→aI w D E xs cs→aI w D E ys ds→xs=ys∧cs=ds∧∀ v∈cs,∃ k n,v=.int k n
 | [],xs,ys,cs,ds,_,h,hx,hy=>by
  simp only[gB] at h;split at h
  ·simp only[aI] at hx hy;subst hx hy;exact ⟨rfl,rfl,fun v hv=>by simp at hv⟩
  ·cases h
 |t::ts,xs,ys,cs,ds,ha,h,hx,hy=>by
  simp only[List.all_cons,zz0] at ha;simp only[gB] at h;split at h
  case h_2=>cases h
  rename_i f fs g gs;unfold ib at h;split at h
  case h_2=>cases h
  rename_i a b h1 h2;simp only[v6,zz0] at h;obtain ⟨rfl,rfl⟩:=h;simp only[aI] at hx hy;obtain ⟨c1,c2,rfl,p1,p2⟩:=hx;obtain ⟨d1,d2,rfl,q1,q2⟩:=hy;obtain ⟨rfl,rfl,k3⟩:=AT ts fs gs c2 d2 ha.2 h2 p2 q2;cases t with
  |i k =>
   simp only[bV] at h1;split at h1
   case h_2=>cases h1
   rename_i k1 a k2 b;split at h1
   case isFalse=>cases h1
   rename_i hk;simp only[v6,beq_iff_eq] at h1;subst h1;obtain ⟨rfl,rfl⟩:=hk;simp only[ae] at p1 q1;obtain ⟨rfl,_⟩:=p1;obtain ⟨rfl,_⟩:=q1;refine ⟨rfl,rfl,fun v hv =>?_⟩;rcases zw1.1 hv with hv | hv
   ·simp at hv;exact ⟨_,_,hv⟩
   ·exact k3 v hv
  |b | s | aS _ | mj _ _=>simp[vS] at ha
theorem Fw:∀ (cs:List Value) (n:Nat),(∀ v∈cs,∃ k m,v=.int k m)→((cs.zip cs).all fun (x,y)=>Instr.sameBits n x y)=true
 | [],_,_=>rfl
 |v::cs,n,h=>by
  obtain ⟨k,m,rfl⟩:=h v (by simp);simp only[List.zip_cons_cons,List.all_cons,zz0];exact ⟨by cases n <;>simp[Instr.sameBits],Fw cs n fun v hv=>h v (by simp[hv])⟩
theorem YO{P:Program}{t:TypeId}{ty:cm}{w:World}{D:aJ}{E:aO}{x y:I}{u v:Value}(hk:jF P t=some ty)(h:bV ty x y=some true)(hx:aQ w D E x u)(hy:aQ w D E y v):x=y∧u=v∧Instr.sameBits 10000 u v=true:=by
 unfold jF at hk;split at hk
 ·rename_i k hu;simp only[v6] at hk;subst hk;simp only[bV] at h;split at h
  case h_2=>cases h
  split at h
  case isFalse=>cases h
  rename_i hk;simp only[v6,beq_iff_eq] at h;subst h;obtain ⟨rfl,rfl⟩:=hk;rw[(dh hx).1,(dh hy).1];exact ⟨rfl,rfl,by simp[Instr.sameBits]⟩
 ·rename_i fs hu;split at hk
  case h_2=>cases hk
  rename_i l hl;split at hk
  case isFalse=>cases hk
  rename_i hc;simp only[v6] at hk;subst hk;simp only[bV] at h;split at h
  case h_2=>cases h
  rename_i xs ys;obtain ⟨cs,rfl,hc1⟩:=iS hx;obtain ⟨ds,rfl,hd1⟩:=iS hy;obtain ⟨rfl,rfl,h3⟩:=AT l xs ys cs ds hc.1 h hc1 hd1;refine ⟨rfl,rfl,?_⟩;simp only[Instr.sameBits,beq_self_eq_true,Bool.true_and];exact Fw cs _ h3
 ·cases hk
section
variable {P:Program} {w:World} {D:aJ} {E:aO}
theorem u7{t:TypeId}{ty:cm}{em:Bool}{x y:I}{v:Value}{r:Bool}(hk:jF P t=some ty)(hx:aQ w D E x v)(h:bV ty x y=some r)(n:Nat):(Instr.checkKey em (n+2) t v).run P w=.ok () w:=by
 unfold jF at hk;split at hk
 ·rename_i k hu;simp only[v6] at hk;subst hk;simp only[bV] at h;split at h
  case h_2=>cases h
  rename_i k1 a k2 b;split at h
  case isFalse=>cases h
  rename_i hq;rw[(dh hx).1,hq.1];exact MapKept.run_checkKey hu (by simp[MapKept.IsKey]) em (n+1)
 ·rename_i fs hu;split at hk
  case h_2=>cases hk
  rename_i l hl;split at hk
  case isFalse=>cases hk
  rename_i hc;simp only[v6] at hk;subst hk;simp only[bV] at h;split at h
  case h_2=>cases h
  rename_i xs ys;obtain ⟨cs,rfl,hc1⟩:=iS hx;obtain ⟨d,hd⟩:∃ d,d=11:=⟨_,rfl⟩
  rw[show (12:Nat)=d+1 from by omega] at hl;simp only[fW,hu] at hl;split at hl
  case isFalse=>cases hl
  rename_i hc2;simp only[t8,cm.aS.injEq] at hl;obtain ⟨l',hl,rfl⟩:=hl;rw[show n+2=(n+1)+1 from rfl,Instr.checkKey];simp only[Sem.run_bind,run_underlying hu,Result.andThen_ok];rw[←Array.forIn_toList];have key:∀ (ao:List Field) (l:List cm) (xs ys:List I) (r:Bool) (c1 c2:List Value),
    (ao.mapM fun f=>match fW P d f.type with
     |some ty=>if ty.size=P.cellsOf f.type then some ty else none
     | none => none) = some l → (∀ f ∈ ao, f.name ≠ "_" ∧ qt (P.underlying f.type) = true) → oZ P c1.length ao = true → aI w D E xs c2 → gB l xs ys = some r → c1 ++ c2 = cs →
    Sem.run P (forIn ao PUnit.unit (fun (f : Field) (_ : PUnit) => (if f.name ≠ "_" then (do
     let x ←part f.type cs.toArray f.offset
     Instr.checkKey em (n+1) f.type x
     pure (ForInStep.yield PUnit.unit)) else pure (ForInStep.yield PUnit.unit):Sem (ForInStep PUnit)))) w=.ok PUnit.unit w:=by
   intro ao
   induction ao with
   |nil=>intros;simp
   |cons f ao ih =>
    intro l xs ys r c1 c2 hm hn ho hx h htot;simp only[List.mapM_cons,Option.bind_eq_bind,Option.pure_def,zw4,v6] at hm;obtain ⟨ty,hty,tys,htys,rfl⟩:=hm;split at hty
    case h_2=>cases hty
    rename_i ty' hd';split at hty
    case isFalse=>cases hty
    rename_i hsz;simp only[v6] at hty;subst hty;simp only[gB] at h;split at h
    case h_2=>cases h
    rename_i x xs y ys;unfold ib at h;split at h
    case h_2=>cases h
    rename_i ra rb h1 h2;simp only[aI] at hx;obtain ⟨e1,e2,rfl,k1,k2⟩:=hx;obtain ⟨s,q1,q2,q3⟩:=vh hd' hsz h1;obtain ⟨u,p1,p2⟩:=nN (P:=P) (w:=w) (c1:=c1) (c3:=e2) q1 q2 k1;simp only[oZ,zz0,beq_iff_eq] at ho;have hsx:=oF ty' x y ra h1;have hle:e1.length=P.cellsOf f.type:=by rw[ae.length _ _ k1,hsx.1,hsz]
    have ih':=ih tys xs ys rb (c1++e1) e2 htys (fun g hg=>hn g (by simp[hg])) (by simp only[zz1,hle];exact ho.2) k2 h2 (by rw[←htot];simp);rw[zy3,htot,←ho.1] at p1;obtain ⟨hnm,hint⟩:=hn f (by simp);have hck:(Instr.checkKey em (n+1) f.type u).run P w=.ok () w:=by
     cases hu:P.underlying f.type with
     |none=>simp[hu,qt] at hint
     |some dd =>
      cases dd <;>simp[hu,qt] at hint
      rename_i q;have hti:ty'=.i q:=by
       rw[show d=10+1 from by omega] at hd';unfold fW at hd';simp only[hu,v6] at hd';exact hd'.symm
      subst hti;simp only[bV] at h1;split at h1
      case h_2=>cases h1
      split at h1
      case isFalse=>cases h1
      rename_i hq;rw[(dh p2).1,hq.1];exact MapKept.run_checkKey hu (by simp[MapKept.IsKey]) em n
    simp only[List.forIn_cons,Sem.run_bind,hnm,ne_eq,not_false_eq_true,if_true,p1,Result.andThen_ok,hck,Sem.run_pure];exact ih'
  rw[key fs.toList l' xs ys r [] cs hl (fun f hf=>⟨by simpa using zx3.1 hc2.2.1 f hf,Array.all_eq_true_iff_forall_mem.1 hc.2 f (Array.mem_toList_iff.1 hf)⟩) hc2.2.2 hc1 h rfl];simp
 ·cases hk
theorem w9{x:I}{xs:List I}{vs:List Value}(h:aB w D E (x::xs) vs):∃ v rest,vs=v::rest∧aQ w D E x v∧aB w D E xs rest:=by
 simp only[aB] at h;obtain ⟨v,rest,cs,rfl,h1,h2,h3⟩:=h;exact ⟨v,rest,rfl,fD h1 h2,h3⟩
def oe(r:Option Nat)(es:List MapEntry)(i:Nat)(q:Option (Nat×Value)):Prop :=
 (r=none∧q=none)∨∃ j e,r=some (i+j)∧es[j]?=some e∧q=some (i+j,e.val)
theorem oe.step{r:Option Nat}{es:List MapEntry}{e:MapEntry}{i:Nat}{q:Option (Nat×Value)}(h:oe r es (i+1) q):oe r (e::es) i q:=by
 rcases h with h | ⟨j,e',h1,h2,h3⟩
 ·exact .inl h
 ·exact .inr ⟨j+1,e',by rw[h1];congr 1;omega,by simpa using h2,by rw[h3];congr 2;omega⟩
theorem Be{q:IntKind}{k:I}{v:Value}(hv:aQ w D E k v):∀ (ks:List I) (es:List MapEntry) (i:Nat) (r:Option Nat),aB w D E ks (es.map (·.key))→gC (.i q) k ks i=some r →
  ∃ x,Instr.findNow (.int q) v es i=some x∧oe r es i x
 | [],es,i,r,hk,h=>by
  simp only[gC,v6] at h;simp only[aB,List.map_eq_nil_iff] at hk;subst h hk;exact ⟨none,rfl,.inl ⟨rfl,rfl⟩⟩
 |x::ks,es,i,r,hk,h=>by
  obtain ⟨u,rest,e1,hu,hr⟩:=w9 hk;cases es with
  |nil=>cases e1
  |cons e es =>
   simp only[zz7,zy6] at e1;obtain ⟨rfl,rfl⟩:=e1;simp only[gC] at h;have same:∀ b,bV (.i q) k x=some b→Instr.sameNow (.int q) v e.key=some b:=fun b hb=>by
    simp only[bV] at hb;split at hb
    case h_2=>cases hb
    split at hb
    case isFalse=>cases hb
    rename_i hq;simp only[v6] at hb;subst hb;rw[(dh hv).1,(dh hu).1];simp[Instr.sameNow,hq.1,hq.2]
   split at h
   ·rename_i hb;simp only[v6] at h;subst h;exact ⟨some (i,e.val),by simp[Instr.findNow,same _ hb],.inr ⟨0,e,rfl,rfl,rfl⟩⟩
   ·rename_i hb;obtain ⟨y,h1,h2⟩:=Be hv ks es (i+1) r hr h;exact ⟨y,by simp[Instr.findNow,same _ hb,h1],h2.step⟩
   ·cases h
theorem Bb{t:TypeId}{ty:cm}(hty:fW P 12 t=some ty){k:I}{v:Value}(hv:aQ w D E k v):∀ (ks:List I) (es:List MapEntry) (i:Nat) (r:Option Nat),aB w D E ks (es.map (·.key))→gC ty k ks i=some r →
  ∃ x,(Instr.findAsking t v es i).run P w=.ok x w∧oe r es i x
 | [],es,i,r,hk,h=>by
  simp only[gC,v6] at h;simp only[aB,List.map_eq_nil_iff] at hk;subst h hk;exact ⟨none,rfl,.inl ⟨rfl,rfl⟩⟩
 |x::ks,es,i,r,hk,h=>by
  obtain ⟨u,rest,e1,hu,hr⟩:=w9 hk;cases es with
  |nil=>cases e1
  |cons e es =>
   simp only[zz7,zy6] at e1;obtain ⟨rfl,rfl⟩:=e1;simp only[gC] at h;have same:∀ b,bV ty k x=some b→(Op.equal t v e.key).run P w=.ok b w:=fun b hb=>sc 12 t ty hty k x v e.key b hv hu hb _ (by simp[Op.maxDepth]);split at h
   ·rename_i hb;simp only[v6] at h;subst h;exact ⟨some (i,e.val),by simp[Instr.findAsking,same _ hb],.inr ⟨0,e,rfl,rfl,rfl⟩⟩
   ·rename_i hb;obtain ⟨y,h1,h2⟩:=Bb hty hv ks es (i+1) r hr h;exact ⟨y,by simp[Instr.findAsking,same _ hb,h1],h2.step⟩
   ·cases h
theorem oJ{t:TypeId}{ty:cm}(hk:jF P t=some ty){k:I}{v:Value}(hv:aQ w D E k v){ks:List I}{es:List MapEntry}{r:Option Nat}(hks:aB w D E ks (es.map (·.key)))(h:gC ty k ks 0=some r) :
  ∃ x,(Instr.findKey t v es).run P w=.ok x w∧oe r es 0 x:=by
 have hk0:=hk;unfold jF at hk;split at hk
 ·rename_i q hu;simp only[v6] at hk;subst hk;obtain ⟨x,h1,h2⟩:=Be hv ks es 0 r hks h;exact ⟨x,by simp[Instr.findKey,run_underlying hu,h1],h2⟩
 ·rename_i fs hu;split at hk
  case h_2=>cases hk
  rename_i l hl;split at hk
  case isFalse=>cases hk
  simp only[v6] at hk;subst hk;cases es with
  |nil =>
   cases ks with
   |nil =>
    simp only[gC,v6] at h;subst h;exact ⟨none,by simp[Instr.findKey,run_underlying hu,Instr.findNow],.inl ⟨rfl,rfl⟩⟩
   |cons x xs=>simp[aB] at hks
  |cons e es =>
   obtain ⟨x,h1,h2⟩:=Bb hl hv ks (e::es) 0 r hks h;exact ⟨x,by simp[Instr.findKey,run_underlying hu,Instr.findNow,Instr.sameNow,h1],h2⟩
 ·cases hk
theorem lS:∀ {xs:List I} {vs:List Value} {j:Nat} {v:Value},aB w D E xs vs→vs[j]?=some v→∃ x,xs[j]?=some x∧aQ w D E x v
 | [],vs,j,v,h,hj=>by simp only[aB] at h;subst h;simp at hj
 |x::xs,vs,j,v,h,hj=>by
  obtain ⟨u,rest,rfl,h1,h2⟩:=w9 h;cases j with
  |zero=>simp only[List.getElem?_cons_zero,v6] at hj;subst hj;exact ⟨x,rfl,h1⟩
  |succ j=>exact lS (xs:=xs) h2 (by simpa using hj)
end
section
variable {c:ct} {A:ab} {o:Oper} {x:I}
theorem Zi{a:Act}{w:World}{D:aJ}{E:aO}(hs:aM c A a w D E){m:I}{v:Value}{ks vs:List I}(hv:aQ w D E m v)(hm:fY A m=some (ks,vs)) :
  (v=.map none∧ks=[]∧vs=[])∨∃ b es clock,v=.map (some b)∧w.heap[b]?=some (.map es clock)∧aB w D E ks (es.toList.map (·.key))∧aB w D E vs (es.toList.map (·.val)):=by
 unfold fY at hm;split at hm
 ·simp only[v6,Prod.mk.injEq] at hm;obtain ⟨rfl,rfl⟩:=hm;obtain ⟨cs,q1,q2⟩:=hv;simp only[ae] at q2;obtain ⟨b,es,ck,q3,q4,q5,q6⟩:=q2;exact .inr ⟨b,es,ck,by simpa[bd,I.isAgg,q3] using q1.symm,q4.1,q5,q6⟩
 ·rename_i n;split at hm
  case h_2=>cases hm
  rename_i ks' vs' hn;simp only[v6,Prod.mk.injEq] at hm;obtain ⟨rfl,rfl⟩:=hm;obtain ⟨cs,q1,q2⟩:=hv;simp only[ae] at q2;obtain ⟨b,q3,q4⟩:=q2;obtain ⟨b',es,ck,k1,k2,k3,k4,k5,k6,k7⟩:=hs.map hn;rw[k1] at q3;cases q3;exact .inr ⟨_,es,ck,by simpa[bd,I.isAgg,q4] using q1.symm,k3,k5,k6⟩
 ·simp only[v6,Prod.mk.injEq] at hm;obtain ⟨rfl,rfl⟩:=hm;obtain ⟨cs,q1,q2⟩:=hv;simp only[ae] at q2;exact .inl ⟨by simpa[bd,I.isAgg,q2.1] using q1.symm,rfl,rfl⟩
 ·cases hm
theorem n5{w:World}{D:aJ}{E:aO}{y:I}{v:Value}(hv:y.cn=true)(h:aQ w D E y v):∃ cs,bd y v cs∧ae w D E y cs:=by
 cases y <;>simp[I.cn] at hv <;>exact h
theorem ph{w:World}{D:aJ}{E:aO} : ∀ {xs:List I} {vs:List Value} {j:Nat} {x:I},aB w D E xs vs→xs[j]?=some x→x.cn=true
 | [],_,j,x,_,h=>by simp at h
 |y::ys,vs,j,x,hr,h=>by
  simp only[aB] at hr;obtain ⟨v,rest,cs,rfl,h1,h2,h3⟩:=hr;cases j with
  |zero =>
   simp only[List.getElem?_cons_zero,v6] at h;subst h;cases y <;>simp only[ae] at h2 <;>rfl
  |succ j=>exact ph (xs:=ys) h3 (by simpa using h)
theorem acA{x:I}{cs r:List Value}(h:mb x cs=some r):x.cn=true:=by
 cases x <;>first | rfl | (cases cs <;>simp[mb] at h)
theorem acC{P:Program}{t:TypeId}{z:I}(hz:fx P t=some z)(hp:uk P t z=true):∃ zv,(∀ w,(zeroValue t).run P w=.ok zv w)∧z.cn=true∧∀ w D E,aQ w D E z zv:=by
 have hz0:=hz;obtain ⟨i,zv,hi,hzz,hzr⟩:=km hz;have hv:z.cn=true:=by
  unfold fx at hz;split at hz
  ·split at hz
   ·rename_i hk;simp only[v6] at hz;subst hz;exact acA hk
   ·cases hz
  ·cases hz
 refine ⟨zv,fun w=>by simp[zeroValue,typeInfo,hi,hzz],hv,fun w D E =>?_⟩;have h1:=hzr w D E;simp only[uk,hi,Option.bind_some,hzz] at hp;refine fD (cs:=zv.cells.toList) ?_ h1;cases zv <;>simp only[bd] at hp ⊢ <;>first
  |(rw[if_pos hp];simp[Value.cells])
  |(have hp':z.isAgg=false:=by simpa using hp
    rw[hp'];simp[Value.cells])
theorem Yb{t kt et:TypeId}{m k:Operand}{m' k':aF}{ok:Bool}{ty:cm}{z v:I}{ks vs:List I}{there:Bool}(ho:o.op=.lookup t m k ok)(hu:c.P.underlying t=some (.map kt et))(hk:jF c.P kt=some ty)(hz:fx c.P et=some z)(hzp:uk c.P et z=true)
  (hm:aX c.P 0 m=some m') (hk':aX c.P 0 k=some k') (hmm:fY A (af A m')=some (ks,vs)) (hl:jI ty z (af A k') ks vs=some (v,there)):cN c A o (if ok then .tuple [v,.bool there] else v) :=
 .same fun a w D E hs=>by
  have h1:=br hs hm;have h2:=br hs hk';obtain ⟨zv,hzrun,hzv,hzrv⟩:=acC hz hzp;unfold jI at hl;split at hl
  case isFalse=>cases hl
  rename_i hkk;obtain ⟨rk,hrk⟩:=zy7.1 hkk;have hchk:=fun em=>u7 (P:=c.P) (w:=w) (em:=em) hk h2 hrk 9998;have bf:∀ u there,v.cn=true→aQ w D E v u→aQ w D E (if ok then .tuple [v,.bool there] else v) (if ok then Value.tuple #[u,.bool there] else u):=fun u there hval hu'=>by
   cases ok
   ·exact hu'
   ·obtain ⟨cs,q1,q2⟩:=n5 hval hu';simp only[if_true,aQ,aB];exact ⟨[u,.bool there],rfl,u,[.bool there],cs,rfl,q1,q2,.bool there,[],[.bool there],rfl,by simp[bd,I.isAgg],by simp[ae],rfl⟩
  have dk:∀ (es:Array MapEntry),aB w D E ks (es.toList.map (·.key))→aB w D E vs (es.toList.map (·.val))→∃ u,v.cn=true∧aQ w D E v u ∧
    ((∃ i,(Instr.findKey kt (a.eval k) es.toList).run c.P w=.ok (some (i,u)) w∧there=true)∨((Instr.findKey kt (a.eval k) es.toList).run c.P w=.ok none w∧u=zv∧there=false)):=fun es hks hvs=>by
   split at hl
   ·rename_i i hfi;simp only[t8,Prod.mk.injEq] at hl;obtain ⟨v',hv',rfl,rfl⟩:=hl;obtain ⟨q,q1,q2⟩:=oJ hk h2 hks hfi;rcases q2 with ⟨e,_⟩ | ⟨j,e,e1,e2,rfl⟩
    ·cases e
    ·simp only[zz3,v6] at e1;subst e1;obtain ⟨x,k1,k2⟩:=lS (j:=i) (v:=e.val) hvs (by simp only[zx2,e2,zy1]);rw[hv',v6] at k1;subst k1;exact ⟨e.val,ph hvs hv',k2,.inl ⟨_,q1,rfl⟩⟩
   ·rename_i hfi;simp only[v6,Prod.mk.injEq] at hl;obtain ⟨rfl,rfl⟩:=hl;obtain ⟨q,q1,q2⟩:=oJ hk h2 hks hfi;rcases q2 with ⟨_,rfl⟩ | ⟨j,e,e1,_⟩
    ·exact ⟨zv,hzv,hzrv w D E,.inr ⟨q1,rfl,rfl⟩⟩
    ·cases e1
   ·cases hl
  rcases Zi hs h1 hmm with ⟨e1,rfl,rfl⟩ | ⟨b,es,ck,e1,e2,e3,e4⟩
  ·obtain ⟨u,hval,hu',hrun⟩:=dk #[] (by simp[aB]) (by simp[aB]);refine ⟨_,?_,bf u there hval hu'⟩;rcases hrun with ⟨i,q1,rfl⟩ | ⟨q1,rfl,rfl⟩ <;>
    simp only[execOp,ho,Instr.lookup,e1,Sem.run_bind,run_underlying hu,Result.andThen_ok,Sem.run_pure,hchk,q1,hzrun]
  ·obtain ⟨u,hval,hu',hrun⟩:=dk es e3 e4;refine ⟨_,?_,bf u there hval hu'⟩;rcases hrun with ⟨i,q1,rfl⟩ | ⟨q1,rfl,rfl⟩ <;>
    simp only[execOp,ho,Instr.lookup,e1,Sem.run_bind,run_underlying hu,Result.andThen_ok,MapKept.run_getObj_map e2,Sem.run_pure,hchk,q1,hzrun]
theorem BR{y:Operand}{y':aF}(ho:o.op=.nilCheck y)(hy:aX c.P 0 y=some y')(h:(∃ n p,af A y'=.ptr n p)∨∃ z,af A y'=.ref z):cN c A o (af A y') :=
 .same fun a w D E hs=>by
  have h1:=br hs hy;rcases h with ⟨n,p,h⟩ | ⟨z,h⟩
  ·rw[h] at h1 ⊢;obtain ⟨b,aL,off,_,_,e⟩:=kS h1;exact ⟨a.eval y,by simp only[execOp,ho,e,Sem.run_pure],h1⟩
  ·rw[h] at h1 ⊢;obtain ⟨b,off,cs,e,_⟩:=pg h1;exact ⟨a.eval y,by simp only[execOp,ho,e,Sem.run_pure],h1⟩
theorem Cb{w:World}{D:aJ}{E:aO}{x:I}{v:Value}{b:Bool}(h:ir x=some b)(hv:aQ w D E x v):∃ ad,v=.pointer ad∧ad.isNone=b:=by
 cases x <;>simp only[ir,v6] at h <;>try (cases h;done)
 case nilp =>
  subst h;obtain ⟨cs,q1,q2⟩:=hv;simp only[ae] at q2;exact ⟨none,by simpa[bd,I.isAgg,q2] using q1.symm,rfl⟩
 case ptr n p =>
  subst h;obtain ⟨b,aL,off,_,_,e⟩:=kS hv;exact ⟨_,e,rfl⟩
 case ref z =>
  subst h;obtain ⟨b,off,cs,e,_⟩:=pg hv;exact ⟨_,e,rfl⟩
theorem Yg{x y:Operand}{x' y':aF}{tys:Array TypeId}{v:I}(ho:o.op=.call { callee:=.builtin .max,args := #[x,y],argTypes:=tys })(hx:aX c.P 0 x=some x')(hy:aX c.P 0 y=some y')(h:wm (af A x') (af A y')=some v):cN c A o v :=
 .same fun a w D E hs=>by
  have h1:=br hs hx;have h2:=br hs hy;unfold wm at h;split at h
  case h_2=>cases h
  rename_i k n k2 m e1 e2;split at h
  case isFalse=>cases h
  rename_i hk;subst hk;simp only[v6] at h;subst h;rw[e1] at h1;rw[e2] at h2;obtain ⟨v1,r1⟩:=dh h1;obtain ⟨v2,gX⟩:=dh h2;refine ⟨.int k (if m>n then m else n),by simp[execOp,ho,resolve,invoke,builtin,Builtin.max_,Builtin.max2,v1,v2],iv ?_⟩;split
  ·exact gX
  ·exact r1
theorem Yl{neg:Bool}{t yt e:TypeId}{y z:Operand}{y' z':aF}{b1 b2:Bool}(ho:o.op=.binOp (if neg then .neq else .eql) t y z yt)(hu:c.P.underlying t=some (.pointer e))(hy:aX c.P 0 y=some y')(hz:aX c.P 0 z=some z')
  (h1:ir (af A y')=some b1) (h2:ir (af A z')=some b2) (h:b1=true∨b2=true):cN c A o (.bool (if neg then !(b1&&b2) else (b1&&b2))) :=
 .same fun a w D E hs=>by
  obtain ⟨p,e1,k1⟩:=Cb h1 (br hs hy);obtain ⟨q,e2,k2⟩:=Cb h2 (br hs hz);have he:∀ d,(Op.equalIn (d+1) t (.pointer p) (.pointer q)).run c.P w=.ok (b1&&b2) w:=fun d=>by
   subst k1 k2;cases p <;>cases q <;>simp at h <;>simp[Op.equalIn,run_underlying hu]
  refine ⟨.bool (if neg then !(b1&&b2) else (b1&&b2)),?_,kK _⟩;cases neg <;>simp only[execOp,ho,e1,e2,if_true,zz4,if_false,Sem.run_bind,eqGuard] <;>simp[binOp,Op.equal,Op.maxDepth,he]
end
section
variable {c:ct} {A:ab} {o:Oper} {x:I}
theorem NC{t:TypeId}{d:Nat}(ho:o.op=.makeMap t none)(hd:o.dst=some d)(hn:d<c.n)(hf:A.o d=none):gh c A o ((A.aN d (.b8 [] [])).put d (.mref d)):=by
 intro a w D E hs;have h1:=hs.Zx (.inl hn) hf;have h2:=h1.put (x:=.mref d) (v:=.map (some w.heap.size)) hn ⟨_,by simp[bd,I.isAgg];rfl,by
  simp only[ae,if_true];exact ⟨w.heap.size,rfl,rfl⟩⟩
 exact ⟨w.alloc (.map #[] 0),.inl ⟨.map (some w.heap.size),by simp[execOp,ho,Instr.makeMap],D,_,by rw[hd];exact h2⟩⟩
theorem ND{t e:TypeId}{l l':Operand}{z:I}{n d:Nat}(ho:o.op=.makeSlice t l l')(hr:uo l l'=some n)(hu:c.P.underlying t=some (.slice e))(hz:fx c.P e=some z)(hby:n*c.P.bytesOf e≤281474976710656)
  (hd:o.dst=some d) (hn:d<c.n) (hf:A.o d=none):gh c A o ((A.aN d (.bM e (c.P.cellsOf e) [])).put d (.own d 0)):=by
 obtain ⟨hm,k,k',rfl,rfl⟩:=acB hr;intro a w D E hs;obtain ⟨i,zv,hi,hzz,_⟩:=km hz;have hsz:c.P.cellsOf e=i.size:=by simp[Program.cellsOf,hi]
 have hcap:n≤maxLen:=by unfold maxLen;omega
 have hbytes:(i.bytes:Int)*(n:Int)≤281474976710656:=by
  have:c.P.bytesOf e=i.bytes:=by simp[Program.bytesOf,hi]
  rw[this] at hby;have h2:((i.bytes*n:Nat):Int)≤281474976710656:=by rw[Nat.mul_comm] at hby;omega
  rwa [Int.natCast_mul] at h2
 have hrun:=run_make (P:=c.P) w t e i zv hu hi hzz k k' 0 n (Int.le_refl _) (by omega) hbytes (by omega);simp only[zw8,Int.toNat_zero] at hrun;have h2:=hs.qH (d:=d) (x:=.bM e (c.P.cellsOf e) []) (o':=.cells (madeCells zv.cells (n*i.size)) e) (e:=.rw (some (w.heap.size,n)) 0) (.inl hn) hf rfl (fun _ hno =>
  ⟨some (w.heap.size,n),by simp,by simp,_,[],_,.inl hs.c8.size,heap_alloc_new w _,(zy4 _).symm,by simp[aI],by rw[size_madeCells,hsz],zw7 _,hcap,fun o ho=>absurd ho (hno o)⟩)
 have h3:=h2.put (x:=.own d 0) (v:=.slice (some ⟨w.heap.size,0,none⟩) 0 n) hn ⟨_,by simp[bd,I.isAgg];rfl,by
  simp only[ae,if_true];exact ⟨_,0,rfl,zz8 _,⟨_,_,_,rfl⟩,fun _=>rfl⟩⟩
 refine ⟨_,.inl ⟨_,?_,D,_,by rw[hd];exact h3⟩⟩;simp only[execOp,ho,Act.eval,Sem.run_bind,hrun,Result.andThen_ok,Sem.run_pure]
theorem w8{w:World}{D:aJ}{E:aO} : ∀ {xs ys:List I} {us vs:List Value},aB w D E xs us→aB w D E ys vs→aB w D E (xs++ys) (us++vs)
 | [],ys,us,vs,h,k=>by simp only[aB] at h;subst h;simpa using k
 |x::xs,ys,us,vs,h,k=>by
  simp only[aB,zy2] at *;obtain ⟨v,rest,cs,rfl,h1,h2,h3⟩:=h;exact ⟨v,rest++vs,cs,rfl,h1,h2,w8 h3 k⟩
theorem Fk{w:World}{D:aJ}{E:aO} : ∀ {xs:List I} {us:List Value} {i:Nat} {y:I} {v:Value} {cs:List Value},aB w D E xs us→bd y v cs→ae w D E y cs→aB w D E (xs.set i y) (us.set i v)
 | [],us,i,y,v,cs,h,_,_=>by simp only[aB] at h;subst h;simp[aB]
 |x::xs,us,i,y,v,cs,h,k1,k2=>by
  simp only[aB] at h;obtain ⟨u,rest,ds,rfl,h1,h2,h3⟩:=h;cases i with
  |zero=>simp only[List.set_cons_zero,aB];exact ⟨v,rest,cs,rfl,k1,k2,h3⟩
  |succ i=>simp only[List.set_cons_succ,aB];exact ⟨u,_,ds,rfl,h1,h2,Fk h3 k1 k2⟩
theorem Fj{w:World}{D:aJ}{E:aO}{y:I}{v:Value}{cs:List Value}(h1:bd y v cs)(h2:ae w D E y cs):aB w D E [y] [v]:=by
 simp only[aB];exact ⟨v,[],cs,rfl,h1,h2,rfl⟩
theorem Bd{ty:cm}{k:I} : ∀ {ks:List I} {i j:Nat},gC ty k ks i=some (some j)→∃ x,ks[j-i]?=some x∧i≤j∧bV ty k x=some true
 | [],i,j,h=>by simp[gC] at h
 |x::xs,i,j,h=>by
  simp only[gC] at h;split at h
  ·rename_i hb;simp only[v6] at h;subst h;exact ⟨x,by simp,zz8 _,hb⟩
  ·obtain ⟨y,h1,h2,h3⟩:=Bd h;refine ⟨y,?_,by omega,h3⟩;rw[show j-i=(j-(i+1))+1 from by omega];simpa using h1
  ·cases h
theorem AI{t kt et:TypeId}{m k v:Operand}{m' k' v':aF}{ty:cm}{n:Nat}{ks vs ks' vs':List I}(ho:o.op=.mapUpdate t m k v∨o.op=.insert t m k v)(hu:c.P.underlying t=some (.map kt et))(hk:jF c.P kt=some ty)
  (hm:aX c.P 0 m=some m') (hk':aX c.P 0 k=some k') (hv':aX c.P et v=some v') (hmm:af A m'=.mref n) (hn:A.o n=some (.b8 ks vs)) (hl:lJ ty (af A k') (af A v') ks vs=some (ks',vs')) (hd:o.dst=none) :
  gh c A o (A.aN n (.b8 ks' vs')):=by
 intro a w D E hs;have h1:=br hs hm;have h2:=br hs hk';have h3:=br hs hv';rw[hmm] at h1;unfold lJ at hl;split at hl
 case isFalse=>cases hl
 rename_i hc;obtain ⟨hkk,hkv,hvv⟩:=hc;obtain ⟨rk,hrk⟩:=zy7.1 hkk;have hchk:=fun em=>u7 (P:=c.P) (w:=w) (em:=em) hk h2 hrk 9998;obtain ⟨kcs,kp1,kp2⟩:=n5 hkv h2;obtain ⟨vcs,vp1,vp2⟩:=n5 hvv h3;obtain ⟨b,es,ck,k1,k2,k3,k4,k5,k6,k7⟩:=hs.map hn;have hmv:a.eval m=.map (some b):=by
  obtain ⟨cs,q1,q2⟩:=h1;simp only[ae] at q2;obtain ⟨b',q3,q4⟩:=q2;rw[k1] at q3;cases q3;simpa[bd,I.isAgg,q4] using q1.symm
 -- the new entries
 have step:∀ (es':Array MapEntry) (ck':Nat),(Instr.mapUpdate t (.map (some b)) (a.eval k) (a.eval v)).run c.P w=.ok () (w.putObj b (.map es' ck'))→nT es' ck'→aB w D E ks' (es'.toList.map (·.key))→aB w D E vs' (es'.toList.map (·.val)) →
   ∃ w',((∃ u,(execOp a.eval o).run c.P w=.ok (.value u) w'∧bG c (A.aN n (.b8 ks' vs')) (a.put o.dst u) w')∨((execOp a.eval o).run c.P w=.ok .skip w'∧bG c (A.aN n (.b8 ks' vs')) (a.put o.dst undef) w')):=fun es' ck' hrun hst hks hvs=>by
  refine ⟨w.putObj b (.map es' ck'),.inr ⟨?_,?_⟩⟩
  ·rcases ho with ho | ho <;>simp only[execOp,ho,hmv,Sem.run_bind,hrun,Result.andThen_ok,Sem.run_pure]
  ·rw[hd];have:=hs.xi (o':=.map es' ck') (x:=.b8 ks' vs') k1 rfl rfl k3 rfl (fun q=>by simp) k2 (fun hl' hh hno=>⟨b,es',ck',k1,k2,hh,hst,aB.later hl' _ _ hks,aB.later hl' _ _ hvs,hno⟩);exact ⟨D,E,this⟩
 split at hl
 ·rename_i i hfi;simp only[v6,Prod.mk.injEq] at hl;obtain ⟨rfl,rfl⟩:=hl;obtain ⟨q,q1,q2⟩:=oJ hk h2 k5 hfi;rcases q2 with ⟨e,_⟩ | ⟨j,e,e1,e2,rfl⟩
  ·cases e
  simp only[zz3,v6] at e1;subst e1;obtain ⟨y,y1,_,y2⟩:=Bd hfi;simp only[Nat.sub_zero] at y1;obtain ⟨y',y3,y4⟩:=lS (j:=i) (v:=e.key) k5 (by simp only[zx2,e2,zy1]);rw[y1,v6] at y3;subst y3;obtain ⟨_,kk2,kk3⟩:=YO hk y2 h2 y4;have hes:es[i]?=some e:=by rw[←Array.getElem?_toList];exact e2
  have hlen:i<es.size:=(zy5.1 hes).1;refine step (es.modify i fun e => { e with key:=a.eval k,val:=a.eval v }) ck ?_ ?_ ?_ ?_
  ·have hsb:Instr.sameBits 10000 (((es[i]?).map (·.key)).getD (a.eval k)) (a.eval k)=true:=by
    rw[hes];simp only[zy1,Option.getD_some];rw[←kk2];rw[←kk2] at kk3;exact kk3
   simp only[Instr.mapUpdate,Sem.run_bind,run_underlying hu,Result.andThen_ok,MapKept.run_getObj_map k3,hchk,q1,zz3,Instr.keyThatStays,hsb,if_true,Sem.run_pure,MapKept.run_setObj_map _ k3];rfl
  all_goals
   have em:(es.modify i fun e => { e with key:=a.eval k,val:=a.eval v }).toList=es.toList.set i { e with key:=a.eval k,val:=a.eval v } :=by
    rw[Array.toList_modify];apply List.ext_getElem?;intro j;rw[List.getElem?_modify,List.getElem?_set];by_cases hij:i=j
    ·subst hij;have hge:es[i]'hlen=e:=(zy5.1 hes).2;simp[hlen,hge]
    ·simp[hij]
  ·refine ⟨fun x hx =>?_,?_⟩
   ·rw[em] at hx;rcases List.mem_or_eq_of_mem_set hx with hx | rfl
    ·exact k4.1 x hx
    ·exact k4.1 e (List.mem_of_getElem? e2)
   ·rw[em];have:(es.toList.set i { e with key:=a.eval k,val:=a.eval v }).map (·.born)=es.toList.map (·.born):=by
     rw[List.map_set];apply List.ext_getElem?;intro j;rw[List.getElem?_set];split
     ·rename_i hij;subst hij;simp[e2];exact hlen
     ·rfl
    rw[this];exact k4.2
  ·rw[em,List.map_set];have:(es.toList.map (·.key)).set i (a.eval k)=es.toList.map (·.key):=by
    apply List.ext_getElem?;intro j;rw[List.getElem?_set];split
    ·rename_i hij;subst hij;simp[e2,kk2];exact hlen
    ·rfl
   simp only[this];exact k5
  ·rw[em,List.map_set];exact Fk k6 vp1 vp2
 ·rename_i hfi;simp only[v6,Prod.mk.injEq] at hl;obtain ⟨rfl,rfl⟩:=hl;obtain ⟨q,q1,q2⟩:=oJ hk h2 k5 hfi;rcases q2 with ⟨_,rfl⟩ | ⟨j,e,e1,_⟩
  case inr=>cases e1
  refine step (es.push { key:=a.eval k,val:=a.eval v,born:=ck }) (ck+1) ?_ ⟨fun x hx =>?_,?_⟩ ?_ ?_
  ·simp only[Instr.mapUpdate,Sem.run_bind,run_underlying hu,Result.andThen_ok,MapKept.run_getObj_map k3,hchk,q1,MapKept.run_setObj_map _ k3];rfl
  ·simp only[Array.toList_push,zw1,List.mem_singleton] at hx;rcases hx with hx | rfl
   ·have:=k4.1 x hx;omega
   ·simp
  ·simp only[Array.toList_push,zx4,zz7,zy9];refine List.nodup_append.2 ⟨k4.2,by simp,fun x hx y hy =>?_⟩;simp only[List.mem_singleton] at hy;subst hy;obtain ⟨e,he,rfl⟩:=zx1.1 hx;exact Nat.ne_of_lt (k4.1 e he)
  ·simp only[Array.toList_push,zx4,zz7,zy9];exact w8 k5 (Fj kp1 kp2)
  ·simp only[Array.toList_push,zx4,zz7,zy9];exact w8 k6 (Fj vp1 vp2)
 ·cases hl
theorem s7{α β:Type}(f:α→β):∀ (l:List α) (i:Nat),(l.eraseIdx i).map f=(l.map f).eraseIdx i
 | [],_=>rfl
 |x::xs,0=>rfl
 |x::xs,i+1=>by simp only[List.eraseIdx_cons_succ,zz7,s7 f xs i]
theorem xa{w:World}{D:aJ}{E:aO} : ∀ {xs:List I} {us:List Value} (i:Nat),aB w D E xs us→aB w D E (xs.eraseIdx i) (us.eraseIdx i)
 | [],us,i,h=>by simp only[aB] at h;subst h;simp[aB]
 |x::xs,us,i,h=>by
  simp only[aB] at h;obtain ⟨v,rest,cs,rfl,h1,h2,h3⟩:=h;cases i with
  |zero=>exact h3
  |succ i=>simp only[List.eraseIdx_cons_succ,aB];exact ⟨v,_,cs,rfl,h1,h2,xa i h3⟩
theorem NB{t kt et t':TypeId}{m k:Operand}{m' k':aF}{ty:cm}{n:Nat}{ks vs ks' vs':List I}(ho:o.op=.call { callee:=.builtin .delete,args := #[m,k],argTypes := #[t,t'] })(hu:c.P.underlying t=some (.map kt et))(hk:jF c.P kt=some ty)
  (hm:aX c.P 0 m=some m') (hk':aX c.P 0 k=some k') (hmm:af A m'=.mref n) (hn:A.o n=some (.b8 ks vs)) (hl:wc ty (af A k') ks vs=some (ks',vs')) (hd:o.dst=none) :
  gh c A o (A.aN n (.b8 ks' vs')):=by
 intro a w D E hs;have h1:=br hs hm;have h2:=br hs hk';rw[hmm] at h1;unfold wc at hl;split at hl
 case isFalse=>cases hl
 rename_i hkk;obtain ⟨rk,hrk⟩:=zy7.1 hkk;have hchk:=fun em=>u7 (P:=c.P) (w:=w) (em:=em) hk h2 hrk 9998;obtain ⟨b,es,ck,k1,k2,k3,k4,k5,k6,k7⟩:=hs.map hn;have hmv:a.eval m=.map (some b):=by
  obtain ⟨cs,q1,q2⟩:=h1;simp only[ae] at q2;obtain ⟨b',q3,q4⟩:=q2;rw[k1] at q3;cases q3;simpa[bd,I.isAgg,q4] using q1.symm
 have step:∀ (es':Array MapEntry),(Builtin.delete_ #[t,t'] o.type #[.map (some b),a.eval k]).run c.P w=.ok (.tuple #[]) (w.putObj b (.map es' ck))→nT es' ck→aB w D E ks' (es'.toList.map (·.key))→aB w D E vs' (es'.toList.map (·.val)) →
   ∃ w',((∃ u,(execOp a.eval o).run c.P w=.ok (.value u) w'∧bG c (A.aN n (.b8 ks' vs')) (a.put o.dst u) w')∨((execOp a.eval o).run c.P w=.ok .skip w'∧bG c (A.aN n (.b8 ks' vs')) (a.put o.dst undef) w')):=fun es' hrun hst hks hvs=>by
  refine ⟨w.putObj b (.map es' ck),.inl ⟨.tuple #[],?_,?_⟩⟩
  ·simp[execOp,ho,resolve,invoke,builtin,hmv,hrun]
  ·rw[hd];have:=hs.xi (o':=.map es' ck) (x:=.b8 ks' vs') k1 rfl rfl k3 rfl (fun q=>by simp) k2 (fun hl' hh hno=>⟨b,es',ck,k1,k2,hh,hst,aB.later hl' _ _ hks,aB.later hl' _ _ hvs,hno⟩);exact ⟨D,E,this⟩
 split at hl
 ·rename_i i hfi;simp only[v6,Prod.mk.injEq] at hl;obtain ⟨rfl,rfl⟩:=hl;obtain ⟨q,q1,q2⟩:=oJ hk h2 k5 hfi;rcases q2 with ⟨e,_⟩ | ⟨j,e,e1,e2,rfl⟩
  ·cases e
  simp only[zz3,v6] at e1;subst e1;have hes:es[i]?=some e:=by rw[←Array.getElem?_toList];exact e2
  have hlen:i<es.size:=(zy5.1 hes).1;have em:(es.eraseIdxIfInBounds i).toList=es.toList.eraseIdx i:=by
   simp[Array.eraseIdxIfInBounds,hlen]
  refine step (es.eraseIdxIfInBounds i) ?_ ⟨fun x hx =>?_,?_⟩ ?_ ?_
  ·simp[Builtin.delete_,run_underlying hu,MapKept.run_getObj_map k3,hchk,q1,MapKept.run_setObj_map _ k3];rfl
  ·rw[em] at hx;exact k4.1 x (List.mem_of_mem_eraseIdx hx)
  ·rw[em,s7];exact k4.2.sublist (List.eraseIdx_sublist _ _)
  ·rw[em,s7];exact xa i k5
  ·rw[em,s7];exact xa i k6
 ·rename_i hfi;simp only[v6,Prod.mk.injEq] at hl;obtain ⟨rfl,rfl⟩:=hl;obtain ⟨q,q1,q2⟩:=oJ hk h2 k5 hfi;rcases q2 with ⟨_,rfl⟩ | ⟨j,e,e1,_⟩
  case inr=>cases e1
  refine step es ?_ k4 k5 k6;simp[Builtin.delete_,run_underlying hu,MapKept.run_getObj_map k3,hchk,q1,MapKept.run_setObj_map _ k3];rfl
 ·cases hl
theorem NG{t kt et:TypeId}{y:Operand}{y':aF}{ks vs:List I}{d:Nat}(ho:o.op=.range t y)(hu:c.P.underlying t=some (.map kt et))(hy:aX c.P 0 y=some y')(h:af A y'=.cu ks vs)(hd:o.dst=some d)(hn:d<c.n)(hf:A.o d=none) :
  gh c A o ((A.aN d (.it ks vs (List.range ks.length) none)).put d (.cU d)):=by
 intro a w D E hs;have h1:=br hs hy;rw[h] at h1;obtain ⟨cs,q1,q2⟩:=h1;simp only[ae] at q2;obtain ⟨b,es,ck,q3,q4,q5,q6⟩:=q2;have hv:a.eval y=.map (some b):=by simpa[bd,I.isAgg,q3] using q1.symm
 have h2:=hs.Zw (.inl hn) hf q4 q5 q6;have h3:=h2.put (x:=.cU d) (v:=.pointer (some ⟨w.heap.size,0,none⟩)) hn ⟨_,by simp[bd,I.isAgg];rfl,by
  simp only[ae,if_true];exact ⟨w.heap.size,rfl,rfl⟩⟩
 refine ⟨w.alloc (.mapIter (some b) ck #[] ck),.inl ⟨.pointer (some ⟨w.heap.size,0,none⟩),?_,D,_,by rw[hd];exact h3⟩⟩;simp only[execOp,ho,hv,Sem.run_bind,run_range_map w t kt et b es ck hu q4.1,Result.andThen_ok,Sem.run_pure]
theorem Cu{es:Array MapEntry}{seen:Array Nat}{i:Nat} : i∈nu es seen↔∃ e,es[i]?=some e∧seen.contains e.born=false:=by
 unfold nu;simp only[List.mem_filter,List.mem_range];constructor
 ·rintro ⟨h1,h2⟩;rw[Array.getElem?_eq_getElem h1] at h2 ⊢;exact ⟨_,rfl,by simpa using h2⟩
 ·rintro ⟨e,h1,h2⟩;exact ⟨(zy5.1 h1).1,by rw[h1];simpa using h2⟩
theorem ab9{es:Array MapEntry}{ck:Nat}(hst:nT es ck){i j:Nat}{e f:MapEntry}(hi:es[i]?=some e)(hj:es[j]?=some f)(h:e.born=f.born):i=j:=by
 have hn:=hst.2;rw[←Array.getElem?_toList] at hi hj;have h1:(es.toList.map (·.born))[i]?=some e.born:=by rw[zx2,hi];rfl
 have h2:(es.toList.map (·.born))[j]?=some e.born:=by rw[zx2,hj,h];rfl
 have hil:i<(es.toList.map (·.born)).length:=(zz9.1 h1).1;have hjl:j<(es.toList.map (·.born)).length:=(zz9.1 h2).1;exact (List.getElem?_inj hil hn).1 (h1.trans h2.symm)
theorem Y5{es:Array MapEntry}{seen:Array Nat}{ck i:Nat}{e:MapEntry}(hst:nT es ck)(hi:es[i]?=some e):nu es (seen.push e.born)=(nu es seen).filter (· != i):=by
 unfold nu;rw[List.filter_filter];refine List.filter_congr fun j hj =>?_;have hjl:j<es.size:=by simpa using hj
 rw[Array.getElem?_eq_getElem hjl];simp only[Array.contains_push];by_cases hij:j=i
 ·subst hij;rw[Array.getElem?_eq_getElem hjl,v6] at hi;simp[hi]
 ·have:(es[j].born==e.born)=false:=by
   simp only[beq_eq_false_iff_ne,ne_eq];exact fun h=>hij (ab9 hst (Array.getElem?_eq_getElem hjl) hi h)
  have h2:(j != i)=true:=by simpa using hij
  simp[this,h2]
theorem Zy{y:Operand}{y':aF}{ks vs:List I}{left:List Nat}{cur:Option Nat}{n:Nat}(ho:o.op=.next y false)(hy:aX c.P 0 y=some y')(h:af A y'=.cU n)(hn:A.o n=some (.it ks vs left cur))(hdn:∀ k,o.dst=some k→k<c.n){a:Act}{w:World}{D:aJ}{E:aO}(hs:aM c A a w D E) :
  ∃ w' v,(execOp a.eval o).run c.P w=.ok (.value v) w'∧((left=[]∧bG c (A.aP o.dst (.tuple [.bool false])) (a.put o.dst v) w') ∨
   ∃ i k x,i∈left∧ks[i]?=some k∧vs[i]?=some x∧bG c ((A.aN n (.it ks vs (left.filter (· != i)) (some i))).aP o.dst (.tuple [.bool true,k,x])) (a.put o.dst v) w'):=by
 have h1:=br hs hy;rw[h] at h1;obtain ⟨cs,q1,q2⟩:=h1;simp only[ae] at q2;obtain ⟨r,q3,q4⟩:=q2;have hv:a.eval y=.pointer (some ⟨r,0,none⟩):=by simpa[bd,I.isAgg,q4] using q1.symm
 have hob:=hs.bx n;rw[hn] at hob;obtain ⟨r',b,es,ck,since,seen,last,k1,k2,k3,k4,k5,k6,k7,k8,k9,k9',k10⟩:=hob;rw[k1] at q3;cases q3;rcases run_next_at (P:=c.P) w o.type r b since last seen es ck k3 k4.1 k7 k8.1 with ⟨h0,hrun⟩ | ⟨e,he,w1,hal,hrun⟩
 ·refine ⟨w,.tuple #[.bool false],by simp only[execOp,ho,hv,Sem.run_bind,hrun,Result.andThen_ok,Sem.run_pure],.inl ⟨?_,D,E,hs.aP hdn ?_⟩⟩
  ·rw[k9];refine List.eq_nil_iff_forall_not_mem.2 fun i hi =>?_;obtain ⟨e,h1,h2⟩:=Cu.1 hi;have hm:e∈leftOf es seen:=by
    unfold leftOf;simp only[Array.mem_filter];exact ⟨Array.mem_of_getElem? h1,by simpa using h2⟩
   rw[Array.eq_empty_of_size_eq_zero h0] at hm;simp at hm
  ·simp only[aQ,aB];exact ⟨[.bool false],rfl,.bool false,[],[.bool false],rfl,by simp[bd,I.isAgg],by simp[ae],rfl⟩
 ·have hmem:e∈es.toList∧seen.contains e.born=false:=by
   unfold leftOf at he;simp only[Array.toList_filter,List.mem_filter] at he;exact ⟨he.1,by simpa using he.2⟩
  obtain ⟨i,hi⟩:=List.getElem?_of_mem hmem.1;have hie:es[i]?=some e:=by rw[←Array.getElem?_toList];exact hi
  obtain ⟨k,hk1,hk2⟩:=lS (j:=i) (v:=e.key) k5 (by simp only[zx2,hi,zy1]);obtain ⟨x,hx1,hx2⟩:=lS (j:=i) (v:=e.val) k6 (by simp only[zx2,hi,zy1]);have hsw:aM c A a w1 D E:=by
   rcases hal with rfl | rfl
   ·exact hs
   ·exact hs.grow (w':=w.drew) (D':=D) ⟨rfl,rfl,rfl,zz8 _,fun _ _=>rfl⟩ (fun _ _ h=>h) (fun _ _ h _=>h) (fun b o hd=>hs.cQ b o hd)
  have hw1:w1.heap=w.heap:=by rcases hal with rfl | rfl <;>rfl
  have k3':w1.heap[r]?=some (.mapIter (some b) since seen last):=by rw[hw1];exact k3
  have hset:=hsw.xi (x:=.it ks vs (left.filter (· != i)) (some i)) (o':=.mapIter (some b) since (seen.push e.born) ck) k1 rfl rfl k3' rfl (fun q=>by simp) k2
   (fun hl hh hno=>by
    have hm:nv w1 D b es ck:=⟨by rw[hw1];exact k4.1,k4.2.1,k4.2.2⟩
    have hob:=hsw.bx n;rw[hn] at hob;refine ⟨r,b,es,ck,since,seen.push e.born,ck,k1,k2,hh,hm.later hl,aB.later hl _ _ ?_,aB.later hl _ _ ?_,k7,?_,?_,fun j hj =>?_,hno⟩
    ·obtain ⟨gX,b2,es2,ck2,si2,se2,la2,g1,g2,g3,g4,g5,g6,_⟩:=hob;rw[k1] at g1;cases g1;rw[k3'] at g3;cases g3;have:=g4.1;rw[hw1,k4.1] at this;cases this;exact g5
    ·obtain ⟨gX,b2,es2,ck2,si2,se2,la2,g1,g2,g3,g4,g5,g6,_⟩:=hob;rw[k1] at g1;cases g1;rw[k3'] at g3;cases g3;have:=g4.1;rw[hw1,k4.1] at this;cases this;exact g6
    ·exact ⟨k8.2,k8.2⟩
    ·rw[k9,Y5 k4.2.2 hie]
    ·cases hj;exact ⟨e,hie,by simp,rfl⟩)
  have hset':aM c (A.aN n (.it ks vs (left.filter (· != i)) (some i))) a (ChangeMaps.setBlock w1 r (.mapIter (some b) since (seen.push e.born) ck)) D E:=hset;refine ⟨_,.tuple #[.bool true,e.key,e.val],by simp only[execOp,ho,hv,Sem.run_bind,hrun,Result.andThen_ok,Sem.run_pure],.inr ⟨i,k,x,?_,hk1,hx1,D,E,hset'.aP hdn ?_⟩⟩
  ·rw[k9];exact Cu.2 ⟨e,hie,hmem.2⟩
  ·have hob2:=hset'.bx n;simp only[ab.aN,if_true] at hob2;obtain ⟨gX,b2,es2,ck2,si2,se2,la2,g1,g2,g3,g4,g5,g6,_⟩:=hob2;rw[k1] at g1;cases g1;have hr2:(ChangeMaps.setBlock w1 r (.mapIter (some b) since (seen.push e.born) ck)).heap[r]?=some (.mapIter (some b) since (seen.push e.born) ck):=World.putObj_heap_same (w:=w1) (eY k3');rw[hr2] at g3;cases g3;have hb2:(ChangeMaps.setBlock w1 r (.mapIter (some b) since (seen.push e.born) ck)).heap[b]?=some (.map es ck):=by
    have:b≠r:=fun e=>by rw[e] at k4;rw[k4.1] at k3;cases k3
    refine (World.putObj_heap_other (w:=w1) this).trans ?_;rw[hw1];exact k4.1
   have:=g4.1;rw[hb2] at this;cases this;obtain ⟨kk,a1,a2⟩:=lS (j:=i) (v:=e.key) g5 (by simp only[zx2,hi,zy1]);rw[hk1] at a1;cases a1;obtain ⟨xx,b1,b2⟩:=lS (j:=i) (v:=e.val) g6 (by simp only[zx2,hi,zy1]);rw[hx1] at b1;cases b1;obtain ⟨c1,c2,c3⟩:=n5 (ph k5 hk1) a2;obtain ⟨d1,d2,d3⟩:=n5 (ph k6 hx1) b2;simp only[aQ,aB];exact ⟨[.bool true,e.key,e.val],rfl,.bool true,_,[.bool true],rfl,by simp[bd,I.isAgg],by simp[ae],e.key,_,c1,rfl,c2,c3,e.val,[],d1,rfl,d2,d3,rfl⟩
theorem XY{y:Operand}{y':aF}{ks vs:List I}{left:List Nat}{i n:Nat}{k x:I}(ho:o.op=.entry y)(hy:aX c.P 0 y=some y')(h:af A y'=.cU n)(hn:A.o n=some (.it ks vs left (some i)))(hk:ks[i]?=some k)(hx:vs[i]?=some x):cN c A o (.tuple [k,x]) :=
 .same fun a w D E hs=>by
  have h1:=br hs hy;rw[h] at h1;obtain ⟨cs,q1,q2⟩:=h1;simp only[ae] at q2;obtain ⟨r,q3,q4⟩:=q2;have hv:a.eval y=.pointer (some ⟨r,0,none⟩):=by simpa[bd,I.isAgg,q4] using q1.symm
  have hob:=hs.bx n;rw[hn] at hob;obtain ⟨r',b,es,ck,since,seen,last,k1,k2,k3,k4,k5,k6,k7,k8,k9,k9',k10⟩:=hob;rw[k1] at q3;cases q3;obtain ⟨e,e1,e2,rfl⟩:=k9' i rfl;have hi:es.toList[i]?=some e:=by rw[Array.getElem?_toList];exact e1
  obtain ⟨kk,a1,a2⟩:=lS (j:=i) (v:=e.key) k5 (by simp only[zx2,hi,zy1]);rw[hk] at a1;cases a1;obtain ⟨xx,b1,b2⟩:=lS (j:=i) (v:=e.val) k6 (by simp only[zx2,hi,zy1]);rw[hx] at b1;cases b1;obtain ⟨c1,c2,c3⟩:=n5 (ph k5 hk) a2;obtain ⟨d1,d2,d3⟩:=n5 (ph k6 hx) b2;have hf:es.find? (·.born==e.born)=some e:=by rw[←Array.find?_toList];exact find_born e es.toList k4.2.2.2 (List.mem_of_getElem? hi)
  refine ⟨.tuple #[e.key,e.val],?_,?_⟩
  ·have hr:(Instr.entry (.pointer (some ⟨r,0,none⟩))).run c.P w=.ok (.tuple #[e.key,e.val]) w:=by
    simp only[Instr.entry,getObj,Sem.run_bind,Sem.run,k3,k4.1,Result.andThen,e2,bne_self_eq_false,zz4,if_false,hf];rfl
   simp only[execOp,ho,hv,Sem.run_bind,hr,Result.andThen_ok,Sem.run_pure]
  ·simp only[aQ,aB];exact ⟨[e.key,e.val],rfl,e.key,_,c1,rfl,c2,c3,e.val,[],d1,rfl,d2,d3,rfl⟩
theorem ET{w:World}{D:aJ}{E:aO}{z:I}{v:Value}(h:ae w D E z [v]):∀ n:Nat,aI w D E (List.replicate n z) (List.replicate n v)
 |0=>by simp[aI]
 |n+1=>by simp only[List.replicate_succ,aI];exact ⟨[v],_,rfl,h,ET h n⟩
theorem NF{t e:TypeId}{l l':Operand}{n':aF}{z:I}{n d:Nat}{k:IntKind}(ho:o.op=.makeSlice t l l')(hll:l'=l)(hu:c.P.underlying t=some (.slice e))(hl:aX c.P 0 l=some n')(h:af A n'=.int k n)(hz:fx c.P e=some z)(hz1:z.size=1)
  (hc1:c.P.cellsOf e=1) (hby:n*c.P.bytesOf e≤281474976710656) (hmax:n≤maxLen) (hd:o.dst=some d) (hn:d<c.n) (hf:A.o d=none):gh c A o ((A.aN d (.box (.agg (List.replicate n z)))).put d (.view d [] 1 0 n)):=by
 subst hll;intro a w D E hs;have h1:=br hs hl;rw[h] at h1;obtain ⟨e1,_⟩:=dh h1;obtain ⟨i,zv,hi,hzz,hzr⟩:=km hz;have hzc:=ae.length _ _ (hzr w D E);rw[hz1] at hzc;obtain ⟨u,hu1⟩:∃ u,zv.cells = #[u]:=by
  have:zv.cells.size=1:=by simpa using hzc
  obtain ⟨u,hu⟩:=Array.size_eq_one_iff.1 this;exact ⟨u,hu⟩
 have hsz:i.size=1:=by have:=hc1;simp only[Program.cellsOf,hi,zy1,Option.getD_some] at this;exact this
 have hbytes:(i.bytes:Int)*(n:Int)≤281474976710656:=by
  have:c.P.bytesOf e=i.bytes:=by simp[Program.bytesOf,hi]
  rw[this] at hby;have h2:((i.bytes*n:Nat):Int)≤281474976710656:=by rw[Nat.mul_comm] at hby;omega
  rwa [Int.natCast_mul] at h2
 have hrun:=run_make (P:=c.P) w t e i zv hu hi hzz k k n n (by omega) (Int.le_refl _) hbytes (by have h9:=hmax;unfold maxLen at h9;omega);simp only[zw8,hsz,Nat.mul_one] at hrun;have hmc:(madeCells zv.cells n).toList=List.replicate n u:=by
  rw[hu1];simp only[madeCells];apply List.ext_getElem?;intro j;simp[List.getElem?_replicate];split <;>simp_all[Nat.mod_one]
 have hcells:ae w D E (.agg (List.replicate n z)) (madeCells zv.cells n).toList:=by
  rw[hmc];simp only[ae];refine ET ?_ n;have:=hzr w D E;rw[hu1] at this;simpa using this
 have h2:=hs.qG (T:=e) (.inl hn) hf hcells;have h3:=h2.put (x:=.view d [] 1 0 n) (v:=.slice (some ⟨w.heap.size,0,none⟩) n n) hn ⟨_,by simp[bd,I.isAgg];rfl,by
  simp only[ae,if_true];refine ⟨w.heap.size,_,0,I.cI (List.replicate n z),rfl,by simp[bY.off],by simp[I.aL,bY.part],by simp[I.cM],by simpa[I.cM] using hmax,by simp[I.cM],fun s hs =>?_⟩;rw[I.cM] at hs;obtain ⟨y,hy,rfl⟩:=zx1.1 hs;rw[I.iC,(List.mem_replicate.1 hy).2,hz1]⟩
 refine ⟨_,.inl ⟨_,?_,D,_,by rw[hd];exact h3⟩⟩;simp only[execOp,ho,e1,Sem.run_bind,hrun,Result.andThen_ok,Sem.run_pure]
end
section
variable {c:ct} {A:ab} {o:Oper} {x:I}
theorem td{w:World}{D:aJ}{E:aO}{s:ByteArray}(h:s.size≤maxLen):aQ w D E (.ay s) (.string s):=⟨[.string s],by simp[bd,I.isAgg],by simp only[ae,true_and];exact h⟩
theorem Ym{t:TypeId}{y z:Operand}{y' z':aF}(ho:o.op=.index t y z)(hu:c.P.underlying t=some .string)(hy:aX c.P 0 y=some y')(hz:aX c.P 0 z=some z')(h:eC .dS [af A y',af A z']=some x):cN c A o x :=
 .same fun a w D E hs=>by
  have h1:=br hs hy;have h2:=br hs hz;generalize af A y'=u at *;generalize af A z'=v at *;unfold eC at h;split at h <;>try (rename_i e _;cases e;done)
  all_goals try (rename_i e1 e2;cases e1;done)
  all_goals try (cases h;done)
  rename_i s k i _ e;simp only[zy6,and_true] at e;obtain ⟨rfl,rfl⟩:=e;split at h
  case isFalse=>cases h
  rename_i hi;simp only[t8] at h;obtain ⟨b,hb,rfl⟩:=h;obtain ⟨e1,hs1⟩:=gb h1;obtain ⟨e2,gX⟩:=dh h2;obtain ⟨hlt,hbe⟩:=zz9.1 hb;have hlt':i.toNat<s.size:=by simpa using hlt
  have hget:s[i.toNat]?=some b:=by
   rw[getElem?_pos s i.toNat hlt']
   congr 1
  refine ⟨.int .u8 b.toNat,?_,iv ⟨?_,?_⟩⟩
  ·simp only[execOp,ho,e1,e2];simp[Instr.index,run_underlying hu,asIntOf,hi,hget]
  ·simp[IntKind.min,IntKind.signed]
  ·have:=b.toNat_lt;simp[IntKind.max,IntKind.bits,IntKind.signed];omega
theorem wK{P:Program}{w:World}{lo hi:Bool}{xs:List I}(h:eC (.ss lo hi) xs=some x) :
  ∃ s:ByteArray,xs.head?=some (.ay s)∧∀ (t:TypeId),P.underlying t=some .string→∃ l r:Nat,l≤r∧r≤s.size∧x=.ay (s.extract l r) ∧
   ((lo=true∧hi=true∧∃ k k',xs=[.ay s,.int k l,.int k' r]∧(Instr.sliceAt t (.string s) (some (.int k l)) (some (.int k' r)) none).run P w=.ok (.string (s.extract l r)) w) ∨
    (lo=true∧hi=false∧∃ k,xs=[.ay s,.int k l]∧(Instr.sliceAt t (.string s) (some (.int k l)) none none).run P w=.ok (.string (s.extract l r)) w) ∨
    (lo=false∧hi=true∧∃ k,xs=[.ay s,.int k r]∧(Instr.sliceAt t (.string s) none (some (.int k r)) none).run P w=.ok (.string (s.extract l r)) w)):=by
 unfold eC at h;split at h <;>(try (rename_i e _;cases e;done)) <;>(try (cases h;done)) <;>(try (rename_i e;cases e))
 ·rename_i s k i;split at h
  case isFalse=>cases h
  rename_i hi;simp only[v6] at h;subst h;obtain ⟨n,rfl⟩:=zx0 hi.1;refine ⟨s,rfl,fun t hu=>⟨0,n,zw7 _,by omega,rfl,.inr (.inr ⟨rfl,rfl,k,rfl,?_⟩)⟩⟩;have:n≤s.size:=by omega
  simp[Instr.sliceAt,Instr.slice,run_underlying hu,Instr.sliceBounds,Instr.sliceBound,asIntOf,this]
 ·rename_i s k i;split at h
  case isFalse=>cases h
  rename_i hi;simp only[v6] at h;subst h;obtain ⟨n,rfl⟩:=zx0 hi.1;refine ⟨s,rfl,fun t hu=>⟨n,s.size,by omega,zz8 _,rfl,.inr (.inl ⟨rfl,rfl,k,rfl,?_⟩)⟩⟩;have:n≤s.size:=by omega
  simp[Instr.sliceAt,Instr.slice,run_underlying hu,Instr.sliceBounds,Instr.sliceBound,asIntOf,this]
 ·rename_i s k i k' j;split at h
  case isFalse=>cases h
  rename_i hi;simp only[v6] at h;subst h;obtain ⟨n,rfl⟩:=zx0 hi.1;obtain ⟨m,rfl⟩:=zx0 (Int.le_trans hi.1 hi.2.1);refine ⟨s,rfl,fun t hu=>⟨n,m,by omega,by omega,rfl,.inl ⟨rfl,rfl,k,k',rfl,?_⟩⟩⟩;have h1:n≤m:=by omega
  have h2:m≤s.size:=by omega
  simp[Instr.sliceAt,Instr.slice,run_underlying hu,Instr.sliceBounds,Instr.sliceBound,asIntOf,h1,h2]
theorem vq{s:ByteArray}{l r:Nat}(h:s.size≤maxLen):(s.extract l r).size≤maxLen:=by
 rw[ByteArray.size_extract];omega
theorem Yp{t:TypeId}{y z:Operand}{y' z':aF}(ho:o.op=.slice t y none (some z) none)(hu:c.P.underlying t=some .string)(hy:aX c.P 0 y=some y')(hz:aX c.P 0 z=some z')(h:eC (.ss false true) [af A y',af A z']=some x):cN c A o x :=
 .same fun a w D E hs=>by
  have h1:=br hs hy;have h2:=br hs hz;obtain ⟨s,e1,hh⟩:=wK (P:=c.P) (w:=w) h;obtain ⟨l,r,_,_,rfl,hc⟩:=hh t hu;simp only[List.head?_cons,v6] at e1;rcases hc with ⟨hc,_⟩ | ⟨hc,_⟩ | ⟨_,_,k,e,hr⟩
  ·cases hc
  ·cases hc
  simp only[zy6,and_true] at e;rw[e.1] at h1;rw[e.2] at h2;obtain ⟨v1,s1⟩:=gb h1;refine ⟨_,?_,td (vq s1)⟩;simp only[execOp,ho,zy1,zy8,v1,(dh h2).1,Sem.run_bind,hr];rfl
theorem Yq{t:TypeId}{y z:Operand}{y' z':aF}(ho:o.op=.slice t y (some z) none none)(hu:c.P.underlying t=some .string)(hy:aX c.P 0 y=some y')(hz:aX c.P 0 z=some z')(h:eC (.ss true false) [af A y',af A z']=some x):cN c A o x :=
 .same fun a w D E hs=>by
  have h1:=br hs hy;have h2:=br hs hz;obtain ⟨s,e1,hh⟩:=wK (P:=c.P) (w:=w) h;obtain ⟨l,r,_,_,rfl,hc⟩:=hh t hu;simp only[List.head?_cons,v6] at e1;rcases hc with ⟨_,hc,_⟩ | ⟨_,_,k,e,hr⟩ | ⟨hc,_⟩
  ·cases hc
  ·simp only[zy6,and_true] at e;rw[e.1] at h1;rw[e.2] at h2;obtain ⟨v1,s1⟩:=gb h1;refine ⟨_,?_,td (vq s1)⟩;simp only[execOp,ho,zy1,zy8,v1,(dh h2).1,Sem.run_bind,hr];rfl
  ·cases hc
theorem Yo{t:TypeId}{y z q:Operand}{y' z' q':aF}(ho:o.op=.slice t y (some z) (some q) none)(hu:c.P.underlying t=some .string)(hy:aX c.P 0 y=some y')(hz:aX c.P 0 z=some z')(hq:aX c.P 0 q=some q')(h:eC (.ss true true) [af A y',af A z',af A q']=some x):cN c A o x :=
 .same fun a w D E hs=>by
  have h1:=br hs hy;have h2:=br hs hz;have h3:=br hs hq;obtain ⟨s,e1,hh⟩:=wK (P:=c.P) (w:=w) h;obtain ⟨l,r,_,_,rfl,hc⟩:=hh t hu;simp only[List.head?_cons,v6] at e1;rcases hc with ⟨_,_,k,k',e,hr⟩ | ⟨_,hc,_⟩ | ⟨hc,_⟩
  ·simp only[zy6,and_true] at e;rw[e.1] at h1;rw[e.2.1] at h2;rw[e.2.2] at h3;obtain ⟨v1,s1⟩:=gb h1;refine ⟨_,?_,td (vq s1)⟩;simp only[execOp,ho,zy1,zy8,v1,(dh h2).1,(dh h3).1,Sem.run_bind,hr];rfl
  ·cases hc
  ·cases hc
theorem Yi{neg:Bool}{t yt:TypeId}{y z:Operand}{y':aF}{ms:Array (String×TypeId)}(ho:o.op=.binOp (if neg then .neq else .eql) t y z yt)(hu:c.P.underlying t=some (.interface ms))(hy:aX c.P 0 y=some y')(hz:aX c.P 0 z=some (.c .cR))(h:eC (.ny neg) [af A y']=some x):cN c A o x :=
 .same fun a w D E hs=>by
  have h1:=br hs hy;have hz':z=.const .nilIface:=by
   cases z with
   |tmp n=>simp[aX] at hz
   |const v =>
    simp only[aX,t8,aF.c.injEq] at hz;obtain ⟨u,hu,rfl⟩:=hz;unfold rZ at hu
    (repeat' split at hu) <;>first | (cases hu;done) | rfl
   |global g=>simp[aX] at hz
   |func f=>simp only[aX] at hz;split at hz <;>simp at hz
  subst hz';have he:∀ d v,(∃ tt u,v=Value.iface tt u)→(Op.equalIn (d+1) t v .nilIface).run c.P w=.ok false w:=fun d v hv=>by
   obtain ⟨tt,u,rfl⟩:=hv;simp[Op.equalIn,run_underlying hu]
  have hk:a.eval (.const .nilIface)=.nilIface:=rfl;have he':∀ d,(Op.equalIn (d+1) t .nilIface .nilIface).run c.P w=.ok true w:=fun d=>by simp[Op.equalIn,run_underlying hu]
  unfold eC at h;split at h <;>(try (rename_i e _;cases e;done)) <;>(try (cases h;done)) <;>(try (rename_i e1 e2;cases e1;done))
  ·rename_i ng e1 e;cases e1;simp only[zy6,and_true] at e;simp only[v6] at h;subst h;rw[e] at h1;obtain ⟨cs,q1,q2⟩:=h1;simp only[ae] at q2;have hv:a.eval y=.nilIface:=by simpa[bd,I.isAgg,q2] using q1.symm
   refine ⟨.bool (!neg),?_,kK _⟩;cases neg <;>simp only[execOp,ho,hv,hk,if_true,zz4,if_false,Sem.run_bind,eqGuard] <;>simp[binOp,Op.equal,Op.maxDepth,he']
  ·rename_i ng tt u e1 e;cases e1;simp only[zy6,and_true] at e;simp only[v6] at h;subst h;rw[e] at h1;obtain ⟨cs,q1,q2⟩:=h1;simp only[ae] at q2;obtain ⟨u',cs',q3,q4,q5⟩:=q2;have hv:a.eval y=.iface tt u':=by simpa[bd,I.isAgg,q3] using q1.symm
   refine ⟨.bool neg,?_,kK _⟩;cases neg <;>simp only[execOp,ho,hv,hk,if_true,zz4,if_false,Sem.run_bind,eqGuard] <;>simp[binOp,Op.equal,Op.maxDepth,he _ _ ⟨tt,u',rfl⟩]
theorem yO{w:World}{D:aJ}{E:aO} : ∀ {es:List I} {cs:List Value} {l:List UInt8},nc es=some l→aI w D E es cs→cs=l.map fun b=>Value.int .u8 b.toNat
 | [],cs,l,h,hr=>by
  simp only[nc,v6] at h;subst h;simpa[aI] using hr
 |x::xs,cs,l,h,hr=>by
  simp only[nc] at h;split at h
  case h_2=>cases h
  rename_i n l' hl;simp only[v6] at h;subst h;simp only[aI] at hr;obtain ⟨c1,c2,rfl,h1,h2⟩:=hr;rw[yO hl h2];simp only[ae] at h1;obtain ⟨rfl,h3,h4⟩:=h1;simp only[IntKind.min,IntKind.max,IntKind.bits,IntKind.signed] at h3 h4;obtain ⟨m,rfl⟩:=zx0 (show 0≤n by simpa using h3);have:m<256:=by simp at h4;omega
  simp only[zz7,List.singleton_append,zy6,and_true,Value.int.injEq,true_and,zw8];have e:(UInt8.ofNat m).toNat=m:=by simp;omega
  rw[e]
theorem XT{t t' e:TypeId}{y:Operand}{y':aF}(ho:o.op=.convert t t' y)(hu:c.P.underlying t=some (.slice e))(he:c.P.underlying e=some (.int .u8))(hd:c.P.underlying t'=some .string)(hy:aX c.P 0 y=some y')(h:lj (cT A 1 (af A y'))=some x):cN c A o x :=
 .same fun a w D E hs=>by
  unfold lj at h;split at h
  case h_2=>cases h
  rename_i es hes;simp only[t8] at h;obtain ⟨l,hl,rfl⟩:=h;obtain ⟨ad,cp,news,hv,h1,h2,h3,h4,h5⟩:=hs.l8 (br hs hy) hes;have hc:=yO hl h3;have hlen:es.length=l.length:=by
   have:=aI.length _ _ h3;rw[hc,I.gv _ h4] at this;simpa using this.symm
  refine ⟨.string ⟨l.toArray⟩,?_,td ?_⟩
  ·simp only[execOp,ho,hv];rcases Nat.eq_zero_or_pos es.length with h0 | h0
   ·obtain rfl:l=[]:=zw2 (by omega);rw[h0];cases ad with
    |none =>
     simp only[Sem.run_bind,run_convert_bytes_nil w t e hu he 0 cp t' hd];rfl
    |some ad =>
     simp only[Sem.run_bind,run_convert_bytes_string w t t' e (some ad) 0 cp hu he hd,run_bytesToString w ad 0 cp [] (by simp[loadCells,loadCellsFrom])];rfl
   ·obtain ⟨b,off,rfl,h6⟩:=h5 (by intro e0;rw[e0] at h0;cases h0);rw[hlen];have key:=run_convert_bytes_arg (P:=c.P) w t e hu he b off l.length cp (l.map fun b=>(b.toNat:Int)) (by simp) (fun i hi=>by
     refine h6 i _ ?_;rw[hc];simp[zz5 hi,List.getD]) t' hd
    simp only[Sem.run_bind,key];have:strOfNums (l.map fun b=>(b.toNat:Int))=⟨l.toArray⟩:=by
     unfold strOfNums
     congr 1
     simp[Function.comp_def]
    rw[this];rfl
  ·show l.toArray.size≤maxLen
   simp;omega
theorem Yf{x':I}{y z:Operand}{y' z':aF}{tys:Array TypeId}(ho:o.op=.call { callee:=.builtin .min,args := #[y,z],argTypes:=tys })(hy:aX c.P 0 y=some y')(hz:aX c.P 0 z=some z')(h:eC .min2 [af A y',af A z']=some x'):cN c A o x' :=
 .same fun a w D E hs=>by
  have h1:=br hs hy;have h2:=br hs hz;generalize af A y'=u at *;generalize af A z'=v at *;unfold eC at h;split at h <;>(try (rename_i e _;cases e;done)) <;>(try (cases h;done)) <;>(try (rename_i e1 e2;cases e1;done))
  rename_i k n k2 m _ e;simp only[zy6,and_true] at e;obtain ⟨rfl,rfl⟩:=e;split at h
  case isFalse=>cases h
  rename_i hk;subst hk;simp only[v6] at h;subst h;obtain ⟨v1,r1⟩:=dh h1;obtain ⟨v2,gX⟩:=dh h2;refine ⟨.int k (if m<n then m else n),by simp[execOp,ho,resolve,invoke,builtin,Builtin.min_,Builtin.min2,v1,v2],iv ?_⟩;split
  ·exact gX
  ·exact r1
theorem Yd{t:TypeId}{y:Operand}{y':aF}(ho:o.op=.makeInterface t y)(hu:As (c.P.underlying t)=true)(hy:aX c.P t y=some y')(h:eC (.mF t) [af A y']=some x):cN c A o x :=
 .same fun a w D E hs=>by
  have h1:=br hs hy;simp only[eC] at h;split at h
  case isFalse=>cases h
  rename_i hc;simp only[v6] at h;subst h;have hr:(Instr.makeInterface t (a.eval y)).run c.P w=.ok (.iface t (a.eval y)) w:=by
   cases hd:c.P.underlying t with
   |none=>rw[hd] at hu;cases hu
   |some d =>
    rw[hd] at hu;have hr:=run_underlying (w:=w) hd;cases d <;>first | (cases hu;done) | simp[Instr.makeInterface,hr]
  obtain ⟨cs,q1,q2⟩:∃ cs,bd (af A y') (a.eval y) cs∧ae w D E (af A y') cs:=by
   generalize af A y'=z at *;cases z <;>simp only[I.cn,zz4,and_false] at hc <;>simpa only[aQ] using h1
  refine ⟨.iface t (a.eval y),?_,[.iface t (a.eval y)],by simp[bd,I.isAgg],?_⟩
  ·simp only[execOp,ho,Sem.run_bind];rw[hr];rfl
  ·simp only[ae];exact ⟨_,cs,rfl,q1,q2⟩
theorem Ip(w:World)(e:TypeId)(s:ByteArray):Lib.bytesWorld w e s=w.drew.alloc (.cells (Lib.bytesCells w e s) e ((Lib.bytesCells w e s).size,(Lib.bytesCells w e s).size+1)):=by
 generalize hc:Lib.bytesCells w e s=cs;have hh:(Lib.bytesWorld w e s).heap=(w.drew.alloc (.cells cs e (cs.size,cs.size+1))).heap:=by
  apply Array.ext_getElem?;intro k;rcases Nat.lt_trichotomy k w.heap.size with h | h | h
  ·exact (Lib.bytesWorld_at_old w e s k h).trans (Below.heap_alloc w.drew (.cells cs e (cs.size,cs.size+1)) k h).symm
  ·subst h;rw[Lib.bytesWorld_at_new,hc];exact (heap_alloc_new w.drew _).symm
  ·rw[Array.getElem?_eq_none (by rw[Lib.bytesWorld_size];omega),Array.getElem?_eq_none (by rw[World.size_alloc];show w.heap.size+1≤k;omega)]
 have hf:∀ (u:World) (p:Addr) (n:Nat),(u.freeze p n).tape=u.tape∧(u.freeze p n).drawn=u.drawn∧(u.freeze p n).os=u.os∧(u.freeze p n).output=u.output:=fun u p n=>by
  unfold World.freeze;split <;>exact ⟨rfl,rfl,rfl,rfl⟩
 obtain ⟨f1,f2,f3,f4⟩:=hf (w.drew.alloc (.cells (Lib.bytesCells w e s) e)) ⟨w.heap.size,(Lib.bytesCells w e s).size,none⟩ 1;have h1:(Lib.bytesWorld w e s).tape=(w.drew.alloc (.cells cs e (cs.size,cs.size+1))).tape:=f1;have h2:(Lib.bytesWorld w e s).drawn=(w.drew.alloc (.cells cs e (cs.size,cs.size+1))).drawn:=f2;have h3:(Lib.bytesWorld w e s).os=(w.drew.alloc (.cells cs e (cs.size,cs.size+1))).os:=f3;have h4:(Lib.bytesWorld w e s).output=(w.drew.alloc (.cells cs e (cs.size,cs.size+1))).output:=f4;revert hh h1 h2 h3 h4;generalize Lib.bytesWorld w e s=a;generalize w.drew.alloc (.cells cs e (cs.size,cs.size+1))=b;obtain ⟨_,_,_,_,_⟩:=a;obtain ⟨_,_,_,_,_⟩:=b;rintro rfl rfl rfl rfl rfl;rfl
theorem abJ{t t' e:TypeId}{y:Operand}{y':aF}{ys:List I}{d:Nat}(ho:o.op=.convert t t' y)(hu:c.P.underlying t=some .string)(ht':c.P.underlying t'=some (.slice e))(he:c.P.underlying e=some (.int .u8))(hy:aX c.P 0 y=some y')(h:lT (af A y')=some ys)
  (hd:o.dst=some d) (hdn:d<c.n) (hf:A.o d=none) {a:Act} {w:World} {D:aJ} {E:aO} (hsim:aM c A a w D E) :
  ∃ v w' m,(execOp a.eval o).run c.P w=.ok (.value v) w'∧ys.length+m≤maxLen∧bG c ((A.aN d (.box (.agg (ys++List.replicate m (.int .u8 0))))).aP o.dst (.view d [] 1 0 ys.length)) (a.put o.dst v) w':=by
 have h1:=br hsim hy;unfold lT at h;split at h
 case h_2=>cases h
 rename_i s hs';simp only[v6] at h;rw[hs'] at h1;obtain ⟨hv,hsz⟩:=gb h1;have hge:=grownCap_ge w s.size 0 e;have hle:=grownCap_le_maxLen w s.size 0 e hsz;have hyl:ys.length=s.size:=by rw[←h];simp
 obtain ⟨m,hm⟩:∃ m,m=grownCap w s.size 0 e-s.size:=⟨_,rfl⟩
 have hcl:(Lib.bytesCells w e s).toList=(s.data.toList.map fun b=>Value.int .u8 (b.toNat:Int))++List.replicate m (.int .u8 0):=by
  rw[hm];simp[Lib.bytesCells]
 have hin:∀ b:UInt8,ae w.drew D E (.int .u8 (b.toNat:Int)) [.int .u8 (b.toNat:Int)]:=fun b=>by
  have:=b.toNat_lt;simp only[ae,true_and];simp[IntKind.min,IntKind.max,IntKind.bits,IntKind.signed];omega
 have hr1:aI w.drew D E ys (s.data.toList.map fun b=>Value.int .u8 (b.toNat:Int)):=by
  rw[←h];generalize s.data.toList=l
  induction l with
  |nil=>simp[aI]
  |cons b l ih =>
   simp only[zz7,aI];exact ⟨[.int .u8 b.toNat],_,rfl,hin b,ih⟩
 have hr2:∀ k:Nat,aI w.drew D E (List.replicate k (.int .u8 0)) (List.replicate k (.int .u8 0)):=fun k=>by
  induction k with
  |zero=>simp[aI]
  |succ k ih =>
   simp only[List.replicate_succ,aI];exact ⟨[.int .u8 0],_,rfl,hin 0,ih⟩
 have hrc:ae w.drew D E (.agg (ys++List.replicate m (.int .u8 0))) (Lib.bytesCells w e s).toList:=by
  rw[hcl];simp only[ae];exact jq _ _ _ _ hr1 (hr2 m)
 have hsim':aM c A a w.drew D E:=hsim.grow ⟨rfl,rfl,rfl,zz8 _,fun _ _=>rfl⟩ (fun _ _ h=>h) (fun _ _ h _=>h) (fun b o h=>hsim.cQ b o h);have h2:aM c (A.aN d (.box (.agg (ys++List.replicate m (.int .u8 0))))) a (w.drew.alloc (.cells (Lib.bytesCells w e s) e ((Lib.bytesCells w e s).size,(Lib.bytesCells w e s).size+1))) D _ :=
  hsim'.qH (e:=.aE w.drew.heap.size (I.agg (ys++List.replicate m (.int .u8 0))).aL) (.inl hdn) hf rfl fun hl hno=>⟨w.drew.heap.size,_,e,by simp,.inl hsim'.c8.size,⟨_,heap_alloc_new w.drew _,.inr ⟨rfl,by
   simp only[I.aL,bY.flat,I.cM,zx3,zx1];rintro s' ⟨y,hy,rfl⟩;rcases zw1.1 hy with hy | hy
   ·rw[←h] at hy;obtain ⟨b,_,rfl⟩:=zx1.1 hy;rfl
   ·rw[List.eq_of_mem_replicate hy];rfl⟩⟩,ae.later hl _ _ hrc,hno⟩
 have hlen:(ys++List.replicate m (I.int .u8 0)).length=ys.length+m:=by simp
 have hall:∀ y∈ys++List.replicate m (I.int .u8 0),y.size=1:=by
  intro y hy;rcases zw1.1 hy with hy | hy
  ·rw[←h] at hy;obtain ⟨b,_,rfl⟩:=zx1.1 hy;rfl
  ·rw[List.eq_of_mem_replicate hy];rfl
 have h3:=h2.put (d:=d) (x:=.view d [] 1 0 ys.length) (v:=.slice (some ⟨w.heap.size,0,none⟩) s.size (grownCap w s.size 0 e)) hdn ⟨_,by simp[bd,I.isAgg];rfl,by
  simp only[ae,if_true];refine ⟨w.heap.size,(I.agg (ys++List.replicate m (.int .u8 0))).aL,0,I.cI (ys++List.replicate m (.int .u8 0)),rfl,by cases (I.agg (ys++List.replicate m (.int .u8 0))).aL <;>simp[bY.off],by simp only[I.aL,bY.part],?_,?_,?_,?_⟩
  ·rw[I.cM,zz2,hlen,hm];simp;omega
  ·rw[I.cM,zz2,hlen];omega
  ·rw[I.cM,zz2,hlen];omega
  ·rw[I.cM];intro s hs;obtain ⟨f,hf,rfl⟩:=zx1.1 hs;rw[I.iC];exact hall f hf⟩
 refine ⟨.slice (some ⟨w.heap.size,0,none⟩) s.size (grownCap w s.size 0 e),Lib.bytesWorld w e s,m,?_,by omega,?_⟩
 ·simp only[execOp,ho,hv,Sem.run_bind,Lib.run_convert_string_bytes w t t' e s hu ht' he];rfl
 ·rw[hd,Ip];exact ⟨D,_,h3⟩
end
end Go.Abs
namespace Go.Abs
open Go Go.RowKit
mutual
/-- Values that lead to no memory. -/
def I.flat:I→Bool
 | .agg fs | .tuple fs=>I.oK fs
 | .bool _ | .int _ _ | .ay _ | .nilp | .cZ | .cR | .any | .raw _ | .undef | .cV=>true
 |_=>false
def I.oK:List I→Bool
 | []=>true
 |x::xs=>x.flat&&I.oK xs
end
mutual
theorem ae.flat{w w':World}{D D':aJ}{E E':aO} : ∀ (x:I) (cs:List Value),x.flat=true→ae w D E x cs→ae w' D' E' x cs
 | .agg fs,cs,hf,hr=>by simp only[ae,I.flat] at *;exact aI.flat fs cs hf hr
 | .bool b,cs,_,hr=>by simpa only[ae] using hr
 | .int k n,cs,_,hr=>by simpa only[ae] using hr
 | .ay s,cs,_,hr=>by simpa only[ae] using hr
 | .nilp,cs,_,hr=>by simpa only[ae] using hr
 | .cZ,cs,_,hr=>by simpa only[ae] using hr
 | .cR,cs,_,hr | .any,cs,_,hr=>by simpa only[ae] using hr
 | .raw _,cs,_,hr=>by simpa only[ae] using hr
 | .undef,_,_,hr=>by simp only[ae] at hr
 | .cV,_,_,hr=>by simp only[ae] at hr
 | .tuple _,_,_,hr=>by simp only[ae] at hr
 | .nils _,_,hf,_ | .c0 _,_,hf,_ | .slice _ _,_,hf,_ | .ref _,_,hf,_ | .func _ _,_,hf,_ | .iface _ _,_,hf,_ | .ptr _ _,_,hf,_ | .own _ _,_,hf,_ | .view _ _ _ _ _,_,hf,_ | .mref _,_,hf,_ | .cU _,_,hf,_ | .cu _ _,_,hf,_=>by simp[I.flat] at hf
theorem aI.flat{w w':World}{D D':aJ}{E E':aO} : ∀ (xs:List I) (cs:List Value),I.oK xs=true→aI w D E xs cs→aI w' D' E' xs cs
 | [],cs,_,hr=>by simpa only[aI] using hr
 |x::xs,cs,hf,hr=>by
  simp only[aI,I.oK,zz0] at *;obtain ⟨c1,c2,h1,h2,h3⟩:=hr;exact ⟨c1,c2,h1,ae.flat x c1 hf.1 h2,aI.flat xs c2 hf.2 h3⟩
end
theorem aB.flat{w w':World}{D D':aJ}{E E':aO} : ∀ (xs:List I) (vs:List Value),I.oK xs=true→aB w D E xs vs→aB w' D' E' xs vs
 | [],vs,_,hr=>by simpa only[aB] using hr
 |x::xs,vs,hf,hr=>by
  simp only[aB,I.oK,zz0] at *;obtain ⟨v,rest,cs,h1,h2,h3,h4⟩:=hr;exact ⟨v,rest,cs,h1,h2,ae.flat x cs hf.1 h3,aB.flat xs rest hf.2 h4⟩
theorem aQ.flat{w w':World}{D D':aJ}{E E':aO}{x:I}{v:Value}(hf:x.flat=true)(hr:aQ w D E x v):aQ w' D' E' x v:=by
 cases x <;>simp only[aQ] at * <;>first
  |exact hr
  |(obtain ⟨vs,h1,h2⟩:=hr;exact ⟨vs,h1,aB.flat _ _ (by simpa[I.flat] using hf) h2⟩)
  |(obtain ⟨cs,h1,h2⟩:=hr;exact ⟨cs,h1,ae.flat _ _ hf h2⟩)
def cA:aO:=fun _=>none
def aK(P:Program)(f:FuncId)(args:List I)(r:I):Prop :=
 dH P f=true∧∀ (w:World) (D:aJ) (vs:List Value),eK P w (fun _=>False)→(∀ b o,D b o→b<w.heap.size)→aB w D cA args vs →
  Calls P f vs.toArray w fun e w'=>∃ v D',e=.returned v∧aQ w' D' cA r v∧Below w.heap.size w w'∧(∀ b o,D' b o→b<w'.heap.size)∧∀ b o,D' b o→b<w.heap.size→D b o
def eU(P:Program)(f:FuncId)(args:List I)(os:List (Nat×ai))(post:cd):Prop :=
 dH P f=true∧me (Calls P f) (fun w _ E=>eK P w (bU E)) args os post
def bF(p:Nat→Bool):List (Nat×ai)→Prop
 | []=>True
 |(_,v)::r=>v.only p=true∧bF p r
def dw(ns:List Nat)(os:List (Nat×ai)):List (Nat×ai):=os.filter fun q => !ns.contains q.1
def il(ns:List Nat)(ts:List (Nat×I)):List (Nat×I):=ts.map fun q=>(q.1,if q.2.only (fun n => !ns.contains n) then q.2 else .cV)
def jj(ns:List Nat)(os:List (Nat×ai)):List (Nat×ai):=os.filter fun q=>ns.contains q.1
def iP(ρ:List (Nat×Nat))(os:List (Nat×ai)):List Nat:=os.map fun q=>bo ρ q.1
def gi(aE:Bool)(A0:ab)(ρ:List (Nat×Nat))(os:List (Nat×ai)):List I→List I→Prop
 | [],[]=>True
 |x::xs,c::cs=>((x=c.aR (bo ρ)∧c.only (aw os)=true∧c.cn=true)∨bf aE A0 x=some c)∧gi aE A0 ρ os xs cs
 |_,_=>False
structure aC where
 dst:Option Nat
 op:bz
 guard:Option (Nat×Bool)
 deriving Inhabited
inductive cj where
 |done (A:ab)
 |fail
 |call (f:FuncId) (avs:List I) (a1 a2:Option (List I)) (dst:Option Nat) (rest:List aC) (A:ab)
 |lr (v:Value) (avs:List I) (dst:Option Nat) (rest:List aC) (A:ab)
 |gK (f:FuncId) (avs:List I) (dst:Option Nat) (rest:List aC) (A:ab)
 |any (p:Nat→Prop) (k:Nat→cj)
def cv(x:Option I)(k:I→cj):cj:=match x with
 |some v=>k v
 |none=>.fail
def wB(s:Option Nat)(v old:I):Prop:=v.cn=true∧bT s v=true∧v.aL=old.aL
def wy(e esz bytes l sz:Nat)(ys:List I)(T sz':Nat)(es:List I):Prop:=l=es.length∧sz=esz∧T=e∧sz'=esz∧ys≠[]∧es.length+ys.length≤maxLen∧(es.length+ys.length)*bytes≤140737488355328
def qo(ys:List I):List Int:=ys.filterMap fun y=>match y with | .int .i64 i=>some i | _=>none
def wz(e esz bytes l:Nat)(ys:List I)(T:Nat)(xs:List Int)(z:I):Prop:=l=xs.length∧esz=1∧T=e∧z=.int .i64 0∧ys=(qo ys).map (.int .i64)∧ys≠[]∧xs.length+ys.length≤maxLen∧(xs.length+ys.length)*bytes≤140737488355328
def jv:I→Bool
 | .slice _ es=>es.isEmpty
 | .c0 _=>true
 |_=>false
def kE(f:Nat):Nat:=if f<1000000 then f else f-1000000
def gR(f:Nat)(args caps:List I):List I:=if f<1000000 then args++caps else caps++args
theorem vt{f:Nat}(h:f<1000000):kE f=f:=by simp only[kE,if_pos h]
theorem vr{f:Nat}(h:f<1000000)(args caps:List I):gR f args caps=args++caps:=by simp only[gR,if_pos h]
theorem A2(g:Nat):kE (g+1000000)=g:=by simp only[kE,if_neg (show ¬ g+1000000<1000000 by omega),Nat.add_sub_cancel]
theorem A1(g:Nat)(args caps:List I):gR (g+1000000) args caps=caps++args:=by simp only[gR,if_neg (show ¬ g+1000000<1000000 by omega)]
open Classical in
noncomputable def fq(A:ab)(dst:Option Nat)(esz bytes:Nat)(z:I)(es ys:List I)(k:ab→cj):cj :=
 match dst with
 |some d=>match A.o d with
  |none=>if (es.length+ys.length)*bytes≤140737488355328∧es.length+ys.length≤maxLen then
    .any (fun m=>es.length+ys.length+m≤maxLen) (fun m=>k ((A.aN d (.box (.agg (es++(ys++List.replicate m z))))).aP dst (.view d [] esz 0 (es.length+ys.length)))) else .fail
  |some _=>.fail
 |none=>.fail
open Classical in
noncomputable def ed(A:ab)(dst:Option Nat)(esz bytes:Nat)(z:I)(s:I):Option (List I)→Option (List I)→(ab→cj)→cj
 |some es,some ys,k=>if ys=[] then k (A.aP dst s) else match s with
  | .nils _=>fq A dst esz bytes z es ys k
  | .c0 _=>fq A dst esz bytes z es ys k
  | .view n p sz lo l=>match A.o n with
   |some (.box b)=>match b.at p with
    |some (.agg fs)=>if lo+l+ys.length≤fs.length then
      (if sz=esz∧I.cI ys=I.cI ((fs.drop (lo+l)).take ys.length) then k ((A.aN n (.box (hE b p (lo+l) fs ys))).aP dst (.view n p esz lo (l+ys.length))) else .fail)
      else fq A dst esz bytes z es ys k
    |_=>.fail
   |_=>.fail
  |_=>.fail
 |_,_,_=>.fail
open Classical in
noncomputable def pP(A:ab)(dst:Option Nat)(esz bytes:Nat)(z:I)(m:Nat)(s:I):Option (List I)→(ab→cj)→cj
 |some es,k=>match s with
  | .view n p _ lo l=>match A.o n with
   |some (.box b)=>match b.at p with
    |some (.agg fs)=>if 0<m∧fs.length<lo+l+m then fq A dst esz bytes z es (List.replicate m z) k else .fail
    |_=>.fail
   |_=>.fail
  |_=>.fail
 |_,_=>.fail
open Classical in
noncomputable def mr(A:ab)(esz:Nat)(z:I)(k:ab→cj):I→cj
 | .view n p sz lo l=>match A.o n with
  |some (.box b)=>match b.at p with
   |some (.agg fs)=>if sz=esz∧I.cI (List.replicate l z)=I.cI ((fs.drop lo).take l) then k (A.aN n (.box (hE b p lo fs (List.replicate l z)))) else .fail
   |_=>.fail
  |_=>.fail
 | .nils _=>k A
 | .c0 _=>k A
 |_=>.fail
open Classical in
noncomputable def kz(A:ab)(dst:Option Nat)(esz:Nat)(k:ab→cj):I→Option (List I)→cj
 | .view n p sz lo l,some ys=>match A.o n with
  |some (.box b)=>match b.at p with
   |some (.agg fs)=>if sz=esz∧I.cI (ys.take (min ys.length l))=I.cI ((fs.drop lo).take (min ys.length l)) then k ((A.aN n (.box (hE b p lo fs (ys.take (min ys.length l))))).aP dst (.int .i64 (min ys.length l:Nat))) else .fail
   |_=>.fail
  |_=>.fail
 | .c0 _,some _=>k (A.aP dst (.int .i64 0))
 |_,_=>.fail
def iB(A:ab)(dst:Option Nat)(k:ab→cj):Option (List I)→cj
 |some ys=>match dst with
  |some d=>match A.o d with
   |none=>.any (fun m=>ys.length+m≤maxLen) fun m=>k ((A.aN d (.box (.agg (ys++List.replicate m (.int .u8 0))))).aP dst (.view d [] 1 0 ys.length))
   |some _=>.fail
  |none=>.fail
 |none=>.fail
open Classical in
noncomputable def aY(A:ab)(dst:Option Nat)(op:bz)(rest:List aC)(k:ab→cj):cj :=
 match op with
 | .alloc z=>match dst with
  |some d=>match A.o d with
   |none=>k ((A.aN d (.box z)).put d (.ptr d []))
   |some _=>.fail
  |none=>.fail
 | .box x=>match dst with
  |some d=>match A.o d with
   |none=>if (af A x).cn then k ((A.aN d (.box (af A x))).put d (.ptr d [])) else .fail
   |some _=>.fail
  |none=>.fail
 | .aS s x v=>match dst with
  |none=>match af A x with
   | .ptr n p=>match A.o n with
    |some (.box b)=>match b.at p with
     |some old=>if wB s (af A v) old then k (A.aN n (.box (b.dm p (af A v)))) else .fail
     |none=>.fail
    |_=>.fail
   |_=>.fail
  |some _=>.fail
 | .du e esz bytes z s x=>match af A s with
  | .own n l=>match af A x with
   | .slice sz ys=>match A.o n with
    |some (.bM T sz' es)=>if wy e esz bytes l sz ys T sz' es then k ((A.aN n (.bM e esz (es++ys))).aP dst (.own n (es.length+ys.length))) else .fail
    |some (.dL T xs)=>if wz e esz bytes l ys T xs z then k ((A.aN n (.dL e (xs++qo ys))).aP dst (.own n (xs.length+ys.length))) else .fail
    |_=>.fail
   |_=>.fail
  |s'=>ed A dst esz bytes z s' (cT A esz s') (cT A esz (af A x)) k
 | .jU _ esz bytes z s n=>match af A n with
  | .int _ m=>pP A dst esz bytes z m.toNat (af A s) (cT A esz (af A s)) k
  |_=>.fail
 | .nilS neg x=>if jv (af A x) then .any (fun m=>m<2) (fun m=>k (A.aP dst (.bool (m==0)))) else cv (aZ A (.nilS neg x)) fun v=>k (A.aP dst v)
 | .jc esz z x=>match dst with
  |none=>mr A esz z k (af A x)
  |some _=>.fail
 | .gl esz x y=>kz A dst esz k (af A x) (kj A esz (af A y))
 | .eT x=>iB A dst k (lT (af A x))
 | .call f args=>.call f (args.map (af A)) (bL true A (args.map (af A))) (bL false A (args.map (af A))) dst rest A
 | .eV x args=>match af A x with
  | .func f caps=>.call (kE f) (gR f (args.map (af A)) caps) (bL true A (gR f (args.map (af A)) caps)) (bL false A (gR f (args.map (af A)) caps)) dst rest A
  | .raw v=>.lr v (args.map (af A)) dst rest A
  |_=>.fail
 | .gK f args=>.gK f (args.map (af A)) dst rest A
 | .jK=>match dst with
  |some d=>match A.o d with
   |none=>k ((A.aN d (.b8 [] [])).put d (.mref d))
   |some _=>.fail
  |none=>.fail
 | .lI e sz=>match dst with
  |some d=>match A.o d with
   |none=>k ((A.aN d (.bM e sz [])).put d (.own d 0))
   |some _=>.fail
  |none=>.fail
 | .jl _ bytes z n=>match dst with
  |some d=>match A.o d with
   |none=>match af A n with
    | .int _ n=>if 0≤n∧n.toNat*bytes≤281474976710656∧n.toNat≤maxLen then k ((A.aN d (.box (.agg (List.replicate n.toNat z)))).put d (.view d [] 1 0 n.toNat)) else .fail
    |_=>.fail
   |some _=>.fail
  |none=>.fail
 | .jm ty m key v=>match dst with
  |none=>match af A m with
   | .mref n=>match A.o n with
    |some (.b8 ks vs)=>match lJ ty (af A key) (af A v) ks vs with
     |some (ks',vs')=>k (A.aN n (.b8 ks' vs'))
     |none=>.fail
    |_=>.fail
   |_=>.fail
  |some _=>.fail
 | .lH ty m key=>match dst with
  |none=>match af A m with
   | .mref n=>match A.o n with
    |some (.b8 ks vs)=>match wc ty (af A key) ks vs with
     |some (ks',vs')=>k (A.aN n (.b8 ks' vs'))
     |none=>.fail
    |_=>.fail
   |_=>.fail
  |some _=>.fail
 | .kh x=>match dst with
  |some d=>match A.o d with
   |none=>match af A x with
    | .cu ks vs=>k ((A.aN d (.it ks vs (List.range ks.length) none)).put d (.cU d))
    |_=>.fail
   |some _=>.fail
  |none=>.fail
 | .j8 x=>match af A x with
  | .cU n=>match A.o n with
   |some (.it ks vs left cur)=>if left=[] then k (A.aP dst (.tuple [.bool false])) else
     .any (fun i=>i∈left) fun i=>match ks[i]?,vs[i]? with
      |some kk,some x=>k ((A.aN n (.it ks vs (left.filter (· != i)) (some i))).aP dst (.tuple [.bool true,kk,x]))
      |_,_=>.fail
   |_=>.fail
  |_=>.fail
 |op=>cv (aZ A op) fun v=>k (A.aP dst v)
noncomputable def aA:List aC→ab→cj
 | [],A=>.done A
 |g::rest,A=>match g.guard with
  |none=>aY A g.dst g.op rest (aA rest)
  |some (t,b)=>match A.t t with
   | .bool b'=>if b'=b then aY A g.dst g.op rest (aA rest) else aA rest (A.aP g.dst .undef)
   | .undef=>aA rest (A.aP g.dst .undef)
   |_=>.fail
def ym(P:Program)(A:ab)(f:FuncId)(avs:List I)(r:I):Prop :=
 ∀ (c:ct) (a:Act) (w:World) (D:aJ) (E:aO) (vs:List Value),c.P=P→aM c A a w D E→dX (aQ w D E) avs vs→∃ v,(callFunc f vs.toArray).run P w=.ok (.value v) w∧aQ w D E r v
inductive ba (P:Program) (Y:Value→List I→List (Nat×ai)→cd→Prop) (dr:Bool) (K:ab→Prop):cj→Prop where
 |done {A:ab} : K A→ba P Y dr K (.done A)
 |flat {f:FuncId} {avs cargs:List I} {a2:Option (List I)} {dst:Option Nat} {rest:List aC} {A:ab} (r:I):aK P f cargs r→r.flat=true→ba P Y dr K (aA rest (A.aP dst r))→ba P Y dr K (.call f avs (some cargs) a2 dst rest A)
 |lead {f:FuncId} {avs cargs:List I} {a1:Option (List I)} {dst:Option Nat} {rest:List aC} {A:ab} (r:I):aK P f cargs r→ba P Y dr K (aA rest (A.aP dst r))→ba P Y dr K (.call f avs a1 (some cargs) dst rest A)
 |j4 {f:FuncId} {avs cargs:List I} {a1 a2:Option (List I)} {dst:Option Nat} {rest:List aC} {ts:List (Nat×I)} {os0:List (Nat×ai)} (ns:List Nat) (r:I):dr=false→aK P f cargs r→bL true (al ts (jj ns os0)) avs=some cargs →
   bF (fun n => !ns.contains n) (dw ns os0)→ba P Y dr K (aA rest ((al (il ns ts) (dw ns os0)).aP dst r))→ba P Y dr K (.call f avs a1 a2 dst rest (al ts os0))
 |bx {f:FuncId} {avs:List I} {a1 a2:Option (List I)} {dst:Option Nat} {rest:List aC} {ts:List (Nat×I)} {os0:List (Nat×ai)} (aE:Bool) (ρ:List (Nat×Nat)) (os:List (Nat×ai)) (cargs:List I) (post:cd):dr=false→eU P f cargs os post →
   eF ρ os os0→gi aE (al ts (dw (iP ρ os) os0)) ρ os avs cargs→(∀ r os',post r os'→dj aE ρ os os0 r os') →
   (∀ r os',post r os'→ba P Y dr K (aA rest ((al ts (cD ρ os'++os0)).aP dst (r.aR (bo ρ)))))→ba P Y dr K (.call f avs a1 a2 dst rest (al ts os0))
 |uj {v:Value} {avs:List I} {dst:Option Nat} {rest:List aC} {ts:List (Nat×I)} {os0:List (Nat×ai)} (os:List (Nat×ai)) (cargs:List I) (post:cd):dr=false→Y v cargs os post →
   eF [] os os0→gi false (al ts (dw (iP [] os) os0)) [] os avs cargs→(∀ r os',post r os'→dj false [] os os0 r os') →
   (∀ r os',post r os'→ba P Y dr K (aA rest ((al ts (cD [] os'++os0)).aP dst (r.aR (bo [])))))→ba P Y dr K (.lr v avs dst rest (al ts os0))
 |ext {f:FuncId} {avs:List I} {dst:Option Nat} {rest:List aC} {A:ab} (r:I):dr=false→ym P A f avs r→ba P Y dr K (aA rest (A.aP dst r))→ba P Y dr K (.gK f avs dst rest A)
 |any {p:Nat→Prop} {k:Nat→cj} : dr=false→(∀ m,p m→ba P Y dr K (k m))→ba P Y dr K (.any p k)
def AK(n:Nat):Option Nat→Bool
 |some d=>decide (d<n)
 |none=>true
def lq(P:Program)(n:Nat)(bl:Array Oper)(o:Oper):Option aC :=
 match cF P o with
 |none=>none
 |some g=>if AK n o.dst=true then
   match o.guard with
   |none=>some ⟨o.dst,g,none⟩
   |some (j,b)=>match (bl[j]?).bind (·.dst) with
    |some t=>some ⟨o.dst,g,some (t,b)⟩
    |none=>none
  else none
def fC(P:Program)(n:Nat)(bl:Array Oper):List Oper→Option (List aC)
 | []=>some []
 |o::l=>match lq P n bl o,fC P n bl l with
  |some g,some gs=>some (g::gs)
  |_,_=>none
end Go.Abs
namespace Go.Abs
open Go Go.RowKit
section
variable {c:ct} {A:ab} {o:Oper} {x:I}
theorem Dq{g:bz}(hg:cF c.P o=some g)(h:aZ A g=some x):cN c A o x:=by
 unfold cF at hg;split at hg
 -- move
 ·rename_i y ho;simp only[t8] at hg;obtain ⟨z,hz,rfl⟩:=hg;simp only[aZ,v6] at h;subst h;exact BQ (.inl ho) hz
 ·rename_i y ho;simp only[t8] at hg;obtain ⟨z,hz,rfl⟩:=hg;simp only[aZ,v6] at h;subst h;exact BQ (.inr ho) hz
 -- pick
 ·rename_i q y z ho;split at hg
  ·rename_i q' y' z' h1 h2 h3;simp only[v6] at hg;subst hg;simp only[aZ] at h;split at h
   ·rename_i t ht;simp only[v6] at h;subst h;exact Yk ho h1 h2 h3 ht
   ·cases h
  ·cases hg
 -- binOp
 ·rename_i op t y z yt ho;split at hg
  ·rename_i k y' z' hu h1 h2;simp only[v6] at hg;subst hg;exact BO ho h1 h2 h
  ·rename_i y' z' hu h1 h2;simp only[v6] at hg;subst hg;exact BO ho h1 h2 h
  ·rename_i e y' z' hu h1 h2;split at hg
   ·rename_i s;split at hg
    ·rename_i hop;simp only[v6] at hg;subst hg;have ho':o.op=.binOp (if (op==.neq)=true then .neq else .eql) t y z yt:=by
      rcases hop with rfl | rfl <;>simpa using ho
     simp only[aZ] at h;split at h
     ·rename_i s' hs';simp only[v6] at h;subst h;have:=vL (r:=true) ho' hu h1 h2 (.inl ⟨s',hs',rfl⟩);rw[show (if (op==BinOp.neq)=true then !true else true) = !(op==BinOp.neq) from by cases (op==BinOp.neq) <;>rfl] at this;exact this
     ·rename_i s' es hs';split at h
      ·cases h
      ·rename_i hne;simp only[v6] at h;subst h;have:=vL (r:=false) ho' hu h1 h2 (.inr (.inl ⟨s',es,hs',by simpa using hne,rfl⟩));rw[show (if (op==BinOp.neq)=true then !false else false)=(op==BinOp.neq) from by cases (op==BinOp.neq) <;>rfl] at this;exact this
     ·rename_i n p s' lo k hs';simp only[v6] at h;subst h;have:=vL (r:=false) ho' hu h1 h2 (.inr (.inr ⟨n,p,s',lo,k,hs',rfl⟩));rw[show (if (op==BinOp.neq)=true then !false else false)=(op==BinOp.neq) from by cases (op==BinOp.neq) <;>rfl] at this;exact this
     ·cases h
    ·cases hg
   ·cases hg
  ·rename_i e y' z' hu h1 h2;split at hg
   ·rename_i hop;simp only[v6] at hg;subst hg;have ho':o.op=.binOp (if (op==.neq)=true then .neq else .eql) t y z yt:=by
     rcases hop with rfl | rfl <;>simpa using ho
    simp only[aZ] at h;cases hb1:ir (af A y') with
    |none=>rw[hb1] at h;cases h
    |some b1=>cases hb2:ir (af A z') with
     |none=>rw[hb1,hb2] at h;cases h
     |some b2 =>
      rw[hb1,hb2] at h;simp only[mO] at h;split at h
      ·rename_i hor;simp only[v6] at h;subst h;exact Yl ho' hu h1 h2 hb1 hb2 (by simpa using hor)
      ·cases h
   ·cases hg
  ·rename_i ms y' z' hu h1 h2;split at hg
   ·split at hg
    ·rename_i hop;simp only[v6] at hg;subst hg;have ho':o.op=.binOp (if (op==.neq)=true then .neq else .eql) t y z yt:=by
      rcases hop with rfl | rfl <;>simpa using ho
     exact Yi ho' hu h1 h2 (by simpa only[aZ,zz7,zy9] using h)
    ·cases hg
   ·cases hg
  ·rename_i d y' z' _ _ _ _ _ hu h1 h2;split at hg
   ·rename_i hop;simp only[t8] at hg;obtain ⟨ty,hty,rfl⟩:=hg;have ho':o.op=.binOp (if (op==.neq)=true then .neq else .eql) t y z yt:=by
     rcases hop.1 with rfl | rfl <;>simpa using ho
    simp only[aZ,t8] at h;obtain ⟨r,hr,rfl⟩:=h;exact XZ ho' h1 h2 hop.2 hty hr
   ·cases hg
  ·cases hg
 -- unOp
 ·rename_i op t y ho;simp only[t8] at hg;obtain ⟨z,hz,rfl⟩:=hg;simp only[aZ] at h;split at h
  ·rename_i b hb;simp only[v6] at h;subst h;exact Yj ho hz hb
  ·rename_i k n hb;simp only[v6] at h;subst h;exact Yh ho hz hb
  ·rename_i k n hb;simp only[v6] at h;subst h;exact XX ho hz hb
  ·cases h
 -- nilCheck
 ·rename_i y ho;simp only[t8] at hg;obtain ⟨z,hz,rfl⟩:=hg;simp only[aZ] at h;cases hy:af A z <;>rw[hy] at h <;>simp only[nw,v6] at h <;>try (cases h;done)
  ·subst h;rw[←hy];exact BR ho hz (.inr ⟨_,hy⟩)
  ·subst h;rw[←hy];exact BR ho hz (.inl ⟨_,_,hy⟩)
 -- makeMap
 ·simp only[v6] at hg;subst hg;simp[aZ] at h
 -- lookup
 ·rename_i t m k ok ho;split at hg
  ·rename_i kt et m' k' hu h1 h2;split at hg
   ·rename_i ty z hk hz;split at hg
    ·rename_i hp;simp only[v6] at hg;subst hg;simp only[aZ] at h;cases hm:fY A (af A m') with
     |none=>rw[hm] at h;cases h
     |some q =>
      obtain ⟨ks,vs⟩:=q;rw[hm] at h;simp only[qB] at h;cases hl:jI ty z (af A k') ks vs with
      |none=>rw[hl] at h;cases h
      |some q =>
       obtain ⟨v,b⟩:=q;rw[hl] at h;simp only[qC,v6] at h;subst h;exact Yb ho hu hk hz hp h1 h2 hm hl
    ·cases hg
   ·cases hg
  ·cases hg
 -- mapUpdate,insert
 iterate 2
  ·split at hg
   ·split at hg
    ·simp only[v6] at hg;subst hg;simp[aZ] at h
    ·cases hg
   ·cases hg
 -- makeSlice
 ·split at hg
  ·split at hg
   ·split at hg
    ·simp only[v6] at hg;subst hg;simp[aZ] at h
    ·split at hg
     ·split at hg
      ·simp only[v6] at hg;subst hg;simp[aZ] at h
      ·cases hg
     ·cases hg
   ·cases hg
  ·cases hg
 -- range
 ·split at hg
  ·simp only[t8] at hg;obtain ⟨z,_,rfl⟩:=hg;simp[aZ] at h
  ·cases hg
 -- next
 ·simp only[t8] at hg;obtain ⟨z,_,rfl⟩:=hg;simp[aZ] at h
 -- entry
 ·rename_i y ho;simp only[t8] at hg;obtain ⟨z,hz,rfl⟩:=hg;simp only[aZ] at h;split at h
  ·rename_i n hn;split at h
   ·rename_i ks vs left cur hob;cases cur with
    |none=>cases h
    |some i =>
     simp only[sa] at h;split at h
     ·rename_i kk xx hk hx;simp only[v6] at h;subst h;exact XY ho hz hn hob hk hx
     ·cases h
   ·cases h
  ·cases h
 -- convert
 ·rename_i l8 dst y ho;split at hg
  ·rename_i k0 k y' h1 h2 h3;simp only[v6] at hg;subst hg;simp only[aZ] at h;split at h
   ·rename_i k1 n hn;simp only[v6] at h;subst h;exact XW ho h1 h2 h3 hn
   ·cases h
  ·rename_i e y' h1 h2 h3;split at hg
   ·rename_i he;simp only[v6] at hg;subst hg;exact XT ho h1 he h2 h3 (by simpa only[aZ] using h)
   ·cases hg
  ·rename_i e y' h1 h2 h3;split at hg
   ·rename_i he;simp only[v6] at hg;subst hg;simp only[aZ] at h;cases h
   ·cases hg
  ·cases hg
 -- load
 ·rename_i t y ho;split at hg
  ·rename_i s y' h1 h2;simp only[v6] at hg;subst hg;simp only[aZ] at h;split at h
   ·rename_i v hv;split at h
    ·rename_i hok;simp only[v6] at h;subst h;exact Ya ho h1 h2 hv hok
    ·cases h
   ·cases h
  ·cases hg
 -- fieldAddr
 ·rename_i t y f ho;split at hg
  ·rename_i fs y' hu h1;split at hg
   ·rename_i fd hf;split at hg
    ·cases hg
    ·rename_i hz;simp only[v6] at hg;subst hg;simp only[aZ] at h;split at h
     ·rename_i gs hgs;split at h
      ·rename_i v hv;split at h
       ·rename_i hoff;simp only[v6] at h;subst h;exact X2 ho hu hf hz h1 hgs hv hoff
       ·cases h
      ·cases h
     ·rename_i n p hp;split at h
      ·rename_i gs hgs;split at h
       ·rename_i hoff;simp only[v6] at h;subst h;exact X1 ho hu hf hz h1 hp hgs hoff.1 hoff.2
       ·cases h
      ·cases h
     ·cases h
   ·cases hg
  ·cases hg
 -- field
 ·rename_i t y f ho;split at hg
  ·rename_i fs y' hu h1;split at hg
   ·rename_i fd hf;simp only[t8] at hg;obtain ⟨s,hs,rfl⟩:=hg;simp only[aZ] at h;split at h
    ·rename_i gs hgs;split at h
     ·rename_i v hv;split at h
      ·rename_i hoff;simp only[v6] at h;subst h;exact X3 ho hu hf hs h1 hgs hv hoff.1 hoff.2
      ·cases h
     ·cases h
    ·cases h
   ·cases hg
  ·cases hg
 -- indexAddr
 ·rename_i t y i ho;split at hg
  ·rename_i n e y' i' hu h1 h2;split at hg
   ·rename_i hinfo;obtain ⟨ti,hti⟩:=zy7.1 hinfo;simp only[v6] at hg;subst hg;simp only[aZ] at h;split at h
    ·rename_i kk k hk;split at h
     ·rename_i hb;split at h
      ·rename_i gs hgs;split at h
       ·rename_i hev;simp only[t8] at h;obtain ⟨v,hv,rfl⟩:=h;exact X5 ho hu hti h1 h2 hgs hk hb hev hv
       ·cases h
      ·rename_i m p hp;split at h
       ·rename_i gs hgs;split at h
        ·rename_i hev;simp only[v6] at h;subst h;exact X4 ho hu hti h1 h2 hp hk hb hgs hev
        ·cases h
       ·cases h
      ·cases h
     ·cases h
    ·cases h
   ·cases hg
  ·rename_i e y' i' hu h1 h2;split at hg
   ·rename_i hinfo;obtain ⟨ti,hti⟩:=zy7.1 hinfo;simp only[v6] at hg;subst hg;simp only[aZ] at h;split at h
    ·rename_i kk k hk;split at h
     ·rename_i sz es hes;split at h
      ·rename_i hb;obtain ⟨rfl,hb⟩:=hb;simp only[t8] at h;obtain ⟨v,hv,rfl⟩:=h;exact X6 ho hu hti h1 h2 hes hk hb hv
      ·cases h
     ·rename_i m l hm;split at h
      ·rename_i T sz es hes;split at h
       ·rename_i hb;obtain ⟨rfl,rfl,hb⟩:=hb;simp only[t8] at h;obtain ⟨v,hv,rfl⟩:=h;exact X7 ho hu hti h1 h2 hm hes hk hb hv
       ·cases h
      ·cases h
     ·rename_i m p sz lo l hm;split at h
      ·rename_i fs hfs;split at h
       ·rename_i hb;simp only[v6] at h;subst h;exact X8 ho hu hti h1 h2 hb.1 hm hfs hk hb.2
       ·cases h
      ·cases h
     ·cases h
    ·cases h
   ·cases hg
  ·cases hg
 -- index
 ·rename_i t y i ho;split at hg
  ·rename_i n e y' i' hu h1 h2;simp only[t8] at hg;obtain ⟨s,hs,rfl⟩:=hg;simp only[aZ] at h;split at h
   ·rename_i kk k hk;split at h
    ·rename_i hb;split at h
     ·rename_i gs hgs;split at h
      ·rename_i hev;split at h
       ·rename_i v hv;split at h
        ·rename_i hok;simp only[v6] at h;subst h;exact X9 ho hu hs h1 h2 hgs hk hb hev hv hok
        ·cases h
       ·cases h
      ·cases h
     ·cases h
    ·cases h
   ·cases h
  ·rename_i y' i' hu h1 h2;simp only[v6] at hg;subst hg;exact Ym ho hu h1 h2 (by simpa only[aZ,zz7,zy9] using h)
  ·cases hg
 -- slice
 ·rename_i t y lo hi mx ho;split at hg
  ·rename_i n e y' hu h1;split at hg
   ·split at hg
    ·rename_i hinfo;obtain ⟨ti,hti⟩:=zy7.1 hinfo;simp only[v6] at hg;subst hg;simp only[aZ] at h;split at h
     ·rename_i m p hp;split at h
      ·rename_i gs hgs;split at h
       ·rename_i hev;simp only[v6] at h;subst h;exact Yr ho hu hti h1 hp hgs hev.1 hev.2.1 hev.2.2
       ·cases h
      ·cases h
     ·rename_i gs hgs;split at h
      ·rename_i hev;simp only[v6] at h;subst h;exact Ys ho hu hti h1 hgs hev.1 hev.2.1
      ·cases h
     ·cases h
    ·cases hg
   ·cases hg
  ·rename_i e y' hu h1;split at hg
   ·rename_i lo' hi' mx' q1 q2 q3;split at hg
    ·rename_i hc;obtain ⟨ti,hti⟩:=zy7.1 hc.2;simp only[v6] at hg;subst hg;simp only[aZ] at h;split at h
     ·rename_i sz es hes;split at h
      ·rename_i hsz;subst hsz;exact vM ho hu hti h1 q1 q2 q3 hc.1 (.inl hes) h
      ·cases h
     ·rename_i sz hes;split at h
      ·rename_i hsz;subst hsz;exact vM ho hu hti h1 q1 q2 q3 hc.1 (.inr (.inl ⟨hes,rfl⟩)) h
      ·cases h
     ·rename_i sz hes;split at h
      ·rename_i hsz;subst hsz;exact vM ho hu hti h1 q1 q2 q3 hc.1 (.inr (.inr ⟨hes,rfl⟩)) h
      ·cases h
     ·rename_i n p sz l0 k hv;split at h
      ·rename_i fs hfs;split at h
       ·rename_i hsz;exact Yn ho hu hti h1 q1 q2 q3 hc.1 hsz hv hfs h
       ·cases h
      ·cases h
     ·cases h
    ·cases hg
   ·cases hg
  ·rename_i y' hu h1;split at hg
   ·rename_i hi;simp only[t8] at hg;obtain ⟨hi',h2,rfl⟩:=hg;exact Yp ho hu h1 h2 (by simpa only[aZ,zz7,zy9] using h)
   ·rename_i lo;simp only[t8] at hg;obtain ⟨lo',h2,rfl⟩:=hg;exact Yq ho hu h1 h2 (by simpa only[aZ,zz7,zy9] using h)
   ·split at hg
    ·rename_i lo' hi' h2 h3;simp only[v6] at hg;subst hg;exact Yo ho hu h1 h2 h3 (by simpa only[aZ,zz7,zy9] using h)
    ·cases hg
   ·cases hg
  ·cases hg
 -- build
 ·rename_i t parts ho;split at hg
  ·rename_i zs ps hz hp;split at hg
   ·rename_i fs hu;split at hg
    ·rename_i hc;simp only[v6] at hg;subst hg;simp only[aZ,t8] at h;obtain ⟨zs',h,rfl⟩:=h;exact BP ho hz hp (.inl ⟨fs,hu,hc.1,hc.2⟩) h
    ·cases hg
   ·rename_i n e hu;split at hg
    ·rename_i hc;simp only[v6] at hg;subst hg;simp only[aZ,t8] at h;obtain ⟨zs',h,rfl⟩:=h;exact BP ho hz hp (.inr ⟨n,e,hu,hc.1,hc.2.1,hc.2.2⟩) h
    ·cases hg
   ·cases hg
  ·cases hg
 -- buildSlice
 ·rename_i t len parts ho;split at hg
  ·rename_i e hu;split at hg
   ·rename_i ps hp;split at hg
    ·rename_i h0;obtain ⟨rfl,rfl,h0⟩:=h0;obtain ⟨ti,hti⟩:=zy7.1 h0;simp only[v6] at hg;subst hg;simp only[aZ,v6] at h;subst h;exact XV ho hu hti
    split at hg
    ·rename_i hc;obtain ⟨c1,c2,c3,c4,c5⟩:=hc;simp only[v6] at hg;subst hg;simp only[aZ] at h;split at h
     ·rename_i es hes;split at h
      ·rename_i hev;simp only[v6] at h;subst h;refine XU ho hu hp c1 c2 c3 c4 c5 hes (fun y hy =>?_) hev.2;have:=zx3.1 hev.1 y hy;simpa using this
      ·cases h
     ·cases h
    ·cases hg
   ·cases hg
  ·cases hg
 -- extract
 ·rename_i y i ho;simp only[t8] at hg;obtain ⟨z,hz,rfl⟩:=hg;simp only[aZ] at h;split at h
  ·rename_i fs hfs;exact X0 ho hz hfs h
  ·cases h
 -- makeFunc
 ·rename_i f first caps ho
  split at hg
  case isFalse=>cases hg
  rename_i hlt;split at hg
  ·rename_i hfirst;simp only[t8] at hg;obtain ⟨ys,hys,rfl⟩:=hg;simp only[aZ] at h;split at h
   ·rename_i hv;simp only[v6] at h;subst h;have hf:first = #[]:=by simpa using hfirst
    rw[hf] at ho;refine Yc hlt ho hys (fun y hy =>?_);have:=zx3.1 hv (af A y) (zx1.2 ⟨y,hy,rfl⟩);exact this
   ·cases h
  ·split at hg
   case isFalse=>cases hg
   rename_i hcaps;simp only[t8] at hg;obtain ⟨ys,hys,rfl⟩:=hg;simp only[aZ] at h;split at h
   ·rename_i hv;simp only[v6] at h;subst h;have hf:caps = #[]:=by simpa using hcaps
    rw[hf] at ho;refine Ye ho hys (fun y hy =>?_);have:=zx3.1 hv (af A y) (zx1.2 ⟨y,hy,rfl⟩);exact this
   ·cases h
 -- alloc
 ·simp only[t8] at hg;obtain ⟨z,_,rfl⟩:=hg;simp[aZ] at h
 -- box
 ·simp only[t8] at hg;obtain ⟨z,_,rfl⟩:=hg;simp[aZ] at h
 -- store
 ·split at hg
  ·split at hg
   ·simp only[v6] at hg;subst hg;simp[aZ] at h
   ·cases hg
  ·cases hg
 -- call
 ·split at hg
  ·simp only[t8] at hg;obtain ⟨z,_,rfl⟩:=hg;simp[aZ] at h
  ·simp only[t8] at hg;obtain ⟨z,_,rfl⟩:=hg;simp[aZ] at h
 ·split at hg
  ·simp only[v6] at hg;subst hg;simp[aZ] at h
  ·cases hg
 -- len
 ·rename_i args tys ho;split at hg
  ·rename_i y ty hargs htys;have ho':o.op=.call { callee:=.builtin .len,args := #[y],argTypes := #[ty] } :=by
    rw[ho];have e1:args = #[y]:=by apply Array.ext';simpa using hargs
    have e2:tys = #[ty]:=by apply Array.ext';simpa using htys
    rw[e1,e2]
   split at hg
   ·rename_i e hu;simp only[t8] at hg;obtain ⟨y',hy,rfl⟩:=hg;simp only[aZ] at h;split at h
    ·rename_i sz es hes;simp only[v6] at h;subst h;refine oL ho' hu (.inl ⟨e,rfl⟩) hy (fun a w D E hs v hv =>?_);rw[hes] at hv;obtain ⟨ad,cap,e1,e2,e3,_⟩:=kT hv;exact ⟨Nat.le_trans e2 e3,fun _=>⟨ad,cap,e1⟩,fun e=>by cases e⟩
    ·rename_i sz hes;simp only[v6] at h;subst h;refine oL (n:=0) ho' hu (.inl ⟨e,rfl⟩) hy (fun a w D E hs v hv =>?_);rw[hes] at hv;obtain ⟨cs,q1,q2⟩:=hv;simp only[ae] at q2;exact ⟨by simp[maxLen],fun _=>⟨none,0,by simpa[bd,I.isAgg,q2] using q1.symm⟩,fun e=>by cases e⟩
    ·rename_i sz hes;simp only[v6] at h;subst h;refine oL (n:=0) ho' hu (.inl ⟨e,rfl⟩) hy (fun a w D E hs v hv =>?_);rw[hes] at hv;obtain ⟨cs,q1,q2⟩:=hv;simp only[ae] at q2;obtain ⟨ad,q2⟩:=q2;exact ⟨by simp[maxLen],fun _=>⟨ad,0,by simpa[bd,I.isAgg,q2] using q1.symm⟩,fun e=>by cases e⟩
    ·rename_i m l hm;split at h
     ·rename_i T sz es hes;split at h
      ·rename_i hl;subst hl;simp only[v6] at h;subst h;refine oL ho' hu (.inl ⟨e,rfl⟩) hy (fun a w D E hs v hv =>?_);rw[hm] at hv;rcases hs.own hes hv with ⟨rfl,_,rfl⟩ | ⟨b,cap,cs,pre,rest,_,rfl,_,_,_,_,_,k8,k9,_⟩
       ·exact ⟨by simp[maxLen],fun _=>⟨none,0,rfl⟩,fun e=>by cases e⟩
       ·exact ⟨Nat.le_trans k8 k9,fun _=>⟨_,_,rfl⟩,fun e=>by cases e⟩
      ·cases h
     ·cases h
    ·rename_i n p sz lo k hm;simp only[v6] at h;subst h;refine oL ho' hu (.inl ⟨e,rfl⟩) hy (fun a w D E hs v hv =>?_);rw[hm] at hv;obtain ⟨cs,q1,q2⟩:=hv;simp only[ae] at q2;obtain ⟨b,aL,off,l,_,_,_,q2,q3,q4,_⟩:=q2;exact ⟨by omega,fun _=>⟨_,_,by simpa[bd,I.isAgg,q2] using q1.symm⟩,fun e=>by cases e⟩
    ·cases h
   ·rename_i hu;simp only[t8] at hg;obtain ⟨y',hy,rfl⟩:=hg;simp only[aZ] at h;split at h
    ·rename_i s hs';simp only[v6] at h;subst h;refine oL ho' hu (.inr rfl) hy (fun a w D E hs v hv =>?_);rw[hs'] at hv;obtain ⟨e1,e2⟩:=gb hv;exact ⟨e2,(fun e=>by obtain ⟨_,e⟩:=e;cases e),fun _=>⟨s,e1,rfl⟩⟩
    ·cases h
   ·cases hg
  ·cases hg
 -- append
 ·split at hg
  ·split at hg
   ·split at hg
    ·simp only[t8] at hg;obtain ⟨z,_,rfl⟩:=hg;simp[aZ] at h
    ·split at hg
     ·simp only[t8] at hg;obtain ⟨z,_,rfl⟩:=hg;simp[aZ] at h
     ·cases hg
   ·cases hg
  ·cases hg
 -- cap
 ·rename_i args tys ho;split at hg
  ·rename_i y ty hargs htys;have ho':o.op=.call { callee:=.builtin .cap,args := #[y],argTypes := #[ty] } :=by
    rw[ho];have e1:args = #[y]:=by apply Array.ext';simpa using hargs
    have e2:tys = #[ty]:=by apply Array.ext';simpa using htys
    rw[e1,e2]
   split at hg
   ·rename_i e hu;simp only[t8] at hg;obtain ⟨y',hy,rfl⟩:=hg;simp only[aZ] at h;split at h
    ·rename_i sz hes;simp only[v6] at h;subst h;refine vK ho' hu hy (fun a w D E hs v hv =>?_);rw[hes] at hv;obtain ⟨cs,q1,q2⟩:=hv;simp only[ae] at q2;exact ⟨by simp[maxLen],_,_,by simpa[bd,I.isAgg,q2] using q1.symm⟩
    ·rename_i sz hes;simp only[v6] at h;subst h;refine vK ho' hu hy (fun a w D E hs v hv =>?_);rw[hes] at hv;obtain ⟨cs,q1,q2⟩:=hv;simp only[ae] at q2;obtain ⟨ad,q2⟩:=q2;exact ⟨by simp[maxLen],_,_,by simpa[bd,I.isAgg,q2] using q1.symm⟩
    ·rename_i n p sz lo k hm;split at h
     ·rename_i fs hfs;simp only[v6] at h;subst h;refine vK ho' hu hy (fun a w D E hs v hv =>?_);rw[hm] at hv;obtain ⟨_,b,cs,T,off,c1,c2,c3,_,_,_,_,_,_,_,_,_,_,_,q1,q2⟩:=hs.view hv hfs;exact ⟨by omega,_,_,q2⟩
     ·cases h
    ·cases h
   ·cases hg
  ·cases hg
 -- clear
 ·split at hg
  ·split at hg
   ·simp only[t8] at hg;obtain ⟨z,_,rfl⟩:=hg;simp[aZ] at h
   ·cases hg
  ·cases hg
 -- copy
 ·split at hg
  ·split at hg
   ·split at hg
    ·simp only[v6] at hg;subst hg;simp[aZ] at h
    ·cases hg
   ·cases hg
  ·cases hg
 -- delete
 ·split at hg
  ·split at hg
   ·simp only[t8] at hg;obtain ⟨z,_,rfl⟩:=hg;simp[aZ] at h
   ·cases hg
  ·cases hg
 -- max
 ·rename_i args _ ho;split at hg
  ·rename_i x y hargs;split at hg
   ·rename_i x' y' h1 h2;simp only[v6] at hg;subst hg;simp only[aZ] at h;have e1:args = #[x,y]:=by apply Array.ext';simpa using hargs
    rw[e1] at ho;exact Yg ho h1 h2 h
   ·cases hg
  ·cases hg
 -- min
 ·rename_i args tys ho;split at hg
  ·rename_i x y hargs;split at hg
   ·rename_i x' y' h1 h2;simp only[v6] at hg;subst hg;have e1:args = #[x,y]:=by apply Array.ext';simpa using hargs
    rw[e1] at ho;exact Yf ho h1 h2 (by simpa only[aZ,zz7,zy9] using h)
   ·cases hg
  ·cases hg
 -- makeInterface
 ·rename_i t y ho;split at hg
  ·rename_i hu;simp only[t8] at hg;obtain ⟨y',h1,rfl⟩:=hg;exact Yd ho hu h1 (by simpa only[aZ,zz7,zy9] using h)
  ·cases hg
 -- panic
 ·simp only[t8] at hg;obtain ⟨y',_,rfl⟩:=hg;simp[aZ,eC] at h
 ·cases hg
theorem dX.append{α β:Type}{R:α→β→Prop} : ∀ {xs:List α} {ys:List β} {xs':List α} {ys':List β},dX R xs ys→dX R xs' ys'→dX R (xs++xs') (ys++ys')
 |_,_,_,_,.nil,h=>h
 |_,_,_,_,.cons h1 h2,h=>.cons h1 (h2.append h)
theorem nO{w:World}{D:aJ}{E:aO} : ∀ {xs:List I} {vs:List Value},aB w D E xs vs→dX (aQ w D E) xs vs
 | [],vs,h=>by simp only[aB] at h;subst h;exact .nil
 |x::xs,vs,h=>by
  simp only[aB] at h;obtain ⟨v,rest,cs,rfl,h1,h2,h3⟩:=h;exact .cons (fD h1 h2) (nO h3)
theorem JQ {P : Program} {f : FuncId} (h : dH P f = true) : ∃ fn, P.funcs[f]? = some fn ∧ ¬ fn.name = "runtime.NumGoroutine" ∧ ¬ fn.body = none := by
 unfold dH at h;rw[zz0] at h
 replace h:=h.2
 cases hf:P.funcs[f]? with
 |none=>simp[hf] at h
 |some fn =>
  simp only[hf,Option.any_some,zz0,bne_iff_ne,ne_eq] at h;refine ⟨fn,rfl,by simpa using h.1,?_⟩;cases hb:fn.body <;>simp_all
theorem u3{P:Program}{f:FuncId}(h:dH P f=true):f<1000000:=by
 unfold dH at h;rw[zz0] at h;simpa[Nat.blt_eq] using h.1
theorem lR{P:Program}{w:World}{f:FuncId}{args:Array Value}(h:dH P f=true):(callFunc f args).run P w=.ok (.enter f args) w:=by
 obtain ⟨fn,h1,h2,h3⟩:=JQ h;simp[callFunc,h1,h2,h3]
theorem aM.jk{A:ab}{a:Act}{w:World}{D:aJ}{E:aO}(h:aM c A a w D E){n:Nat}{e:bD}{b:Nat}(he:E n=some e)(hb:e.aH=some b):c.ez b:=by
 have:=h.bx n;unfold cY at this;split at this
 ·simp[this] at he
 ·obtain ⟨b',cs,T,h1,h2,_⟩:=this;rw[h1,v6] at he;subst he;simp only[bD.aH,v6] at hb;exact hb▸h2
 ·obtain ⟨aH,h1,h2,h3⟩:=this;rw[h1,v6] at he;subst he;split at h3
  ·cases hb
  ·obtain ⟨cs,pre,rest,h4,_⟩:=h3;simp only[bD.aH,v6] at hb;exact hb▸h4
 ·obtain ⟨b',h1,h2,_⟩:=this;rw[h1,v6] at he;subst he;simp only[bD.aH,v6] at hb;exact hb▸h2
 ·obtain ⟨b',es,ck,h1,h2,_⟩:=this;rw[h1,v6] at he;subst he;simp only[bD.aH,v6] at hb;exact hb▸h2
 ·obtain ⟨b',bb,es,ck,dS,se,la,h1,h2,_⟩:=this;rw[h1,v6] at he;subst he;simp only[bD.aH,v6] at hb;exact hb▸h2
 ·obtain ⟨aH,h1,h2,h3⟩:=this;rw[h1,v6] at he;subst he;split at h3
  ·cases hb
  ·obtain ⟨cs,m,h4,_⟩:=h3;simp only[bD.aH,v6] at hb;exact hb▸h4
theorem aM.oR{A:ab}{a:Act}{w:World}{D:aJ}{E:aO}(h:aM c A a w D E):eK c.P w (bU E) :=
 h.fh.1.Cg h.c8 (fun _ hb=>hb) fun _ ⟨_,_,h1,h2⟩=>h.jk h1 h2
theorem aM.vW{A:ab}{a:Act}{w:World}{D:aJ}{E:aO}(h:aM c A a w D E):eK c.P w (fun _=>False):=h.oR.sT fun _ h=>h.elim
theorem aM.nr{A:ab}{a:Act}{w:World}{D:aJ}{E:aO}(h:aM c A a w D E){ρ:List (Nat×Nat)}{os:List (Nat×ai)} : eK c.P w (bU (az ρ os E)):=h.oR.sT fun b ⟨n,e,h1,h2⟩=>by
 simp only[az] at h1;split at h1
 ·exact ⟨_,e,h1,h2⟩
 ·cases h1
theorem aK.acq{f:FuncId}{avs cargs:List I}{r:I}{vs:List Value}{a:Act}{w:World}{D:aJ}{E:aO}(hs:aM c A a w D E)(h:aK c.P f cargs r)(hf:r.flat=true)(hc:bL true A avs=some cargs)(hv:dX (aQ w D E) avs vs) :
  Calls c.P f vs.toArray w fun e w'=>∃ v D',e=.returned v∧aM c A a w' D' E∧aQ w' D' E r v:=by
 have hw:gL true A D E (fun b _=>b<w.heap.size):=by
  refine ⟨fun b o hd=>hs.cQ b o hd,fun n T sz es b cap hn az o _=>hs.fy az rfl,fun _ n x b aL hn az o _=>hs.fy az rfl,fun _ n ks vs b hn az=>hs.fy az rfl⟩
 have hrv:=lA (E':=cA) hs (fun _ _ h=>h) hw avs cargs vs (kU _ _ hv (qe hc)) hc;refine (h.2 w _ vs hs.vW (fun _ _ hd=>hd) hrv).mono fun e w' ⟨v,D',he,h1,h2,h3,h4⟩=>⟨v,D,he,?_,aQ.flat hf h1⟩
 exact hs.grow h2 (fun _ _ hd=>hd) (fun _ _ hd _=>hd) (fun b o hd=>Nat.lt_of_lt_of_le (hs.cQ b o hd) h2.size)
theorem aK.acs{f:FuncId}{avs cargs:List I}{r:I}{vs:List Value}{a:Act}{w:World}{D:aJ}{E:aO}(hs:aM c A a w D E)(h:aK c.P f cargs r)(hc:bL false A avs=some cargs)(hv:dX (aQ w D E) avs vs) :
  Calls c.P f vs.toArray w fun e w'=>∃ v D',e=.returned v∧aM c A a w' D' E∧aQ w' D' E r v:=by
 obtain ⟨hs1,hw⟩:=hs.mR;have hrv:=lA (E':=cA) hs (fun _ _ h=>h) hw avs cargs vs (kU _ _ hv (qe hc)) hc;refine (h.2 w _ vs hs.vW hs1.cQ hrv).mono fun e w' ⟨v,D',he,h1,h2,h3,h4⟩=>⟨v,fun b o=>mQ A D E b o∨(w.heap.size≤b∧D' b o),he,?_,?_⟩
 ·refine hs1.grow h2 (fun _ _ hd=>.inl hd) ?_ ?_
  ·rintro b o (hd | ⟨hle,_⟩) hlt
   ·exact hd
   ·omega
  ·rintro b o (hd | ⟨_,hd⟩)
   ·exact Nat.lt_of_lt_of_le (hs1.cQ b o hd) h2.size
   ·exact h3 b o hd
 ·refine aQ.later (E:=cA) ⟨fun b o hd =>?_,fun _ _ _ _ h=>h,fun n b aL hn=>by simp[cA] at hn,fun n aH l hn=>by simp[cA] at hn,fun n b hn=>by simp[cA] at hn,fun n b hn=>by simp[cA] at hn,fun _ _ _ _ h=>h⟩ h1;rcases Nat.lt_or_ge b w.heap.size with hlt | hge
  ·exact .inl (h4 b o hd hlt)
  ·exact .inr ⟨hge,hd⟩
theorem Cz(p:Nat→Bool)(os:List (Nat×ai))(n:Nat):aG (os.filter fun q=>p q.1) n=if p n then aG os n else none:=by
 induction os with
 |nil=>simp[aG]
 |cons q os ih =>
  obtain ⟨k,v⟩:=q;simp only[List.filter_cons];by_cases hk:p k=true
  ·simp only[hk,if_true,aG,ih];by_cases hn:n=k
   ·subst hn;simp only[hk,if_true]
   ·simp only[if_neg hn]
  ·simp only[hk,zz4,if_false,ih,aG];by_cases hn:n=k
   ·subst hn;simp[hk]
   ·simp only[if_neg hn]
theorem sX(ns:List Nat)(os:List (Nat×ai))(n:Nat):aG (dw ns os) n=if ns.contains n then none else aG os n:=by
 rw[dw,Cz (fun n => !ns.contains n)];cases ns.contains n <;>rfl
theorem qD(ns:List Nat)(os:List (Nat×ai))(n:Nat):aG (jj ns os) n=if ns.contains n then aG os n else none:=Cz _ _ _
theorem C5{p:Nat→Bool} : ∀ {os:List (Nat×ai)},bF p os→∀ k x,aG os k=some x→x.only p=true
 | [],_,k,x,hx=>by simp[aG] at hx
 |(j,v)::r,h,k,x,hx=>by
  simp only[bF] at h;simp only[aG] at hx;split at hx
  ·simp only[v6] at hx;subst hx;exact h.1
  ·exact C5 h.2 k x hx
theorem CA(ns:List Nat):∀ (ts:List (Nat×I)) (t:Nat),cw (il ns ts) t=if (cw ts t).only (fun n => !ns.contains n) then cw ts t else .cV
 | [],t=>by simp[il,cw,I.only]
 |(k,v)::r,t=>by
  simp only[il,zz7,cw];by_cases h:t=k
  ·simp only[if_pos h]
  ·simp only[if_neg h];exact CA ns r t
theorem aM.freeze{a:Act}{w:World}{D:aJ}{E:aO}{ts:List (Nat×I)}{os0:List (Nat×ai)}(h:aM c (al ts os0) a w D E)(ns:List Nat)(ho:bF (fun n => !ns.contains n) (dw ns os0)) :
  ∃ D' E',aM c (al (il ns ts) (dw ns os0)) a w D' E'∧gL true (al ts (jj ns os0)) D E D':=by
 have h1:=h.mR.1;have hw1:=h.mR.2;obtain ⟨D1,hD1⟩:∃ D1,D1=mQ (al ts os0) D E:=⟨_,rfl⟩
 rw[←hD1] at h1 hw1;obtain ⟨D2,hD2⟩:∃ D2:aJ,D2=fun b o=>D1 b o∨(∃ n x aL,ns.contains n=true∧aG os0 n=some (.box x)∧E n=some (.aE b aL)∧o<x.size)∨∃ n ks vs,ns.contains n=true∧aG os0 n=some (.b8 ks vs)∧E n=some (.b8 b)∧o=0:=⟨_,rfl⟩
 obtain ⟨E2,hE2⟩:∃ E2:aO,E2=fun n=>if ns.contains n then none else E n:=⟨_,rfl⟩
 have e2:∀ n,(!ns.contains n)=true→E2 n=E n:=fun n hn=>by rw[hE2];simp at hn;simp[hn]
 have hl:da w D1 E2 w D2 E2:=⟨fun b o hd=>by rw[hD2];exact .inl hd,fun _ _ _ _ h=>h,fun _ _ _ h=>h,fun _ aH l h=>⟨aH,l,h,zz8 _,fun _=>rfl⟩,fun _ _ h=>h,fun _ _ h=>h,fun _ _ _ _ h=>h⟩
 have mG:∀ b o,D2 b o→D1 b o∨∃ n e q,ns.contains n=true∧E n=some e∧e.aH=some b∧c.ez b∧w.heap[b]?=some q:=fun b o hd=>by
  rw[hD2] at hd;rcases hd with hd | ⟨n,x,aL,k1,k2,k3,k4⟩ | ⟨n,ks,vs,k1,k2,k3,_⟩
  ·exact .inl hd
  ·obtain ⟨b',cs,T,q1,q2,q3,_⟩:=h.box (n:=n) (x:=x) (by simpa[al] using k2);rw[k3] at q1;simp only[v6,bD.aE.injEq] at q1;obtain ⟨rfl,rfl⟩:=q1;obtain ⟨_,q3,_⟩:=q3.bx;exact .inr ⟨n,_,_,k1,k3,rfl,q2,q3⟩
  ·obtain ⟨b',es,ck,q1,q2,q3,_⟩:=h.map (n:=n) (ks:=ks) (vs:=vs) (by simpa[al] using k2);rw[k3] at q1;cases q1;exact .inr ⟨n,_,_,k1,k3,rfl,q2,q3⟩
 refine ⟨D2,E2,⟨h1.sz,h1.ef,fun t =>?_,h1.c8,fun b o hd hm =>?_,fun b o hd =>?_,fun n =>?_,fun n m e e' b g1 g2 g3 g4 =>?_,fun n e hn =>?_,h1.eO,fun b o hd=>hl.cO b o (h1.cE b o hd),h1.fh,h1.fm⟩,?_⟩
 ·simp only[al,CA];have ht:=h1.dn t;simp only[al] at ht;split
  ·rename_i hp;exact aQ.later hl (aQ.dA e2 hp ht)
  ·simp[aQ]
 ·rcases mG b o hd with hd | ⟨n,e,q,_,_,_,k,_⟩
  ·exact h1.cO b o hd hm
  ·exact absurd k hm
 ·rcases mG b o hd with hd | ⟨n,e,q,_,_,_,_,k⟩
  ·exact h1.cQ b o hd
  ·exact eY k
 ·simp only[al,sX];by_cases hn:ns.contains n=true
  ·simp only[hn,if_true,cY];rw[hE2];simp only[hn,if_true]
  ·have hnb:(!ns.contains n)=true:=by simpa using hn
   simp only[hn,zz4,if_false];have hob:=h1.bx n;simp only[al] at hob;cases hx:aG os0 n with
   |none=>rw[hx] at hob;simp only[cY] at hob ⊢;rw[e2 n hnb];exact hob
   |some x =>
    have hon:=C5 ho n x (by rw[sX,if_neg hn];exact hx);have nD:∀ e b,E n=some e→e.aH=some b→∀ o,D2 b o→D1 b o:=fun e b he hb o hd=>by
     rcases mG b o hd with hd | ⟨m,e',q,k1,k3,k2,_⟩
     ·exact hd
     ·have:=h.cG n m e _ b he k3 hb k2;subst this;exact absurd k1 hn
    rw[hx] at hob;cases x with
    |box x =>
     obtain ⟨b,cs,T,k1,k2,k3,k4,k5⟩:=hob;exact ⟨b,cs,T,(e2 n hnb).trans k1,k2,k3,ae.later hl _ _ (ae.dA e2 _ _ (by simpa[ai.only] using hon) k4),fun o hd=>k5 o (nD _ b k1 rfl o hd)⟩
    |bM T sz es =>
     obtain ⟨aH,k1,k2,k3⟩:=hob;refine ⟨aH,(e2 n hnb).trans k1,k2,?_⟩;cases aH with
     |none=>exact k3
     |some bc =>
      obtain ⟨b,cap⟩:=bc;obtain ⟨cs,pre,rest,q1,q2,q3,q4,q5,q6,q7,q8⟩:=k3;exact ⟨cs,pre,rest,q1,q2,q3,aI.later hl _ _ (aI.dA e2 _ _ (by simpa[ai.only] using hon) q4),q5,q6,q7,fun o hd=>q8 o (nD _ b k1 rfl o hd)⟩
    |dL T xs =>
     obtain ⟨aH,k1,k2,k3⟩:=hob;refine ⟨aH,(e2 n hnb).trans k1,k2,?_⟩;cases aH with
     |none=>exact k3
     |some bc =>
      obtain ⟨b,cap⟩:=bc;obtain ⟨cs,r,q1,q2,q3,q4,q5,q6,q7⟩:=k3;exact ⟨cs,r,q1,q2,q3,q4,q5,q6,fun o hd=>q7 o (nD _ b k1 rfl o hd)⟩
    |cz x =>
     obtain ⟨b,k1,k2,k3,k4,k5⟩:=hob;exact ⟨b,(e2 n hnb).trans k1,k2,k3,k4,fun o hd=>k5 o (nD _ b k1 rfl o hd)⟩
    |b8 ks vs =>
     obtain ⟨b,es,ck,k1,k2,k3,k4,k5,k6,k7⟩:=hob;simp only[ai.only,zz0] at hon;exact ⟨b,es,ck,(e2 n hnb).trans k1,k2,k3,k4,aB.later hl _ _ (aB.dA e2 _ _ hon.1 k5),aB.later hl _ _ (aB.dA e2 _ _ hon.2 k6),fun o hd=>k7 o (nD _ b k1 rfl o hd)⟩
    |it ks vs left cur =>
     obtain ⟨r,b,es,ck,dS,se,la,k1,k2,k3,k4,k5,k6,k7,k8,k9,k9',k10⟩:=hob;simp only[ai.only,zz0] at hon;exact ⟨r,b,es,ck,dS,se,la,(e2 n hnb).trans k1,k2,k3,k4.later hl,aB.later hl _ _ (aB.dA e2 _ _ hon.1 k5),aB.later hl _ _ (aB.dA e2 _ _ hon.2 k6),k7,k8,k9,k9',fun o hd=>k10 o (nD _ r k1 rfl o hd)⟩
 ·have oA:∀ n e,E2 n=some e→E n=some e:=fun n e he=>by
   rw[hE2] at he;simp only at he;split at he
   ·cases he
   ·exact he
  exact h.cG n m e e' b (oA n e g1) (oA m e' g2) g3 g4
 ·by_cases hm:ns.contains n=true
  ·left;rw[hE2];simp only[hm,if_true]
  ·rw[e2 n (by simpa using hm)];exact h.df n e hn
 ·refine ⟨fun b o hd=>by rw[hD2];exact .inl (hw1.cO b o hd),fun n T sz es b cap hn az o hlt =>?_,fun _ n x b aL hn az o hlt =>?_,fun _ n ks vs b hn az =>?_⟩
  ·simp only[al,qD] at hn;split at hn
   ·rw[hD2];exact .inl (hw1.bM n T sz es b cap hn az o hlt)
   ·cases hn
  ·simp only[al,qD] at hn;split at hn
   ·rename_i hk;rw[hD2];exact .inr (.inl ⟨n,x,aL,hk,hn,az,hlt⟩)
   ·cases hn
  ·simp only[al,qD] at hn;split at hn
   ·rename_i hk;rw[hD2];exact .inr (.inr ⟨n,ks,vs,hk,hn,az,rfl⟩)
   ·cases hn
theorem aK.acr{f:FuncId}{avs cargs:List I}{r:I}{vs:List Value}{a:Act}{w:World}{D:aJ}{E:aO}{ts:List (Nat×I)}{os0:List (Nat×ai)}(hs:aM c (al ts os0) a w D E)(ns:List Nat)(ho:bF (fun n => !ns.contains n) (dw ns os0))
  (h:aK c.P f cargs r) (hc:bL true (al ts (jj ns os0)) avs=some cargs) (hv:dX (aQ w D E) avs vs) :
  Calls c.P f vs.toArray w fun e w'=>∃ v D' E',e=.returned v∧aM c (al (il ns ts) (dw ns os0)) a w' D' E'∧aQ w' D' E' r v:=by
 obtain ⟨D1,E1,hs1,hw⟩:=hs.freeze ns ho;have hu:dq (al ts (jj ns os0)) (al ts os0):=fun n x hx=>by
  simp only[al,qD] at hx ⊢;split at hx
  ·exact hx
  ·cases hx
 have hrv:=lA (E':=cA) hs hu hw avs cargs vs (kU _ _ hv (qe hc)) hc;refine (h.2 w _ vs hs.vW hs1.cQ hrv).mono fun e w' ⟨v,D',he,h1,h2,h3,h4⟩=>⟨v,fun b o=>D1 b o∨(w.heap.size≤b∧D' b o),E1,he,?_,?_⟩
 ·refine hs1.grow h2 (fun _ _ hd=>.inl hd) ?_ ?_
  ·rintro b o (hd | ⟨hle,_⟩) hlt
   ·exact hd
   ·omega
  ·rintro b o (hd | ⟨_,hd⟩)
   ·exact Nat.lt_of_lt_of_le (hs1.cQ b o hd) h2.size
   ·exact h3 b o hd
 ·refine aQ.later (E:=cA) ⟨fun b o hd =>?_,fun _ _ _ _ h=>h,fun n b aL hn=>by simp[cA] at hn,fun n aH l hn=>by simp[cA] at hn,fun n b hn=>by simp[cA] at hn,fun n b hn=>by simp[cA] at hn,fun _ _ _ _ h=>h⟩ h1;rcases Nat.lt_or_ge b w.heap.size with hlt | hge
  ·exact .inl (h4 b o hd hlt)
  ·exact .inr ⟨hge,hd⟩
theorem uM{a:Act}{w:World}{D D1:aJ}{E:aO}{ts:List (Nat×I)}{os0 os:List (Nat×ai)}{ρ:List (Nat×Nat)}{aE:Bool}{A0:ab}(hs:aM c (al ts os0) a w D E)(hu:dq A0 (al ts os0))(hD:∀ b o,D b o→D1 b o)(hw:gL aE A0 D E D1) :
  ∀ (avs cargs:List I) (vs:List Value),gi aE A0 ρ os avs cargs→dX (aQ w D E) avs vs→aB w D1 (az ρ os E) cargs vs
 | [],[],vs,_,hv=>by cases hv;simp[aB]
 | [],_::_,_,h,_=>by simp[gi] at h
 |_::_,[],_,h,_=>by simp[gi] at h
 |x::xs,y::ys,vs,h,hv=>by
  cases hv with
  |cons hv hvs =>
  rename_i v vs;simp only[gi] at h;have ih:=uM hs hu hD hw xs ys vs h.2 hvs;have hl:da w D (az ρ os E) w D1 (az ρ os E):=⟨hD,fun _ _ _ _ h=>h,fun _ _ _ h=>h,fun _ aH l h=>⟨aH,l,h,zz8 _,fun _=>rfl⟩,fun _ _ h=>h,fun _ _ h=>h,fun _ _ _ _ h=>h⟩
  have h1:∃ cs,bd y v cs∧ae w D1 (az ρ os E) y cs:=by
   rcases h.1 with ⟨k1,k2,k3⟩ | k
   ·rw[k1] at hv;have h2:=aQ.later hl ((aQ.aR (w:=w) (D:=D) (p:=aw os) (ρ:=bo ρ) (E:=az ρ os E) (E':=E) (fun n hn=>by simp only[az,hn,if_true]) k2).1 hv);cases y <;>simp only[aQ] at h2 <;>first | (simp[I.cn] at k3;done) | exact h2
   ·have h2:aB w D E [x] [v]:=kU [x] [v] (.cons hv .nil) (by
     intro z hz;simp only[List.mem_singleton] at hz;subst hz;cases z <;>simp_all[bf,I.cn])
    have h3:=lA (E':=az ρ os E) hs hu hw [x] [y] [v] h2 (by simp[bL,k]);simp only[aB] at h3;obtain ⟨v',rest,cs,e,k1,k2,_⟩:=h3;simp only[zy6] at e;obtain ⟨rfl,_⟩:=e;exact ⟨cs,k1,k2⟩
  obtain ⟨cs,k1,k2⟩:=h1;simp only[aB];exact ⟨v,vs,cs,rfl,k1,k2,ih⟩
theorem dq.drop(ts:List (Nat×I))(ns:List Nat)(os0:List (Nat×ai)):dq (al ts (dw ns os0)) (al ts os0):=fun n x hx=>by
 simp only[al,sX] at hx ⊢;split at hx
 ·cases hx
 ·exact hx
theorem me.use{run:Array Value→World→(Ending→World→Prop)→Prop}{since:World→aJ→aO→Prop}{avs cargs:List I}{post:cd}{vs:List Value}{a:Act}{w:World}{D:aJ}{E:aO}{ts:List (Nat×I)}{os0 os:List (Nat×ai)}{ρ:List (Nat×Nat)}
  (hs:aM c (al ts os0) a w D E) (h:me run since cargs os post) (aE:Bool) (hmono:∀ {vs w R R'},run vs w R→(∀ e w,R e w→R' e w)→run vs w R') (hsince:(aE=true→∀ D,since w D (az ρ os E))∧(aE=false→since w (mQ (al ts os0) D E) (az ρ os E)))
  (hg:eF ρ os os0) (ha:gi aE (al ts (dw (iP ρ os) os0)) ρ os avs cargs) (hb:∀ r os',post r os'→dj aE ρ os os0 r os') (hv:dX (aQ w D E) avs vs) :
  run vs.toArray w fun e w'=>∃ v r os' D2 E2,e=.returned v∧post r os'∧aM c (al ts (cD ρ os'++os0)) a w' D2 E2∧aQ w' D2 E2 (r.aR (bo ρ)) v∧∀ m e,az ρ os E m=some e→aw os' m=true→∃ e',E2 (bo ρ m)=some e'∧e.fA e':=by
 have notName:∀ n,(iP ρ os).contains n=false→∀ m,aw os m=true→bo ρ m≠n:=fun n hn m hm he=>by
  obtain ⟨q,hq,rfl⟩:=vT.1 hm;have:(iP ρ os).contains n=true:=by simp only[iP,List.contains_iff_mem,zx1];exact ⟨q,hq,he⟩
  rw[this] at hn;cases hn
 have other:∀ {D:aJ},aM c (al ts os0) a w D E→∀ n e b x,aG (dw (iP ρ os) os0) n=some x→E n=some e→e.aH=some b→¬ bU (az ρ os E) b:=fun hs n e b x hx he hb ho=>by
  obtain ⟨m,e',h1,h2,hb',_⟩:=hs.sA hg ho;rw[sX] at hx;split at hx
  ·cases hx
  ·rename_i hc;have:=hs.cG n (bo ρ m) e _ b he h2 hb hb';exact notName n (by simpa using hc) m h1 this.symm
 cases aE with
 |true =>
  obtain ⟨D1,hD1⟩:∃ D1:aJ,D1=fun b o=>D b o∨(b<w.heap.size∧¬ bU (az ρ os E) b):=⟨_,rfl⟩
  have hD:∀ b o,D b o→D1 b o:=fun b o hd=>by rw[hD1];exact .inl hd
  have hw:gL true (al ts (dw (iP ρ os) os0)) D E D1:=by
   refine ⟨hD,fun n T sz es b cap hn az o _ =>?_,fun _ n x b aL hn az o _ =>?_,fun _ n ks vs b hn az =>?_⟩
   ·rw[hD1];exact .inr ⟨hs.fy az rfl,other hs n _ b _ hn az rfl⟩
   ·rw[hD1];exact .inr ⟨hs.fy az rfl,other hs n _ b _ hn az rfl⟩
   ·rw[hD1];exact .inr ⟨hs.fy az rfl,other hs n _ b _ hn az rfl⟩
  have hrv:=uM hs (dq.drop ts _ os0) hD hw avs cargs vs ha hv;refine hmono (h w D1 (az ρ os E) vs (hsince.1 rfl _) (fun b o hd=>by
   rw[hD1] at hd;rcases hd with hd | hd
   ·exact hs.cQ b o hd
   ·exact hd.1) (hs.BY hg hD fun b o hd ho=>by
    rw[hD1] at hd;rcases hd with hd | hd
    ·exact hd
    ·exact absurd ho hd.2) hrv) ?_
  rintro e w' ⟨v,D',E',r,os',he,hp,h1,h2,h3,h4,h5,h6,h7,h8⟩;obtain ⟨D2,E2,k1,k2⟩:=hs.ln hg hD (fun h=>by cases h) (hb r os' hp) h1 h2 h3 h5 h4 h8 h6 h7;exact ⟨v,r,os',D2,E2,he,hp,k1,k2⟩
 |false =>
  obtain ⟨hs1,hw⟩:=hs.mR;have hw':gL false (al ts (dw (iP ρ os) os0)) D E (mQ (al ts os0) D E):=⟨hw.cO,fun n T sz es b cap hn az o hlt=>hw.bM n T sz es b cap (dq.drop ts _ os0 n _ hn) az o hlt,(fun hb=>by cases hb),fun hb=>by cases hb⟩
  have hrv:=uM hs (dq.drop ts _ os0) hw.cO hw' avs cargs vs ha hv;refine hmono (h w _ (az ρ os E) vs (hsince.2 rfl) hs1.cQ (hs1.BY hg (fun _ _ h=>h) fun b o hd _=>hd) hrv) ?_;rintro e w' ⟨v,D',E',r,os',he,hp,h1,h2,h3,h4,h5,h6,h7,h8⟩;obtain ⟨D2,E2,k1,k2⟩:=hs1.ln hg (fun _ _ h=>h) (fun _ _ _ h=>h) (hb r os' hp) h1 h2 h3 h5 h4 h8 h6 h7;exact ⟨v,r,os',D2,E2,he,hp,k1,k2⟩
theorem aM.since{A:ab}{a:Act}{w:World}{D:aJ}{E E':aO}(h:aM c A a w D E)(az:∀ n,E' n=E n∨E' n=none):yk c w D E' :=
 ⟨h.c8,h.cE,h.cO,fun n e hn=>by
  rcases az n with k | k
  ·rw[k];exact h.df n e hn
  ·exact .inl k,h.fm,h.oR.sT fun b ⟨n,e,h1,h2⟩=>by
   rcases az n with k | k
   ·rw[k] at h1;exact ⟨n,e,h1,h2⟩
   ·rw[k] at h1;cases h1⟩
theorem lC(c:ct)(f:FuncId):c.bj.fn f:=by unfold ct.bj;split <;>trivial
theorem ve(c:ct):c.bj.depth.isSome=true→1≤9:=fun _=>by omega
theorem jy{a:Act}{w:World} : ∀ f,o.about c.P w a.eval=some f→c.bj.fn f:=fun f _=>lC c f
theorem jR{g:bz}(hg:cF c.P o=some g)(r:Option Nat)(ρ:Operand→Value):o.semAt r ρ=execOp ρ o:=by
 cases r with
 |none=>rfl
 |some l =>
  refine Oper.semAt_some l ρ o fun cl h =>?_;unfold cF at hg;rw[h] at hg;simp at hg
theorem Aj{f:FuncId}{args:Array Value}{w:World}{R:Ending→World→Prop}(h:Calls c.P f args w R):CallsIn c.bj (9-1) c.P f args w R:=by
 have h1:CallsIn Fence.wide (9-1) c.P f args w R:=callsIn_wide.2 h;unfold ct.bj;split
 ·exact h1
 ·exact h1
theorem rM.mono{P:Program}{v:Value}{vs:Array Value}{w:World}{R R':Ending→World→Prop}(h:rM P v vs w R)(hr:∀ e w,R e w→R' e w):rM P v vs w R':=by
 obtain ⟨l,h1,fn,tmps,assign,body,h2,h3⟩:=h;exact ⟨l,h1,fn,tmps,assign,body,h2,h3.mono hr⟩
theorem abx{l:Nat}{f:FuncId}{tmps:Array Value}{assign body:Code}{w:World}{R:Ending→World→Prop}(h:RoundIn Fence.wide 9 c.P l f tmps assign body w R):RoundIn c.bj (9-1) c.P l f tmps assign body w R:=by
 have h1:RoundIn Fence.wide (9-1) c.P l f tmps assign body w R:=⟨h.1,fun cc cs _=>h.2 cc cs (room_wide _)⟩
 unfold ct.bj;split
 ·exact h1
 ·exact h1
theorem gh.wp{B:ab}{g:bz}(hg:cF c.P o=some g)(h:gh c A o B){a:Act}{w:World}{K:Act→World→Prop}{Q:Exit→Act→World→Prop}(hs:bG c A a w)(hK:∀ a w,bG c B a w→K a w):o.wpIn c.bj 9 c.P a w K Q:=by
 obtain ⟨D,E,hs⟩:=hs;obtain ⟨w',h⟩:=h a w D E hs;refine ⟨jy,?_⟩;rw[jR hg];rcases h with ⟨v,h1,h2⟩ | ⟨h1,h2⟩
 ·rw[h1];exact hK _ _ h2
 ·rw[h1];exact hK _ _ h2
theorem u2{dr:Bool}{K:ab→Prop}{f:FuncId}{avs:List I}{a1 a2:Option (List I)}{vs:List Value}{dst:Option Nat}{rest:List aC}{a:Act}{w:World}{Kw:Act→World→Prop}{Q:Exit→Act→World→Prop}{g:bz}(hg:cF c.P o=some g)(h1:bL true A avs=a1)(h2:bL false A avs=a2)
  (hs:∀ D E,aM c A a w D E→dX (aQ w D E) avs vs) (hsim:bG c A a w) (hwp:ba c.P c.Y dr K (.call f avs a1 a2 dst rest A)) (hd:o.dst=dst) (hdn:∀ k,dst=some k→k<c.n)
  (hrun:dH c.P f=true→(execOp a.eval o).run c.P w=.ok (.enter f vs.toArray) w)
  (hK:∀ B a' w',ba c.P c.Y dr K (aA rest B)→bG c B a' w'→Kw a' w'):o.wpIn c.bj 9 c.P a w Kw Q:=by
 obtain ⟨D,E,hsw⟩:=hsim;have nV:∀ {R:Ending→World→Prop},dH c.P f=true→Calls c.P f vs.toArray w R→(∀ e w',R e w'→∃ v,e=.returned v∧Kw (a.put o.dst v) w')→o.wpIn c.bj 9 c.P a w Kw Q:=fun {R} hc hcl hR=>by
  refine ⟨jy,?_⟩;rw[jR hg,hrun hc,Oper.uponIn_enter];refine ⟨ve c,Aj (hcl.mono fun e w' he =>?_)⟩;obtain ⟨v,rfl,hv⟩:=hR e w' he;exact hv
 cases hwp with
 |flat r hspec hflat hrest =>
  refine nV hspec.1 (hspec.acq hsw hflat h1 (hs D E hsw)) ?_;rintro e w' ⟨v,D',he,hs',hv⟩;refine ⟨v,he,?_⟩;rw[hd];exact hK _ _ _ hrest ⟨D',E,hs'.aP hdn hv⟩
 |lead r hspec hrest =>
  refine nV hspec.1 (hspec.acs hsw h2 (hs D E hsw)) ?_;rintro e w' ⟨v,D',he,hs',hv⟩;refine ⟨v,he,?_⟩;rw[hd];exact hK _ _ _ hrest ⟨D',E,hs'.aP hdn hv⟩
 |j4 ns r hdr hspec hf ho hrest =>
  refine nV hspec.1 (hspec.acr hsw ns ho hf (hs D E hsw)) ?_;rintro e w' ⟨v,D',E',he,hs',hv⟩;refine ⟨v,he,?_⟩;rw[hd];exact hK _ _ _ hrest ⟨D',E',hs'.aP hdn hv⟩
 |bx aE ρ os cargs post hdr hspec hgv ha hb hrest =>
  refine nV hspec.1 (hspec.2.use hsw aE (fun h=>h.mono) ⟨fun _ _=>hsw.nr,fun _=>hsw.nr⟩ hgv ha hb (hs D E hsw)) ?_;rintro e w' ⟨v,r,os',D2,E2,he,hp,hs',hv,_⟩;refine ⟨v,he,?_⟩;rw[hd];exact hK _ _ _ (hrest r os' hp) ⟨D2,E2,hs'.aP hdn hv⟩
theorem JS{dr:Bool}{K:ab→Prop}{v:Value}{avs:List I}{vs:List Value}{dst:Option Nat}{rest:List aC}{a:Act}{w:World}{Kw:Act→World→Prop}{Q:Exit→Act→World→Prop}{g:bz}(hg:cF c.P o=some g)
  (hs:∀ D E,aM c A a w D E→dX (aQ w D E) avs vs) (hsim:bG c A a w) (hwp:ba c.P c.Y dr K (.lr v avs dst rest A)) (hd:o.dst=dst) (hdn:∀ k,dst=some k→k<c.n)
  (hrun:∀ l,v=.func (.yield l) #[] #[]→(execOp a.eval o).run c.P w=(Instr.yield l vs.toArray).run c.P w)
  (hK:∀ B a' w',ba c.P c.Y dr K (aA rest B)→bG c B a' w'→Kw a' w'):o.wpIn c.bj 9 c.P a w Kw Q:=by
 obtain ⟨D,E,hsw⟩:=hsim;cases hwp with
 |uj os cargs post hdr hY hgv ha hb hrest =>
  have hyr:=(hsw.fh.2 _ _ _ _ hY).use (ρ:=[]) hsw false (fun h=>h.mono) ⟨(fun h=>by cases h),fun _=>hsw.mR.1.since (fun n=>by simp only[az,bo];split <;>simp)⟩ hgv ha hb (hs D E hsw);obtain ⟨l,rfl,fn,tmps,assign,body,h2,h3⟩:=hyr;refine ⟨jy,?_⟩;rw[jR hg,hrun l rfl,h2,Oper.uponIn_round];refine ⟨ve c,abx (h3.mono fun e w' he =>?_)⟩;obtain ⟨v,r,os',D2,E2,rfl,hp,hs',hv,_⟩:=he;rw[hd];exact hK _ _ _ (hrest r os' hp) ⟨D2,E2,hs'.aP hdn hv⟩
end
section
variable {c:ct} {A:ab} {o:Oper}
theorem ou{P:Program}{n:Nat}{bl:Array Oper}{g:aC}(h:lq P n bl o=some g):cF P o=some g.op∧g.dst=o.dst∧(∀ k,o.dst=some k→k<n) ∧
  ((o.guard=none∧g.guard=none)∨∃ j b t,o.guard=some (j,b)∧(bl[j]?).bind (·.dst)=some t∧g.guard=some (t,b)):=by
 unfold lq at h;split at h
 ·cases h
 rename_i g' hg';split at h
 case isFalse=>cases h
 rename_i hd;have hdst:∀ k,o.dst=some k→k<n:=by
  intro k hk;rw[hk] at hd;simpa[AK] using hd
 split at h
 ·rename_i hgd;simp only[v6] at h;subst h;exact ⟨hg',rfl,hdst,.inl ⟨hgd,rfl⟩⟩
 ·rename_i j b hgd;split at h
  ·rename_i t ht;simp only[v6] at h;subst h;exact ⟨hg',rfl,hdst,.inr ⟨j,b,t,hgd,ht,rfl⟩⟩
  ·cases h
theorem BM{dr:Bool}{K:ab→Prop}{op:bz}{dst:Option Nat}{rest:List aC}{a:Act}{w:World}{Kw:Act→World→Prop}{Q:Exit→Act→World→Prop}(hop:cF c.P o=some op)(hd:o.dst=dst)(hdn:∀ k,dst=some k→k<c.n)
  (hsim:bG c A a w) (hK:∀ B a' w',ba c.P c.Y dr K (aA rest B)→bG c B a' w'→Kw a' w') (h:ba c.P c.Y dr K (cv (aZ A op) fun v=>aA rest (A.aP dst v))):o.wpIn c.bj 9 c.P a w Kw Q:=by
 cases hv:aZ A op with
 |some v =>
  rw[hv] at h;exact ((Dq hop hv).does (by rw[hd];exact hdn)).wp hop hsim (fun a' w' hs=>by rw[hd] at hs;exact hK _ a' w' h hs)
 |none=>rw[hv] at h;cases h
theorem Xt{dr:Bool}{K:ab→Prop}{dst:Option Nat}{rest:List aC}{a:Act}{w:World}{Kw:Act→World→Prop}{Q:Exit→Act→World→Prop}{z:I}(hop:cF c.P o=some (.alloc z))(hd:o.dst=dst)(hdn:∀ k,dst=some k→k<c.n)
  (hwp:ba c.P c.Y dr K (aY A dst (.alloc z) rest (aA rest))) (hsim:bG c A a w) (hK:∀ B a' w',ba c.P c.Y dr K (aA rest B)→bG c B a' w'→Kw a' w'):o.wpIn c.bj 9 c.P a w Kw Q:=by
 have hop0:=hop;simp only[aY] at hwp;split at hwp
 case h_2=>cases hwp
 rename_i d;split at hwp
 case h_2=>cases hwp
 rename_i hf;unfold cF at hop;split at hop <;>try (first | (simp at hop;done) | ((repeat' split at hop) <;>simp at hop;done))
 rename_i t ho;simp only[t8,bz.alloc.injEq] at hop;obtain ⟨z',hz,rfl⟩:=hop;exact (Nr ho hz hd (hdn d rfl) hf).wp hop0 hsim (fun a' w' hs=>hK _ a' w' hwp hs)
theorem Xw{dr:Bool}{K:ab→Prop}{dst:Option Nat}{rest:List aC}{a:Act}{w:World}{Kw:Act→World→Prop}{Q:Exit→Act→World→Prop}{x:aF}(hop:cF c.P o=some (.box x))(hd:o.dst=dst)(hdn:∀ k,dst=some k→k<c.n)
  (hwp:ba c.P c.Y dr K (aY A dst (.box x) rest (aA rest))) (hsim:bG c A a w) (hK:∀ B a' w',ba c.P c.Y dr K (aA rest B)→bG c B a' w'→Kw a' w'):o.wpIn c.bj 9 c.P a w Kw Q:=by
 have hop0:=hop;simp only[aY] at hwp;split at hwp
 case h_2=>cases hwp
 rename_i d;split at hwp
 case h_2=>cases hwp
 rename_i hf;split at hwp
 case isFalse=>cases hwp
 rename_i hv;unfold cF at hop;split at hop <;>try (first | (simp at hop;done) | ((repeat' split at hop) <;>simp at hop;done))
 rename_i t y ho;simp only[t8,bz.box.injEq] at hop;obtain ⟨z',hz,rfl⟩:=hop;exact (Nx ho hz hv hd (hdn d rfl) hf).wp hop0 hsim (fun a' w' hs=>hK _ a' w' hwp hs)
theorem XK{dr:Bool}{K:ab→Prop}{dst:Option Nat}{rest:List aC}{a:Act}{w:World}{Kw:Act→World→Prop}{Q:Exit→Act→World→Prop}{s:Option Nat}{x v:aF}(hop:cF c.P o=some (.aS s x v))(hd:o.dst=dst)(hdn:∀ k,dst=some k→k<c.n)
  (hwp:ba c.P c.Y dr K (aY A dst (.aS s x v) rest (aA rest))) (hsim:bG c A a w) (hK:∀ B a' w',ba c.P c.Y dr K (aA rest B)→bG c B a' w'→Kw a' w'):o.wpIn c.bj 9 c.P a w Kw Q:=by
 have hop0:=hop;simp only[aY] at hwp;split at hwp
 case h_2=>cases hwp
 split at hwp
 case h_2=>cases hwp
 rename_i n p hp;split at hwp
 case h_2=>cases hwp
 rename_i b hb;split at hwp
 case h_2=>cases hwp
 rename_i old hat;split at hwp
 case isFalse=>cases hwp
 rename_i hok;unfold cF at hop;split at hop <;>try (first | (simp at hop;done) | ((repeat' split at hop) <;>simp at hop;done))
 rename_i t y z ho;split at hop
 case h_2=>cases hop
 rename_i s' x' v' h1 h2 h3;split at hop
 case isFalse=>cases hop
 rename_i hk;simp only[v6,bz.aS.injEq] at hop;obtain ⟨rfl,rfl,rfl⟩:=hop;exact (NH ho h1 hk h2 h3 hp hb hat hok.1 hok.2.1 hok.2.2 hd).wp hop0 hsim (fun a' w' hs=>hK _ a' w' hwp hs)
theorem Xx{dr:Bool}{K:ab→Prop}{dst:Option Nat}{rest:List aC}{a:Act}{w:World}{Kw:Act→World→Prop}{Q:Exit→Act→World→Prop}{f:FuncId}{args:List aF}(hop:cF c.P o=some (.call f args))(hd:o.dst=dst)(hdn:∀ k,dst=some k→k<c.n)
  (hwp:ba c.P c.Y dr K (aY A dst (.call f args) rest (aA rest))) (hsim:bG c A a w) (hK:∀ B a' w',ba c.P c.Y dr K (aA rest B)→bG c B a' w'→Kw a' w'):o.wpIn c.bj 9 c.P a w Kw Q:=by
 have hop0:=hop;simp only[aY] at hwp;unfold cF at hop;split at hop <;>try (first | (simp at hop;done) | ((repeat' split at hop) <;>simp at hop;done))
 rename_i f' xs ts ho;split at hop
 case isFalse=>simp at hop
 simp only[t8,bz.call.injEq] at hop;obtain ⟨ys,hys,rfl,rfl⟩:=hop;refine u2 (vs:=xs.toList.map a.eval) hop0 rfl rfl (fun D E hs=>kr hs xs.toList ts.toList ys hys) hsim hwp hd hdn (fun hc =>?_) hK;have e:xs.map a.eval=(xs.toList.map a.eval).toArray:=by apply Array.ext';simp
 simp only[execOp,ho,resolve,Act.eval,Deferred.ofValue,Sem.run_bind,Sem.run_pure,Result.andThen_ok,invoke,Array.append_empty,Array.empty_append,lR hc];rw[←e]
theorem XL{dr:Bool}{K:ab→Prop}{dst:Option Nat}{rest:List aC}{a:Act}{w:World}{Kw:Act→World→Prop}{Q:Exit→Act→World→Prop}{f:FuncId}{args:List aF}(hop:cF c.P o=some (.gK f args))(hd:o.dst=dst)(hdn:∀ k,dst=some k→k<c.n)
  (hwp:ba c.P c.Y dr K (aY A dst (.gK f args) rest (aA rest))) (hsim:bG c A a w) (hK:∀ B a' w',ba c.P c.Y dr K (aA rest B)→bG c B a' w'→Kw a' w'):o.wpIn c.bj 9 c.P a w Kw Q:=by
 have hop0:=hop;simp only[aY] at hwp;unfold cF at hop;split at hop <;>try (first | (simp at hop;done) | ((repeat' split at hop) <;>simp at hop;done))
 rename_i f' xs ts ho;split at hop
 case isTrue=>simp at hop
 simp only[t8,bz.gK.injEq] at hop;obtain ⟨ys,hys,rfl,rfl⟩:=hop;obtain ⟨D,E,hs⟩:=hsim;cases hwp with
 |ext r hdr hx hw =>
  obtain ⟨v,g1,g2⟩:=hx c a w D E (xs.toList.map a.eval) rfl hs (kr hs xs.toList ts.toList ys hys);have e:xs.map a.eval=(xs.toList.map a.eval).toArray:=by apply Array.ext';simp
  have hrun:(execOp a.eval o).run c.P w=.ok (.value v) w:=by
   simp only[execOp,ho,resolve,Act.eval,Deferred.ofValue,Sem.run_bind,Sem.run_pure,Result.andThen_ok,invoke,Array.append_empty,Array.empty_append];rw[←e] at g1;exact g1
  refine ⟨jy,?_⟩;rw[jR hop0,hrun,Oper.uponIn_value];exact hK _ _ _ hw ⟨D,E,by rw[hd];exact hs.aP hdn g2⟩
theorem XC{dr:Bool}{K:ab→Prop}{dst:Option Nat}{rest:List aC}{a:Act}{w:World}{Kw:Act→World→Prop}{Q:Exit→Act→World→Prop} (hop:cF c.P o=some (.jK))(hd:o.dst=dst)(hdn:∀ k,dst=some k→k<c.n)
  (hwp:ba c.P c.Y dr K (aY A dst (.jK) rest (aA rest))) (hsim:bG c A a w) (hK:∀ B a' w',ba c.P c.Y dr K (aA rest B)→bG c B a' w'→Kw a' w'):o.wpIn c.bj 9 c.P a w Kw Q:=by
 have hop0:=hop;simp only[aY] at hwp;split at hwp
 case h_2=>cases hwp
 rename_i d;split at hwp
 case h_2=>cases hwp
 rename_i hf;unfold cF at hop;split at hop <;>try (first | (simp at hop;done) | ((repeat' split at hop) <;>simp at hop;done))
 rename_i t ho;exact (NC ho hd (hdn d rfl) hf).wp hop0 hsim (fun a' w' hs=>hK _ a' w' hwp hs)
theorem XE{dr:Bool}{K:ab→Prop}{dst:Option Nat}{rest:List aC}{a:Act}{w:World}{Kw:Act→World→Prop}{Q:Exit→Act→World→Prop}{e:TypeId}{bytes:Nat}{z:I}{n:aF}(hop:cF c.P o=some (.jl e bytes z n))(hd:o.dst=dst)(hdn:∀ k,dst=some k→k<c.n)
  (hwp:ba c.P c.Y dr K (aY A dst (.jl e bytes z n) rest (aA rest))) (hsim:bG c A a w) (hK:∀ B a' w',ba c.P c.Y dr K (aA rest B)→bG c B a' w'→Kw a' w'):o.wpIn c.bj 9 c.P a w Kw Q:=by
 have hop0:=hop;simp only[aY] at hwp;split at hwp
 case h_2=>cases hwp
 rename_i d;split at hwp
 case h_2=>cases hwp
 rename_i hf;split at hwp
 case h_2=>cases hwp
 rename_i k m hn;split at hwp
 case isFalse=>cases hwp
 rename_i hc;unfold cF at hop;split at hop <;>try (first | (simp at hop;done) | ((repeat' split at hop) <;>simp at hop;done))
 rename_i t l l' ho;split at hop
 case h_2=>cases hop
 rename_i e' n' hu hl;split at hop
 case h_2=>cases hop
 rename_i z' hz;split at hop
 case isFalse=>(repeat' split at hop) <;>simp at hop
 rename_i hc2;simp only[v6,bz.jl.injEq] at hop;obtain ⟨rfl,rfl,rfl,rfl⟩:=hop;obtain ⟨j,rfl⟩:=zx0 hc.1;simp only[zw8] at hc hwp;exact (NF ho (abL hc2.1) hu hl hn hz hc2.2.1 hc2.2.2 hc.2.1 hc.2.2 hd (hdn d rfl) hf).wp hop0 hsim (fun a' w' hs=>hK _ a' w' hwp hs)
theorem XD{dr:Bool}{K:ab→Prop}{dst:Option Nat}{rest:List aC}{a:Act}{w:World}{Kw:Act→World→Prop}{Q:Exit→Act→World→Prop}{e:TypeId}{sz:Nat}(hop:cF c.P o=some (.lI e sz))(hd:o.dst=dst)(hdn:∀ k,dst=some k→k<c.n)
  (hwp:ba c.P c.Y dr K (aY A dst (.lI e sz) rest (aA rest))) (hsim:bG c A a w) (hK:∀ B a' w',ba c.P c.Y dr K (aA rest B)→bG c B a' w'→Kw a' w'):o.wpIn c.bj 9 c.P a w Kw Q:=by
 have hop0:=hop;simp only[aY] at hwp;split at hwp
 case h_2=>cases hwp
 rename_i d;split at hwp
 case h_2=>cases hwp
 rename_i hf;unfold cF at hop;split at hop <;>try (first | (simp at hop;done) | ((repeat' split at hop) <;>simp at hop;done))
 rename_i t l l' ho;split at hop
 case h_2=>cases hop
 rename_i e' n' hu hl;split at hop
 case h_2=>cases hop
 rename_i z' hz;split at hop
 case isTrue=>cases hop
 split at hop
 case h_2=>cases hop
 rename_i m hm;split at hop
 case isFalse=>cases hop
 rename_i hb;simp only[v6,bz.lI.injEq] at hop;obtain ⟨rfl,rfl⟩:=hop;exact (ND ho hm hu hz hb hd (hdn d rfl) hf).wp hop0 hsim (fun a' w' hs=>hK _ a' w' hwp hs)
theorem XF{dr:Bool}{K:ab→Prop}{dst:Option Nat}{rest:List aC}{a:Act}{w:World}{Kw:Act→World→Prop}{Q:Exit→Act→World→Prop}{ty:cm}{m k v:aF}(hop:cF c.P o=some (.jm ty m k v))(hd:o.dst=dst)(hdn:∀ k,dst=some k→k<c.n)
  (hwp:ba c.P c.Y dr K (aY A dst (.jm ty m k v) rest (aA rest))) (hsim:bG c A a w) (hK:∀ B a' w',ba c.P c.Y dr K (aA rest B)→bG c B a' w'→Kw a' w'):o.wpIn c.bj 9 c.P a w Kw Q:=by
 have hop0:=hop;simp only[aY] at hwp;split at hwp
 case h_2=>cases hwp
 split at hwp
 case h_2=>cases hwp
 rename_i n hm;split at hwp
 case h_2=>cases hwp
 rename_i ks vs hn;split at hwp
 case h_2=>cases hwp
 rename_i ks' vs' hl;unfold cF at hop;split at hop <;>try (first | (simp at hop;done) | ((repeat' split at hop) <;>simp at hop;done))
 all_goals
  rename_i t mo ko vo ho;split at hop
  case h_2=>cases hop
  rename_i kt et m' k' hu h1 h2;split at hop
  case h_2=>cases hop
  rename_i ty' v' hk h3;simp only[v6,bz.jm.injEq] at hop;obtain ⟨rfl,rfl,rfl,rfl⟩:=hop
 ·exact (AI (.inl ho) hu hk h1 h2 h3 hm hn hl hd).wp hop0 hsim (fun a' w' hs=>hK _ a' w' hwp hs)
 ·exact (AI (.inr ho) hu hk h1 h2 h3 hm hn hl hd).wp hop0 hsim (fun a' w' hs=>hK _ a' w' hwp hs)
theorem XB{dr:Bool}{K:ab→Prop}{dst:Option Nat}{rest:List aC}{a:Act}{w:World}{Kw:Act→World→Prop}{Q:Exit→Act→World→Prop}{ty:cm}{m k:aF}(hop:cF c.P o=some (.lH ty m k))(hd:o.dst=dst)(hdn:∀ k,dst=some k→k<c.n)
  (hwp:ba c.P c.Y dr K (aY A dst (.lH ty m k) rest (aA rest))) (hsim:bG c A a w) (hK:∀ B a' w',ba c.P c.Y dr K (aA rest B)→bG c B a' w'→Kw a' w'):o.wpIn c.bj 9 c.P a w Kw Q:=by
 have hop0:=hop;simp only[aY] at hwp;split at hwp
 case h_2=>cases hwp
 split at hwp
 case h_2=>cases hwp
 rename_i n hm;split at hwp
 case h_2=>cases hwp
 rename_i ks vs hn;split at hwp
 case h_2=>cases hwp
 rename_i ks' vs' hl;unfold cF at hop;split at hop <;>try (first | (simp at hop;done) | ((repeat' split at hop) <;>simp at hop;done))
 rename_i args tys ho;split at hop
 case h_2=>cases hop
 rename_i mo ko t t' ha ht;split at hop
 case h_2=>cases hop
 rename_i kt et m' k' hu h1 h2;simp only[t8,bz.lH.injEq] at hop;obtain ⟨ty',hk,rfl,rfl,rfl⟩:=hop;have ha':args = #[mo,ko]:=by apply Array.ext';simpa using ha
 have ht':tys = #[t,t']:=by apply Array.ext';simpa using ht
 subst ha' ht';exact (NB ho hu hk h1 h2 hm hn hl hd).wp hop0 hsim (fun a' w' hs=>hK _ a' w' hwp hs)
theorem XI{dr:Bool}{K:ab→Prop}{dst:Option Nat}{rest:List aC}{a:Act}{w:World}{Kw:Act→World→Prop}{Q:Exit→Act→World→Prop}{x:aF}(hop:cF c.P o=some (.kh x))(hd:o.dst=dst)(hdn:∀ k,dst=some k→k<c.n)
  (hwp:ba c.P c.Y dr K (aY A dst (.kh x) rest (aA rest))) (hsim:bG c A a w) (hK:∀ B a' w',ba c.P c.Y dr K (aA rest B)→bG c B a' w'→Kw a' w'):o.wpIn c.bj 9 c.P a w Kw Q:=by
 have hop0:=hop;simp only[aY] at hwp;split at hwp
 case h_2=>cases hwp
 rename_i d;split at hwp
 case h_2=>cases hwp
 rename_i hf;split at hwp
 case h_2=>cases hwp
 rename_i ks vs hx;unfold cF at hop;split at hop <;>try (first | (simp at hop;done) | ((repeat' split at hop) <;>simp at hop;done))
 rename_i t y ho;split at hop
 case h_2=>cases hop
 rename_i kt et hu;simp only[t8,bz.kh.injEq] at hop;obtain ⟨z,hz,rfl⟩:=hop;exact (NG ho hu hz hx hd (hdn d rfl) hf).wp hop0 hsim (fun a' w' hs=>hK _ a' w' hwp hs)
theorem XH{dr:Bool}{K:ab→Prop}{dst:Option Nat}{rest:List aC}{a:Act}{w:World}{Kw:Act→World→Prop}{Q:Exit→Act→World→Prop}{x:aF}(hop:cF c.P o=some (.j8 x))(hd:o.dst=dst)(hdn:∀ k,dst=some k→k<c.n)
  (hwp:ba c.P c.Y dr K (aY A dst (.j8 x) rest (aA rest))) (hsim:bG c A a w) (hK:∀ B a' w',ba c.P c.Y dr K (aA rest B)→bG c B a' w'→Kw a' w'):o.wpIn c.bj 9 c.P a w Kw Q:=by
 have hop0:=hop;simp only[aY] at hwp;split at hwp
 case h_2=>cases hwp
 rename_i n hx;split at hwp
 case h_2=>cases hwp
 rename_i ks vs left cur hn;unfold cF at hop;split at hop <;>try (first | (simp at hop;done) | ((repeat' split at hop) <;>simp at hop;done))
 rename_i y ho;simp only[t8,bz.j8.injEq] at hop;obtain ⟨z,hz,rfl⟩:=hop;obtain ⟨D,E,hs⟩:=hsim;obtain ⟨w',v,hrun,hor⟩:=Zy ho hz hx hn (by rw[hd];exact hdn) hs;refine ⟨jy,?_⟩;rw[jR hop0,hrun,Oper.uponIn_value];rw[hd] at hor;split at hwp
 ·rename_i hl;rcases hor with ⟨_,hor⟩ | ⟨i,k,x,hi,_⟩
  ·exact hK _ _ _ hwp (by rw[hd];exact hor)
  ·rw[hl] at hi;cases hi
 ·rename_i hl;rcases hor with ⟨h,_⟩ | ⟨i,k,x,hi,hk,hx,hor⟩
  ·exact absurd h hl
  ·cases hwp with
   |any hdr hall =>
    have:=hall i hi;simp only[hk,hx] at this;exact hK _ _ _ this (by rw[hd];exact hor)
theorem Xy{dr:Bool}{K:ab→Prop}{dst:Option Nat}{rest:List aC}{a:Act}{w:World}{Kw:Act→World→Prop}{Q:Exit→Act→World→Prop}{x:aF}{args:List aF}(hop:cF c.P o=some (.eV x args))(hd:o.dst=dst)(hdn:∀ k,dst=some k→k<c.n)
  (hwp:ba c.P c.Y dr K (aY A dst (.eV x args) rest (aA rest))) (hsim:bG c A a w) (hK:∀ B a' w',ba c.P c.Y dr K (aA rest B)→bG c B a' w'→Kw a' w'):o.wpIn c.bj 9 c.P a w Kw Q:=by
 have hop0:=hop;simp only[aY] at hwp;unfold cF at hop;split at hop <;>try (first | (simp at hop;done) | ((repeat' split at hop) <;>simp at hop;done))
 rename_i y xs ts _ ho;split at hop
 case h_2=>cases hop
 rename_i y' ys h1 h2;simp only[v6,bz.eV.injEq] at hop;obtain ⟨rfl,rfl⟩:=hop;obtain ⟨D,E,hs⟩:=hsim;have hv:=br hs h1;split at hwp
 ·rename_i f caps hx;rw[hx] at hv;obtain ⟨cs,q1,q2⟩:=hv;simp only[ae] at q2;obtain ⟨vs,q3,q4⟩:=q2;have hval:a.eval y=je f vs:=by simpa[bd,I.isAgg,q3] using q1.symm
  have caps_ok:∀ D' E',aM c A a w D' E'→dX (aQ w D' E') caps vs:=fun D' E' hs'=>by
   have hv':=br hs' h1;rw[hx] at hv';obtain ⟨cs',q1',q2'⟩:=hv';simp only[ae] at q2';obtain ⟨vs',q3',q4'⟩:=q2';have hval':a.eval y=je f vs':=by simpa[bd,I.isAgg,q3'] using q1'.symm
   rw[hval] at hval';have:=Oz hval';subst this;exact nO q4'
  have e:xs.map a.eval=(xs.toList.map a.eval).toArray:=by apply Array.ext';simp
  rcases Nat.lt_or_ge f 1000000 with hf | hf
  ·rw[vt hf,vr hf] at hwp;rw[lB hf] at hval;refine u2 (vs:=xs.toList.map a.eval++vs) hop0 rfl rfl (fun D' E' hs'=>(kr hs' xs.toList ts.toList ys h2).append (caps_ok D' E' hs')) ⟨D,E,hs⟩ hwp hd hdn (fun hc =>?_) hK;simp only[execOp,ho,resolve,hval,Deferred.ofValue,Sem.run_bind,Sem.run_pure,Result.andThen_ok,invoke,Array.empty_append,lR hc];rw[e];simp
  ·obtain ⟨g,rfl⟩:∃ g:Nat,f=g+1000000:=⟨Nat.sub f 1000000,(Nat.sub_add_cancel hf).symm⟩
   rw[A2,A1] at hwp;rw[qg] at hval;refine u2 (vs:=vs++xs.toList.map a.eval) hop0 rfl rfl (fun D' E' hs'=>(caps_ok D' E' hs').append (kr hs' xs.toList ts.toList ys h2)) ⟨D,E,hs⟩ hwp hd hdn (fun hc =>?_) hK;simp only[execOp,ho,resolve,hval,Deferred.ofValue,Sem.run_bind,Sem.run_pure,Result.andThen_ok,invoke,Array.append_empty,lR hc];rw[e];simp
 ·rename_i u hx;rw[hx] at hv;obtain ⟨cs,q1,q2⟩:=hv;simp only[ae] at q2;have hval:a.eval y=u:=by simpa[bd,I.isAgg,q2.1] using q1.symm
  refine JS (vs:=xs.toList.map a.eval) hop0 (fun D' E' hs'=>kr hs' xs.toList ts.toList ys h2) ⟨D,E,hs⟩ hwp hd hdn (fun l hl =>?_) hK;subst hl;have e:xs.map a.eval=(xs.toList.map a.eval).toArray:=by apply Array.ext';simp
  simp only[execOp,ho,resolve,hval,Deferred.ofValue,Sem.run_bind,Sem.run_pure,Result.andThen_ok,invoke,Array.empty_append];rw[e]
 ·cases hwp
theorem XG{dr:Bool}{K:ab→Prop}{dst:Option Nat}{rest:List aC}{a:Act}{w:World}{Kw:Act→World→Prop}{Q:Exit→Act→World→Prop}{neg:Bool}{x:aF}(hop:cF c.P o=some (.nilS neg x))(hd:o.dst=dst)(hdn:∀ k,dst=some k→k<c.n)
  (hwp:ba c.P c.Y dr K (aY A dst (.nilS neg x) rest (aA rest))) (hsim:bG c A a w) (hK:∀ B a' w',ba c.P c.Y dr K (aA rest B)→bG c B a' w'→Kw a' w'):o.wpIn c.bj 9 c.P a w Kw Q:=by
 have hop0:=hop;simp only[aY] at hwp;split at hwp
 case isFalse=>exact BM hop hd hdn hsim hK hwp
 rename_i hu;cases hwp with
 |any hdr hall =>
 unfold cF at hop;split at hop <;>try (first | (simp at hop;done) | ((repeat' split at hop) <;>simp at hop;done))
 rename_i bop t y z yt ho;split at hop
 ·simp at hop
 ·simp at hop
 ·rename_i e y' z' hut h1 h2;split at hop
  ·rename_i s;split at hop
   ·rename_i hopp;simp only[v6,bz.nilS.injEq] at hop;obtain ⟨rfl,rfl⟩:=hop;have ho':o.op=.binOp (if (bop==.neq)=true then .neq else .eql) t y z yt:=by
     rcases hopp with rfl | rfl <;>simpa using ho
    obtain ⟨D,E,hs⟩:=hsim;have hund:∃ sz,af A y'=.slice sz []∨af A y'=.c0 sz:=by
     generalize af A y'=q at hu;cases q <;>simp only[jv,zz4,List.isEmpty_iff] at hu
     ·rename_i sz;exact ⟨sz,.inr rfl⟩
     ·rename_i sz es;subst hu;exact ⟨sz,.inl rfl⟩
    obtain ⟨b,hrun⟩:=Zz ho' hut h1 h2 hund hs;refine ⟨jy,?_⟩;rw[jR hop0,hrun,Oper.uponIn_value];have hb:=hall (if b then 0 else 1) (by cases b <;>simp);refine hK _ _ _ hb ⟨D,E,?_⟩;rw[hd];have e:((if b=true then (0:Nat) else 1)==0)=b:=by cases b <;>rfl
    rw[e];exact hs.aP hdn (kK b)
   ·cases hop
  ·cases hop
 ·split at hop <;>simp at hop
 ·(repeat' split at hop) <;>simp at hop
 ·split at hop <;>simp at hop
 ·cases hop
theorem Xu{dr:Bool}{K:ab→Prop}{dst:Option Nat}{rest:List aC}{a:Act}{w:World}{Kw:Act→World→Prop}{Q:Exit→Act→World→Prop}{e:TypeId}{esz bytes:Nat}{z:I}{s x:aF}(hop:cF c.P o=some (.du e esz bytes z s x))(hd:o.dst=dst)(hdn:∀ k,dst=some k→k<c.n)
  (hwp:ba c.P c.Y dr K (aY A dst (.du e esz bytes z s x) rest (aA rest))) (hsim:bG c A a w) (hK:∀ B a' w',ba c.P c.Y dr K (aA rest B)→bG c B a' w'→Kw a' w'):o.wpIn c.bj 9 c.P a w Kw Q:=by
 have hop0:=hop;simp only[aY] at hwp;unfold cF at hop;split at hop <;>try (first | (simp at hop;done) | ((repeat' split at hop) <;>simp at hop;done))
 rename_i args tys ho;split at hop
 case h_2=>cases hop
 rename_i y q t t' ha ht;split at hop
 case h_2=>cases hop
 rename_i e' s' x' k1 k2 k3;split at hop
 case isFalse=>split at hop <;>simp at hop
 rename_i hk;simp only[t8,bz.du.injEq] at hop;obtain ⟨zz,hz1,rfl,rfl,rfl,rfl,rfl,rfl⟩:=hop;obtain ⟨rfl,hk2,hk3⟩:=hk;have ha':args = #[y,q]:=by apply Array.ext';simpa using ha
 have ht':tys = #[t,t]:=by apply Array.ext';simpa using ht
 subst ha' ht';rw[hz1] at hk3;simp only[zy1,v6] at hk3;have hinfo:(c.P.info? e').isSome=true:=by
  obtain ⟨ti,_,hti,_⟩:=km hz1;rw[hti];rfl
 have grow:∀ es ys,cT A (c.P.cellsOf e') (af A s')=some es→cT A (c.P.cellsOf e') (af A x')=some ys→ys≠[]→(∀ a w D E,aM c A a w D E→∀ ad l cp,a.eval y=.slice ad l cp→cp<l+ys.length) →
   ba c.P c.Y dr K (fq A dst (c.P.cellsOf e') (c.P.bytesOf e') zz es ys (aA rest))→o.wpIn c.bj 9 c.P a w Kw Q:=fun es ys hse hsx hne hfull h=>by
  simp only[fq] at h;split at h
  case h_2=>cases h
  rename_i d;split at h
  case h_2=>cases h
  rename_i hf;split at h
  case isFalse=>cases h
  rename_i hb;cases h with
  |any hdr hall =>
   obtain ⟨D,E,hs⟩:=hsim;obtain ⟨v,w',m,g1,g2,g3⟩:=HI ho k1 k2 k3 hz1 hk3 hse hsx hb.1 hd (hdn d rfl) hf hne hs (hfull a w D E hs) hb.2;refine ⟨jy,?_⟩;rw[jR hop0,g1,Oper.uponIn_value,hd];rw[hd] at g3;exact hK _ _ _ (hall m g2) g3
 split at hwp
 ·rename_i n l hs';split at hwp
  case h_2=>cases hwp
  rename_i sz ys hx';split at hwp
  case h_3=>cases hwp
  case h_2 =>
   rename_i T xs hn;split at hwp
   case isFalse=>cases hwp
   rename_i hok;obtain ⟨h1,h2,h3,h4,h5,h6,h7,h8⟩:=hok;subst h3 h4;have hl5:ys.length=(qo ys).length:=(congrArg List.length h5).trans (by simp);rw[hl5] at h7 h8 hwp;rw[h5] at hx';have hd':=Nu (o:=o) ho k1 k2 k3 hz1 h2 hs' hn h1 hx' (fun e=>h6 (by rw[h5,e];rfl)) h7 h8 (by rw[hd];exact hdn);exact hd'.wp hop0 hsim (fun a' w' hs=>by rw[hd] at hs;exact hK _ a' w' hwp hs)
  rename_i T sz' es hn;split at hwp
  case isFalse=>cases hwp
  rename_i hok;obtain ⟨h1,h2,h3,h4,h5,h6,h7⟩:=hok;subst h2 h3 h4;have hd':=Nt (o:=o) ho k1 k2 k3 hz1 hk3 hk2 hs' hn h1 hx' rfl h5 h6 h7 (by rw[hd];exact hdn);exact hd'.wp hop0 hsim (fun a' w' hs=>by rw[hd] at hs;exact hK _ a' w' hwp hs)
 ·simp only[ed] at hwp;split at hwp
  case h_2=>cases hwp
  rename_i es ys hse hsx;split at hwp
  ·rename_i hne;subst hne;exact ((Nw ho k1 hinfo k2 k3 hse hsx).does (by rw[hd];exact hdn)).wp hop0 hsim (fun a' w' hs=>by rw[hd] at hs;exact hK _ a' w' hwp hs)
  ·rename_i hne;have hpos:0<ys.length:=List.length_pos_iff.2 hne;split at hwp
   ·rename_i z0 hsv;refine grow es ys hse hsx hne (fun a w D E hs ad l cp hv =>?_) hwp;have h0:=br hs k2;rw[hsv] at h0;obtain ⟨cs,q1,q2⟩:=h0;simp only[ae] at q2;have:a.eval y=.slice none 0 0:=by simpa[bd,I.isAgg,q2] using q1.symm
    rw[this] at hv;simp only[Value.slice.injEq] at hv;omega
   ·rename_i z0 hsv;refine grow es ys hse hsx hne (fun a w D E hs ad l cp hv =>?_) hwp;have h0:=br hs k2;rw[hsv] at h0;obtain ⟨cs,q1,q2⟩:=h0;simp only[ae] at q2;obtain ⟨ad',q2⟩:=q2;have:a.eval y=.slice ad' 0 0:=by simpa[bd,I.isAgg,q2] using q1.symm
    rw[this] at hv;simp only[Value.slice.injEq] at hv;omega
   ·rename_i n p sz lo l hsv;split at hwp
    case h_2=>cases hwp
    rename_i b hn;split at hwp
    case h_2=>cases hwp
    rename_i fs hat;split at hwp
    ·rename_i hroom;split at hwp
     case isFalse=>cases hwp
     rename_i hok;obtain ⟨rfl,hsh⟩:=hok;exact (Nv ho k1 hinfo k2 k3 hsv hn hat hsx hroom hsh (by rw[hd];exact hdn)).wp hop0 hsim (fun a' w' hs=>by rw[hd] at hs;exact hK _ a' w' hwp hs)
    ·rename_i hroom;refine grow es ys hse hsx hne (fun a w D E hs ad l' cp hv =>?_) hwp;have h0:=br hs k2;rw[hsv] at h0;obtain ⟨_,bb,cs,T,off,c1,c2,c3,_,_,_,_,_,_,_,_,_,_,r1,gX,tG⟩:=hs.view (fs:=fs) h0 (by simp only[b6,hn,hat]);rw[tG] at hv;simp only[Value.slice.injEq] at hv;omega
   ·cases hwp
theorem Xv{dr:Bool}{K:ab→Prop}{dst:Option Nat}{rest:List aC}{a:Act}{w:World}{Kw:Act→World→Prop}{Q:Exit→Act→World→Prop}{e:TypeId}{esz bytes:Nat}{z:I}{s n:aF}(hop:cF c.P o=some (.jU e esz bytes z s n))(hd:o.dst=dst)(hdn:∀ k,dst=some k→k<c.n)
  (hwp:ba c.P c.Y dr K (aY A dst (.jU e esz bytes z s n) rest (aA rest))) (hsim:bG c A a w) (hK:∀ B a' w',ba c.P c.Y dr K (aA rest B)→bG c B a' w'→Kw a' w'):o.wpIn c.bj 9 c.P a w Kw Q:=by
 have hop0:=hop;simp only[aY] at hwp;unfold cF at hop;split at hop <;>try (first | (simp at hop;done) | ((repeat' split at hop) <;>simp at hop;done))
 rename_i args tys ho;split at hop
 case h_2=>cases hop
 rename_i y q t t' ha ht;split at hop
 case h_2=>cases hop
 rename_i e' s' x' k1 k2 k3;split at hop
 case isTrue=>simp at hop
 split at hop
 case isFalse=>cases hop
 rename_i hk;simp only[t8,bz.jU.injEq] at hop;obtain ⟨zz,hz1,rfl,rfl,rfl,rfl,rfl,rfl⟩:=hop;obtain ⟨hint,hk2,hk3⟩:=hk;have ha':args = #[y,q]:=by apply Array.ext';simpa using ha
 have ht':tys = #[t,t']:=by apply Array.ext';simpa using ht
 subst ha' ht';rw[hz1] at hk3;simp only[zy1,v6] at hk3;obtain ⟨kt,hkt⟩:∃ kt,c.P.underlying t'=some (.int kt):=by
  cases hu:c.P.underlying t' with
  |none=>rw[hu] at hint;cases hint
  |some dsc=>cases dsc <;>rw[hu] at hint <;>first | exact ⟨_,rfl⟩ | cases hint
 split at hwp
 case h_2=>cases hwp
 rename_i kx bg hx';simp only[pP] at hwp;split at hwp
 case h_2=>cases hwp
 rename_i es hse;split at hwp
 case h_2=>cases hwp
 rename_i nn p sz lo l hsv;split at hwp
 case h_2=>cases hwp
 rename_i bb hn;split at hwp
 case h_2=>cases hwp
 rename_i fs hat;split at hwp
 case isFalse=>cases hwp
 rename_i hroom;simp only[fq] at hwp;split at hwp
 case h_2=>cases hwp
 rename_i d;split at hwp
 case h_2=>cases hwp
 rename_i hf;split at hwp
 case isFalse=>cases hwp
 rename_i hb;rw[List.length_replicate] at hb;cases hwp with
 |any hdr hall =>
  obtain ⟨D,E,hs⟩:=hsim;obtain ⟨v,w',m,g1,g2,g3⟩:=HK ho k1 k2 k3 hkt hx' rfl hroom.1 hk2 hz1 hk3 hse hb.1 hd (hdn d rfl) hf hs (fun ad l' cp hv=>by
   have h0:=br hs k2;rw[hsv] at h0;have hsv':=hse;obtain ⟨_,b1,cs,T,off,c1,c2,c3,_,_,_,_,_,_,_,_,_,_,r1,gX,tG⟩:=hs.view (fs:=fs) h0 (by simp only[b6,hn,hat]);rw[tG] at hv;simp only[Value.slice.injEq] at hv;have hel:es.length=l:=by
    rw[hsv] at hse;simp only[cT,b6,hn,hat] at hse;split at hse
    ·simp only[v6] at hse;rw[←hse,zy0,zx5];omega
    ·cases hse
   omega) hb.2
  refine ⟨jy,?_⟩;rw[jR hop0,g1,Oper.uponIn_value,hd];rw[hd] at g3;have:=hall m (by rw[List.length_replicate];exact g2);rw[List.length_replicate] at this;exact hK _ _ _ this g3
theorem Xz{dr:Bool}{K:ab→Prop}{dst:Option Nat}{rest:List aC}{a:Act}{w:World}{Kw:Act→World→Prop}{Q:Exit→Act→World→Prop}{esz:Nat}{z:I}{x:aF}(hop:cF c.P o=some (.jc esz z x))(hd:o.dst=dst)(hdn:∀ k,dst=some k→k<c.n)
  (hwp:ba c.P c.Y dr K (aY A dst (.jc esz z x) rest (aA rest))) (hsim:bG c A a w) (hK:∀ B a' w',ba c.P c.Y dr K (aA rest B)→bG c B a' w'→Kw a' w'):o.wpIn c.bj 9 c.P a w Kw Q:=by
 have hop0:=hop;simp only[aY] at hwp;split at hwp
 case h_2=>cases hwp
 unfold cF at hop;split at hop <;>try (first | (simp at hop;done) | ((repeat' split at hop) <;>simp at hop;done))
 rename_i args tys ho;split at hop
 case h_2=>cases hop
 rename_i y t ha ht;split at hop
 case h_2=>cases hop
 rename_i e' x' k1 k2;simp only[t8,bz.jc.injEq] at hop;obtain ⟨zz,hz1,rfl,rfl,rfl⟩:=hop;have ha':args = #[y]:=by apply Array.ext';simpa using ha
 have ht':tys = #[t]:=by apply Array.ext';simpa using ht
 subst ha' ht';have nothing:ba c.P c.Y dr K (aA rest A)→(∀ a w D E,aM c A a w D E→∃ ad cp,a.eval y=.slice ad 0 cp)→o.wpIn c.bj 9 c.P a w Kw Q:=fun h hv=>by
  obtain ⟨D,E,hs⟩:=hsim;obtain ⟨ad,cp,hv⟩:=hv a w D E hs;refine ⟨jy,?_⟩;have hrun:(execOp a.eval o).run c.P w=.ok (.value (.tuple #[])) w:=by
   cases ad <;>simp[execOp,ho,resolve,invoke,builtin,Builtin.clear_,run_underlying k1,hv]
  rw[jR hop0,hrun,Oper.uponIn_value,hd];exact hK _ _ _ h ⟨D,E,hs⟩
 unfold mr at hwp;split at hwp
 ·rename_i n p sz lo l hv;split at hwp
  case h_2=>cases hwp
  rename_i b hn;split at hwp
  case h_2=>cases hwp
  rename_i fs hat;split at hwp
  case isFalse=>cases hwp
  rename_i hok;obtain ⟨rfl,hsh⟩:=hok;exact (Ny ho k1 k2 hz1 hv hn hat hsh hd).wp hop0 hsim (fun a' w' hs=>hK _ a' w' hwp hs)
 ·rename_i z0 hv;refine nothing hwp fun a w D E hs =>?_;have h0:=br hs k2;rw[hv] at h0;obtain ⟨cs,q1,q2⟩:=h0;simp only[ae] at q2;exact ⟨none,0,by simpa[bd,I.isAgg,q2] using q1.symm⟩
 ·rename_i z0 hv;refine nothing hwp fun a w D E hs =>?_;have h0:=br hs k2;rw[hv] at h0;obtain ⟨cs,q1,q2⟩:=h0;simp only[ae] at q2;obtain ⟨ad,q2⟩:=q2;exact ⟨ad,0,by simpa[bd,I.isAgg,q2] using q1.symm⟩
 ·cases hwp
theorem XA{dr:Bool}{K:ab→Prop}{dst:Option Nat}{rest:List aC}{a:Act}{w:World}{Kw:Act→World→Prop}{Q:Exit→Act→World→Prop}{esz:Nat}{x y:aF}(hop:cF c.P o=some (.gl esz x y))(hd:o.dst=dst)(hdn:∀ k,dst=some k→k<c.n)
  (hwp:ba c.P c.Y dr K (aY A dst (.gl esz x y) rest (aA rest))) (hsim:bG c A a w) (hK:∀ B a' w',ba c.P c.Y dr K (aA rest B)→bG c B a' w'→Kw a' w'):o.wpIn c.bj 9 c.P a w Kw Q:=by
 have hop0:=hop;simp only[aY] at hwp;unfold cF at hop;split at hop <;>try (first | (simp at hop;done) | ((repeat' split at hop) <;>simp at hop;done))
 rename_i args tys ho;split at hop
 case h_2=>cases hop
 rename_i u v t t' ha ht;split at hop
 case h_2=>cases hop
 rename_i e' x' y' k1 k2 k3;split at hop
 case isFalse=>cases hop
 rename_i hk;simp only[v6,bz.gl.injEq] at hop;obtain ⟨rfl,rfl,rfl⟩:=hop;obtain ⟨_,hinfo⟩:=hk;have ha':args = #[u,v]:=by apply Array.ext';simpa using ha
 have ht':tys = #[t,t']:=by apply Array.ext';simpa using ht
 subst ha' ht';unfold kz at hwp;split at hwp
 ·rename_i n p sz lo l ys hv hsx;split at hwp
  case h_2=>cases hwp
  rename_i b hn;split at hwp
  case h_2=>cases hwp
  rename_i fs hat;split at hwp
  case isFalse=>cases hwp
  rename_i hok;obtain ⟨rfl,hsh⟩:=hok;exact (Nz ho k1 hinfo k2 k3 hv hn hat hsx rfl hsh (by rw[hd];exact hdn)).wp hop0 hsim (fun a' w' hs=>by rw[hd] at hs;exact hK _ a' w' hwp hs)
 ·rename_i z0 ys hv hsx;exact (NA ho k1 hinfo k2 k3 hv hsx (by rw[hd];exact hdn)).wp hop0 hsim (fun a' w' hs=>by rw[hd] at hs;exact hK _ a' w' hwp hs)
 ·cases hwp
theorem XJ{dr:Bool}{K:ab→Prop}{dst:Option Nat}{rest:List aC}{a:Act}{w:World}{Kw:Act→World→Prop}{Q:Exit→Act→World→Prop}{x:aF}(hop:cF c.P o=some (.eT x))(hd:o.dst=dst)(hdn:∀ k,dst=some k→k<c.n)
  (hwp:ba c.P c.Y dr K (aY A dst (.eT x) rest (aA rest))) (hsim:bG c A a w) (hK:∀ B a' w',ba c.P c.Y dr K (aA rest B)→bG c B a' w'→Kw a' w'):o.wpIn c.bj 9 c.P a w Kw Q:=by
 have hop0:=hop;simp only[aY] at hwp;unfold cF at hop;split at hop <;>try (first | (simp at hop;done) | ((repeat' split at hop) <;>simp at hop;done))
 rename_i t t' y ho;split at hop
 case h_1=>simp at hop
 case h_2=>(repeat' split at hop) <;>simp at hop
 case h_4=>cases hop
 rename_i e y' k1 k2 k3;split at hop
 case h_2=>cases hop
 rename_i k4;simp only[v6,bz.eT.injEq] at hop;subst hop;cases hse:lT (af A y') with
 |none=>rw[hse] at hwp;simp only[iB] at hwp;cases hwp
 |some ys =>
  rw[hse] at hwp;simp only[iB] at hwp;split at hwp
  case h_2=>cases hwp
  rename_i d;split at hwp
  case h_2=>cases hwp
  rename_i hf;cases hwp with
  |any hdr hall =>
   obtain ⟨D,E,hs⟩:=hsim;obtain ⟨v,w',m,g1,g2,g3⟩:=abJ ho k1 k2 k4 k3 hse hd (hdn d rfl) hf hs;refine ⟨jy,?_⟩;rw[jR hop0,g1,Oper.uponIn_value,hd];rw[hd] at g3;exact hK _ _ _ (hall m g2) g3
theorem sw{dr:Bool}{K:ab→Prop}{op:bz}{dst:Option Nat}{rest:List aC}{a:Act}{w:World}{Kw:Act→World→Prop}{Q:Exit→Act→World→Prop}(hop:cF c.P o=some op)(hd:o.dst=dst)(hdn:∀ k,dst=some k→k<c.n)
  (hwp:ba c.P c.Y dr K (aY A dst op rest (aA rest))) (hsim:bG c A a w) (hK:∀ B a' w',ba c.P c.Y dr K (aA rest B)→bG c B a' w'→Kw a' w'):o.wpIn c.bj 9 c.P a w Kw Q:=by
 cases op with
 |alloc z=>exact Xt hop hd hdn hwp hsim hK
 |box x=>exact Xw hop hd hdn hwp hsim hK
 |aS s x v=>exact XK hop hd hdn hwp hsim hK
 |call f args=>exact Xx hop hd hdn hwp hsim hK
 |gK f args=>exact XL hop hd hdn hwp hsim hK
 |jK=>exact XC hop hd hdn hwp hsim hK
 |lI e sz=>exact XD hop hd hdn hwp hsim hK
 |jl e bytes z n=>exact XE hop hd hdn hwp hsim hK
 |jm ty m k v=>exact XF hop hd hdn hwp hsim hK
 |lH ty m k=>exact XB hop hd hdn hwp hsim hK
 |kh x=>exact XI hop hd hdn hwp hsim hK
 |j8 x=>exact XH hop hd hdn hwp hsim hK
 |eV x args=>exact Xy hop hd hdn hwp hsim hK
 |nilS neg x=>exact XG hop hd hdn hwp hsim hK
 |du e esz bytes z s x=>exact Xu hop hd hdn hwp hsim hK
 |jU e esz bytes z s n=>exact Xv hop hd hdn hwp hsim hK
 |jc esz z x=>exact Xz hop hd hdn hwp hsim hK
 |gl esz x y=>exact XA hop hd hdn hwp hsim hK
 |eT x=>exact XJ hop hd hdn hwp hsim hK
 |_=>exact BM hop hd hdn hsim hK (by simpa only[aY] using hwp)
theorem sD{j t:Nat}{bl:Array Oper}{a:Act}{w:World}{b b':Bool}(hs:bG c A a w)(hg:o.guard=some (j,b))(ht:(bl[j]?).bind (·.dst)=some t)(hv:A.t t=.bool b'):Region.wanted o (yielded bl a.tmps)=(b'==b):=by
 obtain ⟨D,E,hs⟩:=hs;have h:=hs.dn t;rw[hv] at h;have h:=kR h;have hy:yielded bl a.tmps j=some b':=by
  unfold yielded;rw[ht];simp only[Option.bind_some];simp only[Array.getD_eq_getD_getElem?] at h;cases hh:a.tmps[t]? with
  |none=>simp[hh,undef] at h
  |some v=>simp only[hh,Option.getD_some] at h;subst h;rfl
 unfold Region.wanted;rw[hg];simp only[hy];cases b <;>cases b' <;>rfl
theorem sE{j t:Nat}{bl:Array Oper}{a:Act}{w:World}{b:Bool}(hs:bG c A a w)(hg:o.guard=some (j,b))(ht:(bl[j]?).bind (·.dst)=some t)(hv:A.t t=.undef):Region.wanted o (yielded bl a.tmps)=false:=by
 obtain ⟨D,E,hs⟩:=hs;have h:=hs.dn t;rw[hv] at h;simp only[aQ] at h;have hy:yielded bl a.tmps j=none:=by
  unfold yielded;rw[ht];simp only[Option.bind_some];simp only[Array.getD_eq_getD_getElem?] at h;cases hh:a.tmps[t]? with
  |none=>rfl
  |some v=>simp only[hh,Option.getD_some] at h;subst h;rfl
 unfold Region.wanted;rw[hg];simp only[hy];rfl
theorem bG.mP{a:Act}{w:World}(h:bG c A a w){d:Option Nat}(hd:∀ k,d=some k→k<c.n):bG c (A.aP d .undef) (a.put d undef) w:=by
 obtain ⟨D,E,h⟩:=h;exact ⟨D,E,h.aP hd (by simp[aQ])⟩
theorem sC{dr:Bool}{K:ab→Prop}{bl:Array Oper}{Q:Exit→Act→World→Prop}(hQ:∀ B a w,K B→bG c B a w→Q .normal a w):∀ (l:List Oper) (gs:List aC) (A:ab) (a:Act) (w:World),fC c.P c.n bl l=some gs→ba c.P c.Y dr K (aA gs A) →
  bG c A a w→wpListIn c.bj 9 c.P bl Q l a w
 | [],gs,A,a,w,hc,hwp,hs=>by
  simp only[fC,v6] at hc;subst hc;simp only[aA] at hwp;cases hwp with
  |done hk=>exact hQ A a w hk hs
 |o::l,gs,A,a,w,hc,hwp,hs=>by
  simp only[fC] at hc;split at hc
  case h_2=>cases hc
  rename_i g gs' hg hgs;simp only[v6] at hc;subst hc;obtain ⟨h1,h2,h3,h4⟩:=ou hg;have step:ba c.P c.Y dr K (aY A g.dst g.op gs' (aA gs'))→o.wpIn c.bj 9 c.P a w (wpListIn c.bj 9 c.P bl Q l) Q:=fun h =>
   sw h1 h2.symm (by rw[h2];exact h3) h hs (fun B a' w' hw hs'=>sC hQ l gs' B a' w' hgs hw hs')
  simp only[wpListIn];simp only[aA] at hwp;rcases h4 with ⟨h5,h6⟩ | ⟨j,b,t,h5,h6,h7⟩
  ·rw[h6] at hwp;have hw:Region.wanted o (yielded bl a.tmps)=true:=by simp[Region.wanted,h5]
   rw[hw,if_pos rfl];exact step hwp
  ·rw[h7] at hwp;simp only at hwp;split at hwp
   ·rename_i b' hb';rw[sD hs h5 h6 hb'];split at hwp
    ·rename_i hbb;subst hbb;simp only[BEq.rfl,if_true];exact step hwp
    ·rename_i hbb;have:(b'==b)=false:=by simpa using hbb
     rw[this];simp only[zz4,if_false];exact ⟨fun f _=>lC c f,sC hQ l gs' _ _ w hgs hwp (by rw[h2];exact hs.mP h3)⟩
   ·rename_i hb';rw[sE hs h5 h6 hb'];simp only[zz4,if_false];exact ⟨fun f _=>lC c f,sC hQ l gs' _ _ w hgs hwp (by rw[h2];exact hs.mP h3)⟩
   ·cases hwp
end
def aF.sl:aF→List Nat
 | .t n=>[n]
 | .c _=>[]
def tl:Option aF→List Nat
 |some x=>x.sl
 |none=>[]
def iV(l:List aF):List Nat:=l.flatMap aF.sl
def bz.cC:bz→List Nat
 | .mv x=>x.sl
 | .pick c a b=>c.sl++(a.sl++b.sl)
 | .bin _ x y=>x.sl++y.sl
 | .eqv _ _ x y=>x.sl++y.sl
 | .nilS _ x=>x.sl
 | .conv _ x=>x.sl
 | .un _ x=>x.sl
 | .ld _ x=>x.sl
 | .fa _ _ x=>x.sl
 | .fl _ _ _ x=>x.sl
 | .ia _ _ x i=>x.sl++i.sl
 | .is _ x i=>x.sl++i.sl
 | .ix _ _ _ x i=>x.sl++i.sl
 | .len x=>x.sl
 | .lenT x=>x.sl
 | .va _ _ x=>x.sl
 | .sl _ x lo hi mx=>x.sl++(tl lo++(tl hi++tl mx))
 | .bld _ ps=>iV (ps.map (·.2))
 | .bs _ _ ps=>iV ps
 | .ext x _=>x.sl
 | .mk _ caps=>iV caps
 | .alloc _=>[]
 | .box x=>x.sl
 | .aS _ x v=>x.sl++v.sl
 | .du _ _ _ _ s x=>s.sl++x.sl
 | .jU _ _ _ _ s x=>s.sl++x.sl
 | .cap x=>x.sl
 | .bs0 _=>[]
 | .jc _ _ x=>x.sl
 | .gl _ x y=>x.sl++y.sl
 | .call _ args=>iV args
 | .eV x args=>x.sl++iV args
 | .gK _ args=>iV args
 | .nilC x=>x.sl
 | .ptrE _ x y=>x.sl++y.sl
 | .max2 x y=>x.sl++y.sl
 | .prim _ xs=>iV xs
 | .b2s x=>x.sl
 | .eT x=>x.sl
 | .jl _ _ _ n=>n.sl
 | .jK=>[]
 | .lI .. =>[]
 | .lk _ _ _ m k=>m.sl++k.sl
 | .jm _ m k v=>m.sl++(k.sl++v.sl)
 | .lH _ m k=>m.sl++k.sl
 | .kh x=>x.sl
 | .j8 x=>x.sl
 | .ent x=>x.sl
def aC.cC(g:aC):List Nat:=g.op.cC++(match g.guard with | some (t,_)=>[t] | none=>[])
def bz.fU:bz→Nat
 | .mv _ | .pick .. | .bin .. | .eqv .. | .nilS .. | .conv .. | .un .. | .fl .. | .ix .. | .lenT _ | .bld .. | .ext .. | .mk .. | .nilC _ | .ptrE .. | .max2 .. | .prim .. =>0
 | .ld .. | .fa .. | .ia .. | .is .. | .len _ | .va .. | .bs .. | .sl .. | .cap _ | .bs0 _ | .lk .. | .ent _ | .b2s _=>1
 | .call .. | .eV .. =>2
 | .alloc _ | .box _=>3
 | .aS .. =>4
 | .du .. | .jU .. | .jc .. | .gl .. | .gK .. | .jl .. | .jK | .lI .. | .jm .. | .lH .. | .kh _ | .j8 _ | .eT _=>5
def u9(a b:Nat):Bool:=(decide (a≤2)&&decide (b≤3))||(a==0&&b==4)
def mA(g h:aC):Bool:=u9 g.op.fU h.op.fU&&(match g.dst with
  |some d => !h.cC.contains d&&h.dst != some d
  |none=>true)&&(match h.dst with
  |some d => !g.cC.contains d
  |none=>true)
def dp(A A':ab)(l:List Nat):Prop:=∀ k∈l,A'.t k=A.t k
section
variable {A A':ab}
theorem cJ{x:aF}(h:dp A A' x.sl):af A' x=af A x:=by
 cases x with
 |t n=>exact h n (by simp[aF.sl])
 |c x=>rfl
theorem dp.l{l m:List Nat}(h:dp A A' (l++m)):dp A A' l:=fun k hk=>h k (List.mem_append_left _ hk)
theorem dp.r{l m:List Nat}(h:dp A A' (l++m)):dp A A' m:=fun k hk=>h k (List.mem_append_right _ hk)
theorem kD:∀ {l:List aF},dp A A' (iV l)→l.map (af A')=l.map (af A)
 | [],_=>rfl
 |x::l,h=>by
  simp only[iV,List.flatMap_cons] at h;simp only[zz7,cJ h.l,kD (l:=l) h.r]
theorem oH{x:Option aF}(h:dp A A' (tl x)):x.map (af A')=x.map (af A):=by
 cases x with
 |none=>rfl
 |some x=>simp only[zy1,cJ (x:=x) h]
theorem AX:∀ {l:List (Nat×aF)},dp A A' (iV (l.map (·.2)))→(l.map fun p=>(p.1,af A' p.2))=l.map fun p=>(p.1,af A p.2)
 | [],_=>rfl
 |x::l,h=>by
  simp only[iV,zz7,List.flatMap_cons] at h;simp only[zz7,cJ h.l,AX (l:=l) h.r]
theorem qE{f g:I→Option I}(h:∀ x v,f x=some v→g x=some v):∀ {xs vs:List I},gq f xs=some vs→gq g xs=some vs
 | [],vs,hx=>by simpa only[gq] using hx
 |x::xs,vs,hx=>by
  simp only[gq] at hx ⊢;cases h1:f x with
  |none=>rw[h1] at hx;cases hx
  |some y=>cases h2:gq f xs with
   |none=>rw[h1,h2] at hx;cases hx
   |some ys=>rw[h1,h2] at hx;rw[h x y h1,qE h h2];exact hx
theorem vy(hu:dq A A'):∀ (k:Nat) (x v:I),fI A k x=some v→fI A' k x=some v
 |0,_,_,h=>by simp[fI] at h
 |k+1,x,v,h=>by
  have ih:=vy hu k;simp only[fI] at h ⊢;split at h
  ·rename_i hc;rw[if_pos hc];exact h
  ·rename_i hc;rw[if_neg hc];cases x <;>simp only[] at h ⊢ <;>try (cases h;done)
   case agg fs =>
    simp only[t8] at h ⊢;obtain ⟨a,h1,h2⟩:=h;exact ⟨a,qE ih h1,h2⟩
   case func f fs =>
    split at h
    case isFalse hf=>rw[if_neg hf];exact h
    rename_i hf;rw[if_pos hf];simp only[t8] at h ⊢;obtain ⟨a,h1,h2⟩:=h;exact ⟨a,qE ih h1,h2⟩
   case ptr n p =>
    cases hd:b6 A (.ptr n p) with
    |none=>rw[hd] at h;cases h
    |some y =>
     rw[hd] at h;rw[iK hu hd];simp only[t8] at h ⊢;obtain ⟨a,h1,h2⟩:=h;exact ⟨a,ih _ _ h1,h2⟩
   case view n p sz lo l =>
    cases hd:b6 A (.ptr n p) with
    |none=>rw[hd] at h;cases h
    |some y=>rw[hd] at h;rw[iK hu hd];exact h
   case mref n =>
    cases ho:A.o n with
    |none=>rw[ho] at h;cases h
    |some y =>
     rw[ho] at h;rw[hu n y ho];cases y <;>try (cases h;done)
     simp only at h ⊢;split at h
     ·rename_i hk;rw[if_pos hk];simp only[t8] at h ⊢;obtain ⟨a,h1,h2⟩:=h;exact ⟨a,qE ih h1,h2⟩
     ·cases h
   case own n l =>
    cases ho:A.o n with
    |none=>rw[ho] at h;cases h
    |some y=>rw[ho] at h;rw[hu n y ho];exact h
mutual
theorem Ba(hu:dq A A'){aE:Bool} : ∀ {x v:I},bf aE A x=some v→bf aE A' x=some v
 | .ptr n p,v,h=>by
  simp only[bf] at h ⊢;cases aE <;>simp only[zz4,if_false,if_true] at h ⊢
  ·exact h
  ·cases hd:b6 A (.ptr n p) with
   |none=>rw[hd] at h;cases h
   |some y =>
    rw[hd] at h;rw[iK hu hd];simp only at h ⊢;split at h
    ·rename_i hc;rw[if_pos hc];exact h
    ·rename_i hc;rw[if_neg hc];simp only[t8] at h ⊢;obtain ⟨a,h1,h2⟩:=h;exact ⟨a,vy hu 9 _ _ h1,h2⟩
 | .mref n,v,h=>by
  simp only[bf] at h ⊢;cases aE <;>simp only[zz4,if_false,if_true] at h ⊢
  ·exact h
  ·cases ho:A.o n with
   |none=>rw[ho] at h;cases h
   |some y =>
    rw[ho] at h;rw[hu n y ho];cases y <;>try (cases h;done)
    simp only at h ⊢;split at h
    ·rename_i hk;rw[if_pos hk];simp only[t8] at h ⊢;obtain ⟨a,h1,h2⟩:=h;exact ⟨a,qE (vy hu 9) h1,h2⟩
    ·cases h
 | .cU _,_,h=>by simp[bf] at h
 | .cu _ _,_,h=>by simpa only[bf] using h
 | .own n k,v,h=>by
  simp only[bf] at h ⊢;cases ho:A.o n with
  |none=>rw[ho] at h;cases h
  |some y=>rw[ho] at h;rw[hu n y ho];exact h
 | .view n p sz lo k,v,h=>by
  simp only[bf] at h ⊢;cases aE <;>simp only[zz4,if_false,if_true] at h ⊢
  ·exact h
  ·cases hd:b6 A (.ptr n p) with
   |none=>rw[hd] at h;cases h
   |some y=>rw[hd] at h;rw[iK hu hd];exact h
 | .func f caps,v,h=>by
  simp only[bf] at h ⊢;split at h
  case isFalse hf=>rw[if_neg hf];exact h
  rename_i hf;rw[if_pos hf];simp only[t8] at h ⊢;obtain ⟨a,h1,h2⟩:=h;exact ⟨a,kG hu h1,h2⟩
 | .agg fs,v,h=>by
  simp only[bf,t8] at h ⊢;obtain ⟨a,h1,h2⟩:=h;exact ⟨a,kG hu h1,h2⟩
 | .nils _,_,h | .c0 _,_,h | .tuple _,_,h | .undef,_,h | .cV,_,h | .bool _,_,h | .int _ _,_,h | .ay _,_,h | .nilp,_,h | .cZ,_,h | .cR,_,h | .any,_,h | .raw _,_,h | .slice _ _,_,h | .ref _,_,h | .iface _ _,_,h=>by simpa only[bf] using h
theorem kG(hu:dq A A'){aE:Bool} : ∀ {xs vs:List I},bL aE A xs=some vs→bL aE A' xs=some vs
 | [],vs,h=>by simpa only[bL] using h
 |x::xs,vs,h=>by
  simp only[bL] at h ⊢;cases h1:bf aE A x with
  |none=>rw[h1] at h;cases h
  |some y=>cases h2:bL aE A xs with
   |none=>rw[h1,h2] at h;cases h
   |some ys=>rw[h1,h2] at h;rw[Ba hu h1,kG hu h2];exact h
end
theorem wL{op:bz}(hc:op.fU=0)(h:dp A A' op.cC):aZ A' op=aZ A op:=by
 cases op <;>simp only[bz.fU] at hc <;>try (cases hc;done)
 all_goals simp only[bz.cC] at h
 case mv x=>simp only[aZ,cJ h]
 case pick c a b=>simp only[aZ,cJ h.l,cJ h.r.l,cJ h.r.r]
 case bin _ x y=>simp only[aZ,cJ h.l,cJ h.r]
 case eqv _ _ x y=>simp only[aZ,cJ h.l,cJ h.r]
 case nilS x=>simp only[aZ,cJ h]
 case conv x=>simp only[aZ,cJ h]
 case un x=>simp only[aZ,cJ h]
 case fl x=>simp only[aZ,cJ h]
 case ix x i=>simp only[aZ,cJ h.l,cJ h.r]
 case lenT x=>simp only[aZ,cJ h]
 case bld zs ps=>simp only[aZ,AX h]
 case ext x i=>simp only[aZ,cJ h]
 case mk f caps=>simp only[aZ,kD h]
 case nilC x=>simp only[aZ,cJ h]
 case ptrE neg x y=>simp only[aZ,cJ h.l,cJ h.r]
 case max2 x y=>simp only[aZ,cJ h.l,cJ h.r]
 case prim p xs=>simp only[aZ,kD h]
theorem Zk(hu:dq A A'){m:I}{q:List I×List I}(h:fY A m=some q):fY A' m=some q:=by
 cases m with
 |mref n =>
  simp only[fY] at h ⊢;cases hd:A.o n with
  |none=>simp only[hd] at h;cases h
  |some y=>simp only[hd] at h;simp only[hu n y hd];exact h
 |raw v=>cases v <;>first | (cases h;done) | (rename_i m;cases m <;>first | exact h | cases h)
 |cu ks vs=>exact h
 |_=>simp only[fY] at h;cases h
theorem ab0(hu:dq A A'){sz:Nat}{x:I}{es:List I}(h:cT A sz x=some es):cT A' sz x=some es:=by
 cases x <;>simp only[cT] at h ⊢ <;>try (exact h)
 ·rename_i n l;cases hd:A.o n with
  |none=>rw[hd] at h;cases h
  |some y=>rw[hd] at h;rw[hu n y hd];exact h
 ·rename_i n p z lo k;cases hd:b6 A (.ptr n p) with
  |none=>rw[hd] at h;cases h
  |some y=>rw[hd] at h;rw[iK hu hd];exact h
theorem Dp{op:bz}(hu:dq A A')(h:dp A A' op.cC){v:I}(hv:aZ A op=some v):aZ A' op=some v:=by
 by_cases hc:op.fU=0
 ·rw[wL hc h];exact hv
 cases op <;>try (exact absurd rfl hc)
 all_goals simp only[bz.cC] at h
 case ld s x =>
  simp only[aZ,cJ h] at hv ⊢;cases hd:b6 A (af A x) with
  |none=>rw[hd] at hv;cases hv
  |some y=>rw[hd] at hv;rw[iK hu hd];exact hv
 case fa f off x =>
  simp only[aZ,cJ h] at hv ⊢;generalize af A x=z at *;cases z <;>try (first | exact hv | (rename_i y;cases y <;>exact hv))
  rename_i n p;cases hd:b6 A (.ptr n p) with
  |none=>simp only[hd] at hv;cases hv
  |some y=>simp only[hd] at hv;simp only[iK hu hd];exact hv
 case ia n esz x i =>
  simp only[aZ,cJ h.l,cJ h.r] at hv ⊢;generalize af A x=z at *;cases z <;>try (first | exact hv | (rename_i y;cases y <;>exact hv))
  rename_i n p;cases hd:b6 A (.ptr n p) with
  |none=>simp only[hd] at hv;(repeat' split at hv) <;>cases hv
  |some y=>simp only[hd] at hv;simp only[iK hu hd];exact hv
 case is esz x i =>
  simp only[aZ,cJ h.l,cJ h.r] at hv ⊢;generalize af A i=q at *;cases q <;>try (exact hv)
  simp only at hv ⊢;generalize af A x=z at *;cases z <;>try (first | exact hv | (rename_i y;cases y <;>exact hv))
  ·rename_i n p;cases hd:A.o n with
   |none=>simp only[hd] at hv;cases hv
   |some y=>simp only[hd] at hv;simp only[hu n y hd];exact hv
  ·rename_i n p sz lo k;simp only at hv ⊢;cases hd:b6 A (.ptr n p) with
   |none=>simp only[hd] at hv;cases hv
   |some y=>simp only[hd] at hv;simp only[iK hu hd];exact hv
 case len x =>
  simp only[aZ,cJ h] at hv ⊢;generalize af A x=z at *;cases z <;>try (first | exact hv | (rename_i y;cases y <;>exact hv))
  rename_i n p;cases hd:A.o n with
  |none=>simp only[hd] at hv;cases hv
  |some y=>simp only[hd] at hv;simp only[hu n y hd];exact hv
 case cap x =>
  simp only[aZ,cJ h] at hv ⊢;generalize af A x=z at *;cases z <;>try (first | exact hv | (rename_i y;cases y <;>exact hv))
  rename_i n p sz lo k;simp only at hv ⊢;cases hd:b6 A (.ptr n p) with
  |none=>simp only[hd] at hv;cases hv
  |some y=>simp only[hd] at hv;simp only[iK hu hd];exact hv
 case bs0 esz=>exact hv
 case sl esz x lo hi mx =>
  simp only[aZ,cJ h.l,oH h.r.l,oH h.r.r.l,oH h.r.r.r] at hv ⊢;generalize af A x=z at *;cases z <;>try (first | exact hv | (rename_i y;cases y <;>exact hv))
  rename_i n p sz l0 k;simp only at hv ⊢;cases hd:b6 A (.ptr n p) with
  |none=>simp only[hd] at hv;cases hv
  |some y=>simp only[hd] at hv;simp only[iK hu hd];exact hv
 case va n esz x =>
  simp only[aZ,cJ h] at hv ⊢;generalize af A x=z at *;cases z <;>try (first | exact hv | (rename_i y;cases y <;>exact hv))
  rename_i n p;cases hd:b6 A (.ptr n p) with
  |none=>simp only[hd] at hv;cases hv
  |some y=>simp only[hd] at hv;simp only[iK hu hd];exact hv
 case lk ty z ok m k =>
  simp only[aZ,cJ h.l,cJ h.r] at hv ⊢;cases hd:fY A (af A m) with
  |none=>rw[hd] at hv;cases hv
  |some y=>rw[hd] at hv;rw[Zk hu hd];exact hv
 case ent x =>
  simp only[aZ,cJ h] at hv ⊢;generalize af A x=z at *;cases z <;>try (exact hv)
  rename_i n;simp only at hv ⊢;cases hd:A.o n with
  |none=>simp only[hd] at hv;cases hv
  |some y=>simp only[hd] at hv;simp only[hu n y hd];exact hv
 case b2s x =>
  simp only[aZ,cJ h] at hv ⊢;cases hd:cT A 1 (af A x) with
  |none=>rw[hd] at hv;cases hv
  |some y=>rw[hd] at hv;rw[ab0 hu hd];exact hv
 case bs esz ps =>
  simp only[aZ,kD h] at hv ⊢;cases hd:bL false A (ps.map (af A)) with
  |none=>rw[hd] at hv;cases hv
  |some y=>rw[hd] at hv;rw[kG hu hd];exact hv
 all_goals (simp only[aZ] at hv;cases hv)
end
def pass(A:ab)(g:aC):Prop:=match g.guard with | none=>True | some (t,b)=>A.t t=.bool b
def fO(A:ab)(g:aC):Prop:=match g.guard with | none=>False | some (t,b)=>A.t t=.bool (!b)∨A.t t=.undef
inductive iY (P:Program) (A:ab):bz→I→Prop where
 |pure {op:bz} {v:I} : aZ A op=some v→iY P A op v
 |flat {f:FuncId} {args:List aF} {cargs:List I} {r:I} : bL true A (args.map (af A))=some cargs→aK P f cargs r→r.flat=true→iY P A (.call f args) r
 |lead {f:FuncId} {args:List aF} {cargs:List I} {r:I} : bL false A (args.map (af A))=some cargs→aK P f cargs r→iY P A (.call f args) r
 |ug {x:aF} {f:FuncId} {caps:List I} {args:List aF} {cargs:List I} {r:I} : af A x=.func f caps→bL true A (gR f (args.map (af A)) caps)=some cargs→aK P (kE f) cargs r→r.flat=true→iY P A (.eV x args) r
 |uh {x:aF} {f:FuncId} {caps:List I} {args:List aF} {cargs:List I} {r:I} : af A x=.func f caps→bL false A (gR f (args.map (af A)) caps)=some cargs→aK P (kE f) cargs r→iY P A (.eV x args) r
def rJ(A:ab)(op:bz)(x:I):Prop:=op=.alloc x∨∃ y,op=.box y∧(af A y).cn=true∧x=af A y
def rK(A:ab)(op:bz)(n:Nat)(z:ai):Prop:=∃ s x v p b old,op=.aS s x v∧af A x=.ptr n p∧A.o n=some (.box b)∧b.at p=some old∧wB s (af A v) old∧z=.box (b.dm p (af A v))
def Ha(A:ab)(dst:Option Nat)(op:bz)(B:ab):Prop:=op.fU=5∧∀ (rest:List aC) (k:ab→cj),aY A dst op rest k=k B
theorem acp{A:ab}{neg:Bool}{x:aF}{v:I}(h:aZ A (.nilS neg x)=some v):jv (af A x)=false:=by
 simp only[aZ] at h;generalize af A x=q at *;cases q <;>simp only[jv] <;>simp only at h <;>try (cases h;done)
 rename_i sz es;cases es with
 |nil=>simp at h
 |cons=>rfl
inductive eL (P:Program) (g:aC) (A:ab):ab→Prop where
 |skip:fO A g→eL P g A (A.aP g.dst .undef)
 |val {v:I} : pass A g→iY P A g.op v→eL P g A (A.aP g.dst v)
 |iu {d:Nat} {x:I} : pass A g→g.dst=some d→rJ A g.op x→A.o d=none→eL P g A ((A.aN d (.box x)).put d (.ptr d []))
 |aS {n:Nat} {z:ai} : pass A g→g.dst=none→rK A g.op n z→eL P g A (A.aN n z)
 |fX {B:ab} : pass A g→Ha A g.dst g.op B→eL P g A B
theorem uW{b' b:Bool}(h:b'≠b):b' = !b:=by cases b <;>cases b' <;>simp_all
section
variable {P:Program} {Y:Value→List I→List (Nat×ai)→cd→Prop} {K:ab→Prop}
theorem eL.CR{A:ab}{g:aC}{rest:List aC}(hp:pass A g)(h:ba P Y true K (aY A g.dst g.op rest (aA rest))):∃ B,eL P g A B∧ba P Y true K (aA rest B):=by
 have pure:ba P Y true K (cv (aZ A g.op) fun v=>aA rest (A.aP g.dst v))→∃ B,eL P g A B∧ba P Y true K (aA rest B):=by
  intro h;cases hv:aZ A g.op with
  |none=>rw[hv] at h;cases h
  |some v=>rw[hv] at h;exact ⟨_,.val hp (.pure hv),h⟩
 obtain ⟨dst,op,gd⟩:=g;cases op with
 |alloc z =>
  simp only[aY] at h;split at h
  case h_2=>cases h
  split at h
  case h_2=>cases h
  rename_i hd _ ho;exact ⟨_,.iu hp rfl (.inl rfl) ho,h⟩
 |box x =>
  simp only[aY] at h;split at h
  case h_2=>cases h
  split at h
  case h_2=>cases h
  rename_i hd _ ho;split at h
  case isFalse=>cases h
  rename_i hv;exact ⟨_,.iu hp rfl (.inr ⟨x,rfl,hv,rfl⟩) ho,h⟩
 |aS s x v =>
  simp only[aY] at h;split at h
  case h_2=>cases h
  split at h
  case h_2=>cases h
  rename_i n p hx;split at h
  case h_2=>cases h
  rename_i b hb;split at h
  case h_2=>cases h
  rename_i old hat;split at h
  case isFalse=>cases h
  rename_i hok;exact ⟨_,.aS hp rfl ⟨s,x,v,p,b,old,rfl,hx,hb,hat,hok,rfl⟩,h⟩
 |nilS neg x =>
  simp only[aY] at h;split at h
  ·cases h with | any hdr=>cases hdr
  ·exact pure h
 |du e esz bytes z s x =>
  simp only[aY] at h;split at h
  ·rename_i n l hs';split at h
   case h_2=>cases h
   rename_i sz ys hx';split at h
   case h_3=>cases h
   case h_2 =>
    rename_i T xs hn;split at h
    case isFalse=>cases h
    rename_i hok;exact ⟨_,.fX hp ⟨rfl,fun rest k=>by simp only[aY,hs',hx',hn,if_pos hok]⟩,h⟩
   rename_i T sz' es hn;split at h
   case isFalse=>cases h
   rename_i hok;exact ⟨_,.fX hp ⟨rfl,fun rest k=>by simp only[aY,hs',hx',hn,if_pos hok]⟩,h⟩
  ·rename_i hno;have hg:∀ (rest:List aC) (k:ab→cj),aY A dst (.du e esz bytes z s x) rest k=ed A dst esz bytes z (af A s) (cT A esz (af A s)) (cT A esz (af A x)) k:=fun rest k=>by
    simp only[aY]
   simp only[ed] at h hg;split at h
   case h_2=>cases h
   rename_i es ys hse hsx;simp only[hse,hsx] at hg;have grow:¬ ba P Y true K (fq A dst esz bytes z es ys (aA rest)):=fun h=>by
    simp only[fq] at h;split at h
    case h_2=>cases h
    split at h
    case h_2=>cases h
    split at h
    case isFalse=>cases h
    cases h with | any hdr=>cases hdr
   split at h
   ·rename_i hne;simp only[if_pos hne] at hg;exact ⟨_,.fX hp ⟨rfl,hg⟩,h⟩
   ·rename_i hne;simp only[if_neg hne] at hg;split at h
    ·exact absurd h grow
    ·exact absurd h grow
    ·rename_i n p sz lo l hsv;split at h
     case h_2=>cases h
     rename_i b hn;split at h
     case h_2=>cases h
     rename_i fs hat;split at h
     ·rename_i hroom;split at h
      case isFalse=>cases h
      rename_i hok;simp only[hsv,hn,hat,if_pos hroom,if_pos hok] at hg;exact ⟨_,.fX hp ⟨rfl,hg⟩,h⟩
     ·exact absurd h grow
    ·cases h
 |gK f args =>
  simp only[aY] at h;cases h with | ext r hdr=>cases hdr
 |jU e esz bytes z s n =>
  exfalso
  simp only[aY] at h;split at h
  case h_2=>cases h
  simp only[pP] at h;split at h
  case h_2=>cases h
  split at h
  case h_2=>cases h
  split at h
  case h_2=>cases h
  split at h
  case h_2=>cases h
  split at h
  case isFalse=>cases h
  simp only[fq] at h;split at h
  case h_2=>cases h
  split at h
  case h_2=>cases h
  split at h
  case isFalse=>cases h
  cases h with | any hdr=>cases hdr
 |jK =>
  simp only[aY] at h;split at h
  case h_2=>cases h
  rename_i d;split at h
  case h_2=>cases h
  rename_i hf;exact ⟨_,.fX hp ⟨rfl,fun rest k=>by simp only[aY,hf]⟩,h⟩
 |lI e sz =>
  simp only[aY] at h;split at h
  case h_2=>cases h
  rename_i d;split at h
  case h_2=>cases h
  rename_i hf;exact ⟨_,.fX hp ⟨rfl,fun rest k=>by simp only[aY,hf]⟩,h⟩
 |jl e bytes z n =>
  simp only[aY] at h;split at h
  case h_2=>cases h
  rename_i d;split at h
  case h_2=>cases h
  rename_i hf;split at h
  case h_2=>cases h
  rename_i k m hn;split at h
  case isFalse=>cases h
  rename_i hc;exact ⟨_,.fX hp ⟨rfl,fun rest k=>by simp only[aY,hf,hn,if_pos hc]⟩,h⟩
 |jm ty m key v =>
  simp only[aY] at h;split at h
  case h_2=>cases h
  split at h
  case h_2=>cases h
  rename_i n hm;split at h
  case h_2=>cases h
  rename_i ks vs hn;split at h
  case h_2=>cases h
  rename_i ks' vs' hl;exact ⟨_,.fX hp ⟨rfl,fun rest k=>by simp only[aY,hm,hn,hl]⟩,h⟩
 |lH ty m key =>
  simp only[aY] at h;split at h
  case h_2=>cases h
  split at h
  case h_2=>cases h
  rename_i n hm;split at h
  case h_2=>cases h
  rename_i ks vs hn;split at h
  case h_2=>cases h
  rename_i ks' vs' hl;exact ⟨_,.fX hp ⟨rfl,fun rest k=>by simp only[aY,hm,hn,hl]⟩,h⟩
 |kh x =>
  simp only[aY] at h;split at h
  case h_2=>cases h
  rename_i d;split at h
  case h_2=>cases h
  rename_i hf;split at h
  case h_2=>cases h
  rename_i ks vs hx;exact ⟨_,.fX hp ⟨rfl,fun rest k=>by simp only[aY,hf,hx]⟩,h⟩
 |j8 x =>
  simp only[aY] at h;split at h
  case h_2=>cases h
  rename_i n hx;split at h
  case h_2=>cases h
  rename_i ks vs left cur hn;split at h
  ·rename_i hl;exact ⟨_,.fX hp ⟨rfl,fun rest k=>by simp only[aY,hx,hn,if_pos hl]⟩,h⟩
  ·cases h with | any hdr=>cases hdr
 |jc esz z x =>
  simp only[aY] at h;split at h
  case h_2=>cases h
  have hg:∀ (rest:List aC) (k:ab→cj),aY A none (.jc esz z x) rest k=mr A esz z k (af A x):=fun rest k=>rfl;simp only[mr] at h hg;split at h
  ·rename_i n p sz lo l hv;split at h
   case h_2=>cases h
   rename_i b hn;split at h
   case h_2=>cases h
   rename_i fs hat;split at h
   case isFalse=>cases h
   rename_i hok;simp only[hv,hn,hat,if_pos hok] at hg;exact ⟨_,.fX hp ⟨rfl,hg⟩,h⟩
  ·rename_i z0 hv;simp only[hv] at hg;exact ⟨_,.fX hp ⟨rfl,hg⟩,h⟩
  ·rename_i z0 hv;simp only[hv] at hg;exact ⟨_,.fX hp ⟨rfl,hg⟩,h⟩
  ·cases h
 |gl esz x y =>
  have hg:∀ (rest:List aC) (k:ab→cj),aY A dst (.gl esz x y) rest k=kz A dst esz k (af A x) (kj A esz (af A y)):=fun rest k=>rfl;simp only[aY] at h;simp only[kz] at h hg;split at h
  ·rename_i n p sz lo l ys hv hsx;split at h
   case h_2=>cases h
   rename_i b hn;split at h
   case h_2=>cases h
   rename_i fs hat;split at h
   case isFalse=>cases h
   rename_i hok;simp only[hv,hsx,hn,hat,if_pos hok] at hg;exact ⟨_,.fX hp ⟨rfl,hg⟩,h⟩
  ·rename_i z0 ys hv hsx;simp only[hv,hsx] at hg;exact ⟨_,.fX hp ⟨rfl,hg⟩,h⟩
  ·cases h
 |eT x =>
  simp only[aY] at h;unfold iB at h;split at h
  case h_2=>cases h
  split at h
  case h_2=>cases h
  split at h
  case h_2=>cases h
  cases h with | any hdr=>cases hdr
 |call f args =>
  simp only[aY] at h;generalize h1:bL true A (args.map (af A))=a1 at h;generalize h2:bL false A (args.map (af A))=a2 at h;cases h with
  |flat r hc hf hw=>exact ⟨_,.val hp (.flat h1 hc hf),hw⟩
  |lead r hc hw=>exact ⟨_,.val hp (.lead h2 hc),hw⟩
  |j4 ns r hdr=>cases hdr
  |bx aE ρ os cargs post hdr=>cases hdr
 |eV x args =>
  simp only[aY] at h;split at h
  case h_3=>cases h
  case h_2=>cases h with | uj os cargs post hdr=>cases hdr
  rename_i f caps hx;generalize h1:bL true A (gR f (args.map (af A)) caps)=a1 at h;generalize h2:bL false A (gR f (args.map (af A)) caps)=a2 at h;cases h with
  |flat r hc hf hw=>exact ⟨_,.val hp (.ug hx h1 hc hf),hw⟩
  |lead r hc hw=>exact ⟨_,.val hp (.uh hx h2 hc),hw⟩
  |j4 ns r hdr=>cases hdr
  |bx aE ρ os cargs post hdr=>cases hdr
 |_=>exact pure (by simpa only[aY] using h)
theorem eL.wu{A:ab}{g:aC}{rest:List aC}(h:ba P Y true K (aA (g::rest) A)):∃ B,eL P g A B∧ba P Y true K (aA rest B):=by
 simp only[aA] at h;split at h
 ·rename_i hg;exact eL.CR (by simp only[pass,hg]) h
 ·rename_i t b hg;split at h
  ·rename_i b' hb;split at h
   ·rename_i hbb;subst hbb;exact eL.CR (by simp only[pass,hg];exact hb) h
   ·rename_i hbb;refine ⟨_,.skip (by simp only[fO,hg];exact .inl (by rw[hb,uW hbb])),h⟩
  ·rename_i hb;exact ⟨_,.skip (by simp only[fO,hg];exact .inr hb),h⟩
  ·cases h
theorem mY{A:ab}{g:aC}{rest:List aC}(hp:pass A g):aA (g::rest) A=aY A g.dst g.op rest (aA rest):=by
 simp only[aA];cases hg:g.guard with
 |none=>rfl
 |some tb =>
  obtain ⟨t,b⟩:=tb;simp only[pass,hg] at hp;simp only[hp,if_true]
theorem eL.xF{A B:ab}{g:aC}{rest:List aC}(h:eL P g A B)(hw:ba P Y true K (aA rest B)):ba P Y true K (aA (g::rest) A):=by
 cases h with
 |skip hn =>
  simp only[aA];cases hg:g.guard with
  |none=>simp only[fO,hg] at hn
  |some tb =>
   obtain ⟨t,b⟩:=tb;simp only[fO,hg] at hn;rcases hn with hn | hn
   ·simp only[hn];rw[if_neg (by cases b <;>simp)];exact hw
   ·simp only[hn];exact hw
 |val hp hv =>
  rw[mY hp];obtain ⟨dst,op,gd⟩:=g;cases hv with
  |pure hv =>
   have hv':aZ A op=some _:=hv;cases op <;>try (simp only[aY,hv',cv] <;>first | exact hw | (simp only[aZ] at hv';cases hv');done)
   all_goals first
    |(simp only[aZ] at hv';cases hv';done)
    |(simp only[aY,acp hv',zz4,if_false,hv',cv];exact hw)
  |flat h1 h2 h3=>simp only[aY,h1];exact .flat _ h2 h3 hw
  |lead h1 h2=>simp only[aY,h1];exact .lead _ h2 hw
  |ug h0 h1 h2 h3=>simp only[aY,h0,h1];exact .flat _ h2 h3 hw
  |uh h0 h1 h2=>simp only[aY,h0,h1];exact .lead _ h2 hw
 |iu hp hd hm ho =>
  rw[mY hp];obtain ⟨dst,op,gd⟩:=g;simp only at hd;subst hd;rcases hm with hm | ⟨y,hm,hv,rfl⟩ <;>simp only at hm <;>subst hm
  ·simp only[aY,ho];exact hw
  ·simp only[aY,ho,hv,if_true];exact hw
 |aS hp hd hm =>
  rw[mY hp];obtain ⟨dst,op,gd⟩:=g;simp only at hd;subst hd;obtain ⟨s,x,v,p,b,old,h1,h2,h3,h4,h5,rfl⟩:=hm;simp only at h1;subst h1;simp only[aY,h2,h3,h4,if_pos h5];exact hw
 |fX hp hm =>
  rw[mY hp,hm.2];exact hw
theorem iY.cE{A A':ab}{op:bz}{v:I}(h:iY P A op v)(hu:dq A A')(ha:dp A A' op.cC):iY P A' op v:=by
 cases h with
 |pure h=>exact .pure (Dp hu ha h)
 |flat h1 h2 h3=>exact .flat (by rw[kD ha];exact kG hu h1) h2 h3
 |lead h1 h2=>exact .lead (by rw[kD ha];exact kG hu h1) h2
 |ug h0 h1 h2 h3=>simp only[bz.cC] at ha;exact .ug (by rw[cJ ha.l];exact h0) (by rw[kD ha.r];exact kG hu h1) h2 h3
 |uh h0 h1 h2=>simp only[bz.cC] at ha;exact .uh (by rw[cJ ha.l];exact h0) (by rw[kD ha.r];exact kG hu h1) h2
theorem iY.j4{A A':ab}{op:bz}{v:I}(h:iY P A op v)(hc:op.fU=0)(ha:dp A A' op.cC):iY P A' op v:=by
 cases h with
 |pure h=>exact .pure (by rw[wL hc ha];exact h)
 |_=>simp[bz.fU] at hc
theorem mN{A A':ab}{g:aC}(ha:dp A A' g.cC)(h:pass A g):pass A' g:=by
 unfold pass at *;cases hg:g.guard with
 |none=>trivial
 |some tb=>simp only[hg] at h ⊢;rw[ha tb.1 (by simp[aC.cC,hg])];exact h
theorem oY{A A':ab}{g:aC}(ha:dp A A' g.cC)(h:fO A g):fO A' g:=by
 unfold fO at *;cases hg:g.guard with
 |none=>simp only[hg] at h
 |some tb=>simp only[hg] at h ⊢;rw[ha tb.1 (by simp[aC.cC,hg])];exact h
theorem aC.jo{A A':ab}{g:aC}(ha:dp A A' g.cC):dp A A' g.op.cC:=fun k hk=>ha k (List.mem_append_left _ hk)
def kp(P:Program)(g:aC)(A:ab)(v:I):Prop:=(fO A g∧v=.undef)∨(pass A g∧iY P A g.op v)
theorem kp.step{A:ab}{g:aC}{v:I}(h:kp P g A v):eL P g A (A.aP g.dst v):=by
 rcases h with ⟨h,rfl⟩ | ⟨h,k⟩
 ·exact .skip h
 ·exact .val h k
theorem kp.cE{A A':ab}{g:aC}{v:I}(h:kp P g A v)(hu:dq A A')(ha:dp A A' g.cC):kp P g A' v:=by
 rcases h with ⟨h,rfl⟩ | ⟨h,k⟩
 ·exact .inl ⟨oY ha h,rfl⟩
 ·exact .inr ⟨mN ha h,k.cE hu (aC.jo ha)⟩
theorem kp.j4{A A':ab}{g:aC}{v:I}(h:kp P g A v)(hc:g.op.fU=0)(ha:dp A A' g.cC):kp P g A' v:=by
 rcases h with ⟨h,rfl⟩ | ⟨h,k⟩
 ·exact .inl ⟨oY ha h,rfl⟩
 ·exact .inr ⟨mN ha h,k.j4 hc (aC.jo ha)⟩
theorem eL.hU{A B:ab}{g:aC}(h:eL P g A B)(hc:g.op.fU≤2):∃ v,kp P g A v∧B=A.aP g.dst v:=by
 cases h with
 |skip h=>exact ⟨_,.inl ⟨h,rfl⟩,rfl⟩
 |val h k=>exact ⟨_,.inr ⟨h,k⟩,rfl⟩
 |iu h1 h2 h3 h4=>rcases h3 with h3 | ⟨y,h3,_⟩ <;>(rw[h3] at hc;simp[bz.fU] at hc)
 |aS h1 h2 h3=>obtain ⟨s,x,v,p,b,old,h4,_⟩:=h3;rw[h4] at hc;simp[bz.fU] at hc
 |fX h1 h3=>rw[h3.1] at hc;omega
theorem pc{A:ab}{a b:Option Nat}{v u:I}(h:∀ d,a=some d→b≠some d):(A.aP a v).aP b u=(A.aP b u).aP a v:=by
 cases a with
 |none=>rfl
 |some d=>cases b with
  |none=>rfl
  |some e =>
   have hne:d≠e:=fun he=>h d rfl (by rw[he]);simp only[ab.aP,ab.put,ab.mk.injEq,and_true]
   funext k
   by_cases h1:k=e <;>by_cases h2:k=d <;>simp_all
theorem gF{A:ab}{d:Option Nat}{v:I} : (A.aP d v).o=A.o:=by cases d <;>rfl
theorem lK{A:ab}{d:Option Nat}{v:I}{l:List Nat}(h:∀ k,d=some k→k∉l):dp A (A.aP d v) l:=by
 cases d with
 |none=>exact fun _ _=>rfl
 |some e =>
  intro k hk;have:k≠e:=fun he=>h e rfl (he▸hk);simp[ab.aP,ab.put,this]
theorem dp.symm{A A':ab}{l:List Nat}(h:dp A A' l):dp A' A l:=fun k hk=>(h k hk).symm
theorem rJ.same{A A':ab}{op:bz}{x:I}(h:rJ A op x)(ha:dp A A' op.cC):rJ A' op x:=by
 rcases h with h | ⟨y,h1,h2,h3⟩
 ·exact .inl h
 ·subst h1;have:=cJ (x:=y) ha;exact .inr ⟨y,rfl,by rw[this];exact h2,by rw[this];exact h3⟩
theorem rK.same{A A':ab}{op:bz}{n:Nat}{z:ai}(h:rK A op n z)(ho:A'.o=A.o)(ha:dp A A' op.cC):rK A' op n z:=by
 obtain ⟨s,x,v,p,b,old,h1,h2,h3,h4,h5,h6⟩:=h;subst h1;simp only[bz.cC] at ha;have e1:=cJ ha.l;have e2:=cJ ha.r;exact ⟨s,x,v,p,b,old,rfl,by rw[e1];exact h2,by rw[ho];exact h3,h4,by rw[e2];exact h5,by rw[e2];exact h6⟩
theorem Yy{g h:aC}(hi:mA g h=true):u9 g.op.fU h.op.fU=true∧(∀ d,g.dst=some d→d∉h.cC)∧(∀ d,g.dst=some d→h.dst≠some d)∧(∀ d,h.dst=some d→d∉g.cC):=by
 simp only[mA,zz0] at hi;obtain ⟨⟨h1,h2⟩,h3⟩:=hi;refine ⟨h1,fun d hd =>?_,fun d hd =>?_,fun d hd =>?_⟩
 ·rw[hd] at h2;simp at h2;exact h2.1
 ·rw[hd] at h2;simp at h2;exact h2.2
 ·rw[hd] at h3;simpa using h3
theorem eL.ru{A B C:ab}{g h:aC}(hi:mA g h=true)(h1:eL P g A B)(h2:eL P h B C):∃ B',eL P h A B'∧eL P g B' C:=by
 obtain ⟨hc,i1,i2,i3⟩:=Yy hi;simp only[u9,Bool.or_eq_true,zz0,decide_eq_true_eq,beq_iff_eq] at hc;have hg2:g.op.fU≤2:=by rcases hc with hc | hc <;>omega
 obtain ⟨v,hv,rfl⟩:=h1.hU hg2;have ag:dp (A.aP g.dst v) A h.cC:=(lK i1).symm;have cE:dq (A.aP g.dst v) A:=fun n x hx=>by rwa [gF] at hx
 cases h2 with
 |skip hn =>
  exact ⟨_,.skip (oY ag hn),by
   rw[pc i2];exact (hv.cE (by intro n x hx;rwa [gF]) (lK i3)).step⟩
 |val hp hu =>
  exact ⟨_,.val (mN ag hp) (hu.cE cE (aC.jo ag)),by
   rw[pc i2];exact (hv.cE (by intro n x hx;rwa [gF]) (lK i3)).step⟩
 |iu hp hd hm ho =>
  rename_i d x;rw[gF] at ho;refine ⟨_,.iu (mN ag hp) hd (hm.same (aC.jo ag)) ho,?_⟩;have e:((A.aP g.dst v).aN d (.box x)).put d (.ptr d [])=((A.aN d (.box x)).put d (.ptr d [])).aP g.dst v:=by
   cases hgd:g.dst with
   |none=>rfl
   |some e =>
    have hne:e≠d:=fun he=>i2 e hgd (by rw[hd,he]);simp only[ab.aP,ab.put,ab.aN,ab.mk.injEq,and_true]
    funext k
    by_cases h1:k=e <;>by_cases h2:k=d <;>simp_all
  rw[e];refine (hv.cE (fun n y hy =>?_) (fun k hk =>?_)).step
  ·have:n≠d:=fun he=>by rw[he,ho] at hy;cases hy
   simp only[ab.put,ab.aN,this,if_false];exact hy
  ·have:k≠d:=fun he=>i3 d hd (he▸hk);simp only[ab.put,ab.aN,this,if_false]
 |aS hp hd hm =>
  rename_i n z;have hc0:g.op.fU=0:=by
   obtain ⟨s,x,v,p,b,old,h4,_⟩:=hm;rcases hc with hc | hc
   ·rw[h4] at hc;exact absurd hc.2 (by simp[bz.fU])
   ·exact hc.1
  refine ⟨_,.aS (mN ag hp) hd (hm.same gF.symm (aC.jo ag)),?_⟩;have e:(A.aP g.dst v).aN n z=(A.aN n z).aP g.dst v:=by cases g.dst <;>rfl
  rw[e];exact (kp.j4 (A':=A.aN n z) hv hc0 (fun _ _=>rfl)).step
 |fX hp hm =>
  exfalso
  rw[hm.1] at hc;omega
theorem ba.ru{A:ab}{g h:aC}{rest:List aC}(hi:mA g h=true)(hw:ba P Y true K (aA (g::h::rest) A)):ba P Y true K (aA (h::g::rest) A):=by
 obtain ⟨B,h1,h2⟩:=eL.wu hw;obtain ⟨C,h3,h4⟩:=eL.wu h2;obtain ⟨B',h5,h6⟩:=eL.ru hi h1 h3;exact h5.xF (h6.xF h4)
theorem ba.pS{g:aC} : ∀ {l:List aC} {r:List aC} {A:ab},(∀ j∈l,mA j g=true)→ba P Y true K (aA (l++g::r) A)→ba P Y true K (aA (g::(l++r)) A)
 | [],r,A,_,h=>h
 |j::l,r,A,hi,h=>by
  obtain ⟨B,h1,h2⟩:=eL.wu (g:=j) (rest:=l++g::r) h;have h3:=ba.pS (l:=l) (r:=r) (fun k hk=>hi k (by simp[hk])) h2;exact ba.ru (hi j (by simp)) (h1.xF h3)
end
def dJ(o:Oper):List Nat:=(o.after.toList.filter fun e=>Region.binds .any e).map (·.on)
def nY(cl:List Nat):List Nat→Nat
 | []=>0
 |k::ks=>(2^k ||| cl.getD k 0) ||| nY cl ks
def r9(on:List (List Nat))(gs:List aC)(cl:List Nat):Bool :=
 (List.range gs.length).all fun i=>(on.getD i []).all (fun k=>decide (k<i))&&Nat.beq (cl.getD i 0) (nY cl (on.getD i [])) &&
  (List.range i).all fun j=>(cl.getD i 0).testBit j||mA (gs.getD j default) (gs.getD i default)
theorem xI{cl:List Nat}{j:Nat} : ∀ {l:List Nat},(nY cl l).testBit j=true→j∈l∨∃ k∈l,(cl.getD k 0).testBit j=true
 | [],h=>by simp[nY] at h
 |k::ks,h=>by
  simp only[nY,Nat.testBit_or,Bool.or_eq_true,Nat.testBit_two_pow,decide_eq_true_eq] at h;rcases h with (h | h) | h
  ·exact .inl (by simp[h])
  ·exact .inr ⟨k,by simp,h⟩
  ·rcases xI h with h | ⟨m,h1,h2⟩
   ·exact .inl (by simp[h])
   ·exact .inr ⟨m,by simp[h1],h2⟩
structure uq (l:List Oper) (gs:List aC):Prop where
 ln:∀ i o,l[i]?=some o→∀ k∈dJ o,k<i
 vQ:∀ (S:Nat→Prop),(∀ i o,l[i]?=some o→S i→∀ k∈dJ o,S k)→∀ i o g j,l[i]?=some o→gs[i]?=some g→(∀ k∈dJ o,S k)→j<i→¬ S j→mA (gs.getD j default) g=true
theorem NL{l:List Oper}{gs:List aC}{cl:List Nat}(hlen:gs.length=l.length)(h:r9 (l.map dJ) gs cl=true):uq l gs:=by
 simp only[r9,zx3,List.mem_range] at h;have aV:∀ i o,l[i]?=some o→∃ g,gs[i]?=some g∧(∀ k∈dJ o,k<i)∧(∀ j,(cl.getD i 0).testBit j=true→j∈dJ o∨∃ k∈dJ o,(cl.getD k 0).testBit j=true)∧∀ j,j<i→(cl.getD i 0).testBit j=true∨mA (gs.getD j default) g=true:=by
  intro i o ho;have hi:i<l.length:=(zz9.1 ho).1;have h1:=h i (by omega);have hon:(l.map dJ).getD i []=dJ o:=by simp[zz6,ho]
  have hgi:i<gs.length:=by omega
  have hg:gs[i]?=some gs[i]:=zz5 hgi;have hgd:gs.getD i default=gs[i]:=by simp[zz6,hg]
  rw[hon,hgd] at h1;simp only[zz0,zx3,decide_eq_true_eq,Bool.or_eq_true,List.mem_range] at h1;have hb:=Nat.eq_of_beq_eq_true h1.1.2;exact ⟨_,hg,h1.1.1,fun j hj=>xI (by rw[←hb];exact hj),h1.2⟩
 refine ⟨fun i o ho=>(aV i o ho).choose_spec.2.1,?_⟩;intro S hS i o g j ho hg hon hj hnj;have key:∀ n i o,i≤n→l[i]?=some o→(∀ k∈dJ o,S k)→∀ j,(cl.getD i 0).testBit j=true→S j:=by
  intro n
  induction n with
  |zero =>
   intro i o hi ho hon j hj;obtain ⟨g,_,h1,h2,_⟩:=aV i o ho;rcases h2 j hj with h | ⟨k,hk,_⟩
   ·exact hon j h
   ·have:=h1 k hk;omega
  |succ n ih =>
   intro i o hi ho hon j hj;obtain ⟨g,_,h1,h2,_⟩:=aV i o ho;rcases h2 j hj with h | ⟨k,hk,hjk⟩
   ·exact hon j h
   ·have hki:=h1 k hk;have hkl:k<l.length:=Nat.lt_trans hki (zz9.1 ho).1;obtain ⟨ok,hok⟩:∃ ok,l[k]?=some ok:=⟨l[k],zz5 hkl⟩
    exact ih k ok (by omega) hok (hS k ok hok (hon k hk)) j hjk
 obtain ⟨g',hg',_,_,h3⟩:=aV i o ho;rw[hg,v6] at hg';subst hg';rcases h3 j hj with h | h
 ·exact absurd (key i i o (zz8 _) ho hon j h) hnj
 ·exact h
def iz(listed:Array Bool)(n:Nat):List Nat:=(List.range n).filter fun i => !listed.getD i true
def nG(gs:List aC)(listed:Array Bool)(n:Nat):List aC:=(iz listed n).map fun i=>gs.getD i default
theorem ER{i n:Nat}(h:i<n):List.range n=List.range i++i::(List.range (n-(i+1))).map (i+1 + ·):=by
 conv=>lhs;rw[show n=(i+1)+(n-(i+1)) by omega,List.range_add]
 rw[List.range_succ];simp
theorem abd{listed:Array Bool}{i n:Nat}(h:i<n)(hs:listed.size=n)(hu:listed.getD i true=false):∃ l1 l2,iz listed n=l1++i::l2∧iz (listed.setIfInBounds i true) n=l1++l2∧∀ j∈l1,j<i∧listed.getD j true=false:=by
 have same:∀ j,j≠i→(listed.setIfInBounds i true).getD j true=listed.getD j true:=fun j hj=>getD_set_ne true (Ne.symm hj);have jg:(listed.setIfInBounds i true).getD i true=true:=by simp[hs,h]
 refine ⟨(List.range i).filter fun j => !listed.getD j true,((List.range (n-(i+1))).map (i+1 + ·)).filter fun j => !listed.getD j true,?_,?_,?_⟩
 ·simp only[iz];rw[ER h,List.filter_append,List.filter_cons];simp only[hu,Bool.not_false,if_true]
 ·simp only[iz];rw[ER h,List.filter_append,List.filter_cons];simp only[jg,Bool.not_true,zz4,if_false]
  congr 1
  ·refine List.filter_congr fun j hj =>?_;rw[same j (by have:=List.mem_range.1 hj;omega)]
  ·refine List.filter_congr fun j hj =>?_;obtain ⟨k,_,rfl⟩:=zx1.1 hj;rw[same _ (by omega)]
 ·intro j hj;simp only[List.mem_filter,List.mem_range,Bool.not_eq_true'] at hj;exact hj
theorem EX{n:Nat} : iz (Array.replicate n false) n=List.range n:=by
 simp only[iz];refine List.filter_eq_self.2 fun i hi =>?_;have:=List.mem_range.1 hi;simp[this]
theorem Zl(gs:List aC):((List.range gs.length).map fun i=>gs.getD i default)=gs:=by
 apply List.ext_getElem
 ·simp
 ·intro i h1 h2;simp[zz6,h2]
section
variable {c:ct}
theorem ml{P:Program}{n:Nat}{bl:Array Oper} : ∀ {l:List Oper} {gs:List aC},fC P n bl l=some gs→gs.length=l.length∧∀ (i:Nat) (o:Oper),l[i]?=some o→∃ g,gs[i]?=some g∧lq P n bl o=some g
 | [],gs,h=>by simp only[fC,v6] at h;subst h;exact ⟨rfl,fun i o ho=>by simp at ho⟩
 |o::l,gs,h=>by
  simp only[fC] at h;split at h
  case h_2=>cases h
  rename_i g gs' hg hgs;simp only[v6] at h;subst h;obtain ⟨h1,h2⟩:=ml (l:=l) hgs;refine ⟨by simp[h1],fun i o' ho =>?_⟩;cases i with
  |zero=>simp only[List.getElem?_cons_zero,v6] at ho;subst ho;exact ⟨g,rfl,hg⟩
  |succ i=>simpa using h2 i o' (by simpa using ho)
theorem Xn{K:ab→Prop}{bl:Array Oper}{Q:Exit→Act→World→Prop}{o:Oper}{g:aC}{rest:List aC}{A:ab}{a:Act}{w:World}{Kw:Act→World→Prop}(hg:lq c.P c.n bl o=some g)(hwp:ba c.P c.Y true K (aA (g::rest) A))(hs:bG c A a w)
  (hK:∀ B a' w',ba c.P c.Y true K (aA rest B)→bG c B a' w'→Kw a' w'):if Region.wanted o (yielded bl a.tmps) then o.wpIn c.bj 9 c.P a w Kw Q else (∀ f,o.about c.P w a.eval=some f→c.bj.fn f)∧Kw (a.put o.dst undef) w:=by
 obtain ⟨h1,h2,h3,h4⟩:=ou hg;have step:ba c.P c.Y true K (aY A g.dst g.op rest (aA rest))→o.wpIn c.bj 9 c.P a w Kw Q:=fun h =>
  sw h1 h2.symm (by rw[h2];exact h3) h hs (fun B a' w' hw hs'=>hK B a' w' hw hs')
 simp only[aA] at hwp;rcases h4 with ⟨h5,h6⟩ | ⟨j,b,t,h5,h6,h7⟩
 ·rw[h6] at hwp;have hw:Region.wanted o (yielded bl a.tmps)=true:=by simp[Region.wanted,h5]
  rw[hw,if_pos rfl];exact step hwp
 ·rw[h7] at hwp;simp only at hwp;split at hwp
  ·rename_i b' hb';rw[sD hs h5 h6 hb'];split at hwp
   ·rename_i hbb;subst hbb;simp only[BEq.rfl,if_true];exact step hwp
   ·rename_i hbb;have:(b'==b)=false:=by simpa using hbb
    rw[this];simp only[zz4,if_false];exact ⟨fun f _=>lC c f,hK _ _ _ hwp (by rw[h2];exact hs.mP h3)⟩
  ·rename_i hb';rw[sE hs h5 h6 hb'];simp only[zz4,if_false];exact ⟨fun f _=>lC c f,hK _ _ _ hwp (by rw[h2];exact hs.mP h3)⟩
  ·cases hwp
theorem Hu{K:ab→Prop}{bl:Array Oper}{gs:List aC}{Q:Exit→Act→World→Prop}(hQ:∀ B a w,K B→bG c B a w→Q .normal a w)(hgs:fC c.P c.n bl bl.toList=some gs)(hd:uq bl.toList gs) :
  ∀ (fuel:Nat) (listed:Array Bool) (A:ab) (a:Act) (w:World),listed.size=bl.size→(∀ i o,bl.toList[i]?=some o→listed.getD i false=true→∀ k∈dJ o,listed.getD k false=true)→(iz listed bl.size).length≤fuel →
   ba c.P c.Y true K (aA (nG gs listed bl.size) A)→bG c A a w→wpAnyIn c.bj 9 c.P .any bl Q fuel listed a w:=by
 obtain ⟨hlen,hat⟩:=ml hgs;have onOf_mem:∀ (o:Oper) (e:Edge),e∈o.after→Region.binds .any e=true→e.on∈dJ o:=fun o e he hb=>by
  simp only[dJ,zx1,List.mem_filter];exact ⟨e,⟨by simpa using he,hb⟩,rfl⟩
 have of_onOf:∀ (o:Oper) (k:Nat),k∈dJ o→∃ e∈o.after,Region.binds .any e=true∧e.on=k:=fun o k hk=>by
  simp only[dJ,zx1,List.mem_filter] at hk;obtain ⟨e,⟨h1,h2⟩,h3⟩:=hk;exact ⟨e,by simpa using h1,h2,h3⟩
 have last:∀ (listed:Array Bool) (A:ab) (a:Act) (w:World),listed.size=bl.size→Region.ready .any bl listed=[]→ba c.P c.Y true K (aA (nG gs listed bl.size) A)→bG c A a w→Q .normal a w:=by
  intro listed A a w hsz hr hwp hs;have hnone:iz listed bl.size=[]:=by
   have all:∀ n,∀ i,i<n→i<bl.size→listed.getD i true=true:=by
    intro n
    induction n with
    |zero=>intro i hi;omega
    |succ n ih =>
     intro i hi his;cases hb:listed.getD i true with
     |true=>rfl
     |false =>
      exfalso
      have ho:bl[i]?=some bl[i]:=Array.getElem?_eq_getElem his;have:i∈Region.ready .any bl listed:=mem_ready.2 ⟨hb,bl[i],ho,fun e he hbd=>by
       have hlt:=hd.ln i bl[i] (by simp) e.on (onOf_mem _ e he hbd);have h1:=ih e.on (by omega) (by omega);have h2:e.on<listed.size:=by omega
       simpa[Array.getD_eq_getD_getElem?,h2] using h1⟩
      rw[hr] at this;cases this
   simp only[iz];refine List.filter_eq_nil_iff.2 fun i hi =>?_;have:=all (i+1) i (by omega) (List.mem_range.1 hi);simp only[this,Bool.not_true,zz4,not_false_eq_true]
  simp only[nG,hnone,zy9,aA] at hwp;cases hwp with
  |done hk=>exact hQ A a w hk hs
 intro fuel
 induction fuel with
 |zero =>
  intro listed A a w hsz hcl hcnt hwp hs;have hnone:iz listed bl.size=[]:=List.length_eq_zero_iff.1 (by omega);have hr:Region.ready .any bl listed=[]:=by
   refine List.eq_nil_iff_forall_not_mem.2 fun i hi =>?_;obtain ⟨h1,o,ho,_⟩:=mem_ready.1 hi;have:i∈iz listed bl.size:=by
    simp only[iz,List.mem_filter,List.mem_range,h1,Bool.not_false,and_true];exact (zy5.1 ho).1
   rw[hnone] at this;cases this
  exact ⟨hr,last listed A a w hsz hr hwp hs⟩
 |succ fuel ih =>
  intro listed A a w hsz hcl hcnt hwp hs;refine ⟨fun hr=>last listed A a w hsz hr hwp hs,fun i hi =>?_⟩;obtain ⟨hun,o,ho,hall⟩:=mem_ready.1 hi;have hin:i<bl.size:=(zy5.1 ho).1;obtain ⟨l1,l2,e1,e2,hl1⟩:=abd hin hsz hun;have hol:bl.toList[i]?=some o:=by simpa using ho
  obtain ⟨g,hgi,hcg⟩:=hat i o hol;have hon:∀ k∈dJ o,listed.getD k false=true:=fun k hk=>by
   obtain ⟨e,h1,h2,h3⟩:=of_onOf o k hk;exact h3▸hall e h1 h2
  have hgd:gs.getD i default=g:=by simp[zz6,hgi]
  have hwp':ba c.P c.Y true K (aA (g::nG gs (listed.setIfInBounds i true) bl.size) A):=by
   simp only[nG,e1,zx4,zz7,hgd] at hwp;simp only[nG,e2,zx4];refine ba.pS (fun j hj =>?_) hwp;obtain ⟨k,hk,rfl⟩:=zx1.1 hj;obtain ⟨hk1,hk2⟩:=hl1 k hk;refine hd.vQ (fun k=>listed.getD k false=true) hcl i o g k hol hgi hon hk1 ?_;have hks:k<listed.size:=by omega
   simp[Array.getD_eq_getD_getElem?,hks] at hk2 ⊢;exact hk2
  unfold wpOpIn;rw[ho];refine Xn hcg hwp' hs fun B a' w' hw hs'=>ih _ B a' w' (by simpa using hsz) ?_ ?_ hw hs'
  ·intro m om hom hm k hk;by_cases hmi:m=i
   ·subst hmi;rw[hol,v6] at hom;subst hom;exact getD_set_true (hon k hk)
   ·rw[getD_set_ne false (Ne.symm hmi)] at hm;exact getD_set_true (hcl m om hom hm k hk)
  ·have:(iz listed bl.size).length=(iz (listed.setIfInBounds i true) bl.size).length+1:=by
    rw[e1,e2];simp;omega
   omega
theorem abc{K:ab→Prop}{bl:Array Oper}{gs:List aC}{Q:Exit→Act→World→Prop}{id:Nat}{A:ab}{a:Act}{w:World}(hm:c.P.follows .mixedOrders=true)(hQ:∀ B a w,K B→bG c B a w→Q .normal a w)(hgs:fC c.P c.n bl bl.toList=some gs)(hd:uq bl.toList gs)
  (hwp:ba c.P c.Y true K (aA gs A)) (hs:bG c A a w):(Code.region id bl true).wpIn c.bj 9 c.P Q a w:=by
 refine wpIn_region_any hm (Hu hQ hgs hd bl.size (Array.replicate bl.size false) A a _ (by simp) ?_ ?_ ?_ ?_)
 ·intro i o _ h
  exfalso
  simp only[Array.getD_eq_getD_getElem?,Array.getElem?_replicate] at h;split at h <;>simp at h
 ·rw[EX];simp
 ·have hl:=(ml hgs).1;simp only[zx6] at hl;simp only[nG,EX];rw[←hl,Zl];exact hwp
 ·obtain ⟨D,E,hs⟩:=hs;exact ⟨D,E,hs.grow (w' := { w with drawn:=w.drawn+1 }) ⟨rfl,rfl,rfl,zz8 _,fun _ _=>rfl⟩ (fun _ _ h=>h) (fun _ _ h _=>h) (fun b o h=>hs.cQ b o h)⟩
end
inductive bh where
 |bW (on:Option (List (List Nat))) (gs:List aC)
 |seq (x y:bh)
 |cond (b:aF) (x y:bh)
 |block (id:Nat) (x:bh)
 |loop (x:bh)
 |exit (id:Nat)
 |ret
 |skip
 |scope (x:bh)
 |label
 |pQ
 |jN (f:aF) (ps:List Nat) (x y:bh)
 deriving Inhabited
def dG(P:Program)(n:Nat):Code→Option bh
 | .region _ bl draw=>match fC P n bl bl.toList with
  |some gs=>if (!draw||P.follows .mixedOrders)=true then some (.bW (bif draw then some (bl.toList.map dJ) else none) gs) else none
  |none=>some .pQ
 | .seq x y=>match dG P n x,dG P n y with
  |some x,some y=>some (.seq x y)
  |_,_=>none
 | .cond b x y=>match aX P 0 b,dG P n x,dG P n y with
  |some b,some x,some y=>some (.cond b x y)
  |_,_,_=>none
 | .block id x=>match dG P n x with
  |some x=>some (.block id x)
  |none=>none
 | .loop x=>match dG P n x with
  |some x=>some (.loop x)
  |none=>none
 | .exit id=>some (.exit id)
 | .ret=>some .ret
 | .skip=>some .skip
 | .scope x=>match dG P n x with
  |some x=>some (.scope x)
  |none=>none
 | .label _=>some .label
 | .rangeFunc f ps x y=>match aX P 0 f,dG P n x,dG P n y with
  |some f,some x,some y=>if (ps.toList.all fun p=>p<n)=true then some (.jN f ps.toList x y) else none
  |_,_,_=>none
 |_=>none
def qz(c:ct)(Q:Exit→ab→Prop):Exit→Act→World→Prop:=fun e a w=>∃ A,Q e A∧bG c A a w
def U(c:ct)(x:bh)(Q:Exit→ab→Prop)(A:ab):Prop :=
 ∀ code,dG c.P c.n code=some x→∀ a w,bG c A a w→code.wpIn c.bj 9 c.P (qz c Q) a w
def cg(k:ab→Prop)(Q:Exit→ab→Prop):Exit→ab→Prop
 | .normal,A=>k A
 |e,A=>Q e A
def iJ(id:Nat)(Q:Exit→ab→Prop):Exit→ab→Prop
 | .exit id',A=>if id'=id then Q .normal A else Q (.exit id') A
 |e,A=>Q e A
section
variable {c:ct} {A:ab} {Q:Exit→ab→Prop}
def Nn(d:Option (List (List Nat)))(gs:List aC)(cl:List Nat):Bool:=match d with
 |none=>true
 |some on=>r9 on gs cl
theorem U.bW{d:Option (List (List Nat))}{gs:List aC}{cl:List Nat}(hd:Nn d gs cl=true)(h:∀ K:ab→Prop,(∀ B,Q .normal B→K B)→ba c.P c.Y d.isSome K (aA gs A)):U c (.bW d gs) Q A:=by
 intro code hc a w hs;cases code <;>simp only[dG] at hc <;>try (first | (cases hc;done) | ((repeat' split at hc) <;>cases hc;done))
 rename_i id bl draw;split at hc
 ·rename_i gs' hgs;split at hc
  case isFalse=>cases hc
  rename_i hok;simp only[v6,bh.bW.injEq] at hc;obtain ⟨rfl,rfl⟩:=hc;cases draw with
  |false=>exact wpIn_region_list (sC (K:=Q .normal) (fun B a w hk hs=>⟨B,hk,hs⟩) bl.toList gs' A a w hgs (h _ fun _ hb=>hb) hs)
  |true =>
   simp only[Bool.not_true,Bool.false_or] at hok;exact abc (K:=Q .normal) hok (fun B a w hk hs=>⟨B,hk,hs⟩) hgs (NL (ml hgs).1 hd) (h _ fun _ hb=>hb) hs
 ·cases hc
theorem U.seq{x y:bh}(h:U c x (cg (fun B=>U c y Q B) Q) A):U c (.seq x y) Q A:=by
 intro code hc a w hs;cases code <;>simp only[dG] at hc <;>try (first | (cases hc;done) | ((repeat' split at hc) <;>cases hc;done))
 rename_i cx cy;split at hc
 ·rename_i x' y' hx hy;simp only[v6,bh.seq.injEq] at hc;obtain ⟨rfl,rfl⟩:=hc;refine wpIn_seq (wpIn_mono (h cx hx a w hs) ?_);rintro e a' w' ⟨B,hq,hs'⟩;cases e <;>simp only[cg,Exit.then] at * <;>first | exact hq cy hy a' w' hs' | exact ⟨B,hq,hs'⟩
 ·cases hc
theorem U.cond{b:aF}{x y:bh}{t:Bool}(hb:af A b=.bool t)(h1:t=true→U c x Q A)(h2:t=false→U c y Q A):U c (.cond b x y) Q A:=by
 intro code hc a w hs;cases code <;>simp only[dG] at hc <;>try (first | (cases hc;done) | ((repeat' split at hc) <;>cases hc;done))
 rename_i cb cx cy;split at hc
 ·rename_i b' x' y' hb' hx hy;simp only[v6,bh.cond.injEq] at hc;obtain ⟨rfl,rfl,rfl⟩:=hc;obtain ⟨D,E,hs'⟩:=hs;have hv:=br hs' hb';rw[hb] at hv;exact wpIn_cond_split (kR hv) (fun ht=>h1 ht cx hx a w ⟨D,E,hs'⟩) (fun ht=>h2 ht cy hy a w ⟨D,E,hs'⟩)
 ·cases hc
theorem U.block{id:Nat}{x:bh}(h:U c x (iJ id Q) A):U c (.block id x) Q A:=by
 intro code hc a w hs;cases code <;>simp only[dG] at hc <;>try (first | (cases hc;done) | ((repeat' split at hc) <;>cases hc;done))
 rename_i id' cx;split at hc
 ·rename_i x' hx;simp only[v6,bh.block.injEq] at hc;obtain ⟨rfl,rfl⟩:=hc;refine wpIn_block (wpIn_mono (h cx hx a w hs) ?_);rintro e a' w' ⟨B,hq,hs'⟩;cases e <;>simp only[iJ,Exit.inBlock] at * <;>first
   |exact ⟨B,hq,hs'⟩
   |(split at hq
     ·rename_i he;rw[if_pos he];exact ⟨B,hq,hs'⟩
     ·rename_i he;rw[if_neg he];exact ⟨B,hq,hs'⟩)
 ·cases hc
theorem U.exit{id:Nat}(h:Q (.exit id) A):U c (.exit id) Q A:=by
 intro code hc a w hs;cases code <;>simp only[dG] at hc <;>try (first | (cases hc;done) | ((repeat' split at hc) <;>cases hc;done))
 simp only[v6,bh.exit.injEq] at hc;subst hc;exact wpIn_exit ⟨A,h,hs⟩
theorem U.ret(h:Q .ret A):U c .ret Q A:=by
 intro code hc a w hs;cases code <;>simp only[dG] at hc <;>try (first | (cases hc;done) | ((repeat' split at hc) <;>cases hc;done))
 exact wpIn_ret ⟨A,h,hs⟩
theorem U.skip(h:Q .normal A):U c .skip Q A:=by
 intro code hc a w hs;cases code <;>simp only[dG] at hc <;>try (first | (cases hc;done) | ((repeat' split at hc) <;>cases hc;done))
 exact wpIn_skip ⟨A,h,hs⟩
theorem AY{p:Nat→Prop}(h:∃ n,p n):∃ n,p n∧∀ m,p m→n≤m:=by
 obtain ⟨n,hn⟩:=h
 induction n using Nat.strongRecOn with
 |_ n ih =>
  by_cases hm:∃ m,m<n∧p m
  ·obtain ⟨m,h1,h2⟩:=hm;exact ih m h1 h2
  ·exact ⟨n,hn,fun m hp=>Nat.le_of_not_lt fun hlt=>hm ⟨m,hlt,hp⟩⟩
open Classical in
noncomputable def least(p:Nat→Prop):Nat:=if h:∃ n,p n then (AY h).choose else 0
theorem Cq{p:Nat→Prop}(h:∃ n,p n):p (least p)∧∀ m,p m→least p≤m:=by
 simp only[least,dif_pos h];exact (AY h).choose_spec
theorem acu{bj:Fence}{N:Nat}{P:Program}{code:Code}{QQ:Exit→Act→World→Prop}(aW:Nat→Act→World→Prop)(round:∀ n a w,aW n a w→code.wpIn bj N P (Exit.then (fun a' w'=>∃ m,m<n∧aW m a' w') QQ) a w) :
  ∀ n a w,aW n a w→(Code.loop code).wpIn bj N P QQ a w:=by
 intro n a w h;refine wpIn_loop (fun a w=>∃ n,aW n a w) (fun a w=>least fun n=>aW n a w) ⟨n,h⟩ ?_;intro a w hI;have hm:=(Cq hI).1;refine wpIn_mono (round _ a w hm) ?_;intro e a' w' hq;cases e <;>simp only[Exit.then] at hq ⊢ <;>try exact hq
 obtain ⟨m,h1,h2⟩:=hq;exact ⟨⟨m,h2⟩,Nat.lt_of_le_of_lt ((Cq ⟨m,h2⟩).2 m h2) h1⟩
def bn(A B:ab):Prop:=∀ (c:ct) (a:Act) (w:World),bG c A a w→bG c B a w
theorem bn.refl(A:ab):bn A A:=fun _ _ _ h=>h
theorem bn.trans{A B C:ab}(h:bn A B)(k:bn B C):bn A C:=fun c a w hs=>k c a w (h c a w hs)
theorem U.sub{x:bh}{B:ab}(hsub:bn A B)(h:U c x Q B):U c x Q A:=fun code hc a w hs=>h code hc a w (hsub c a w hs)
theorem U.mono{x:bh}{Q':Exit→ab→Prop}(h:U c x Q A)(hq:∀ e B,Q e B→Q' e B):U c x Q' A :=
 fun code hc a w hs=>wpIn_mono (h code hc a w hs) fun e a' w' ⟨B,h1,h2⟩=>⟨B,hq e B h1,h2⟩
theorem U.loop{σ:Type}(S:σ→ab)(C:σ→Prop)(m:σ→Nat)(s0:σ){x:bh}(h0:C s0)(hsub:bn A (S s0))
  (round:∀ s,C s→U c x (cg (fun B=>∃ s',C s'∧m s'<m s∧bn B (S s')) Q) (S s)):U c (.loop x) Q A:=by
 intro code hc a w hs;cases code <;>simp only[dG] at hc <;>try (first | (cases hc;done) | ((repeat' split at hc) <;>cases hc;done))
 rename_i cx;split at hc
 ·rename_i x' hx;simp only[v6,bh.loop.injEq] at hc;subst hc;refine acu (fun n a w=>∃ s,C s∧m s=n∧bG c (S s) a w) ?_ (m s0) a w ⟨s0,h0,rfl,hsub c a w hs⟩;rintro n a w ⟨s,hC,rfl,hs⟩;refine wpIn_mono (round s hC cx hx a w hs) ?_;rintro e a' w' ⟨B,hq,hs'⟩;cases e <;>simp only[cg,Exit.then] at * <;>first
   |exact ⟨B,hq,hs'⟩
   |(obtain ⟨s',h1,h2,h3⟩:=hq;exact ⟨m s',h2,s',h1,rfl,h3 c a' w' hs'⟩)
 ·cases hc
end
inductive bp where
 |tmp (t:Nat)
 |cell (a:Nat) (s:Option Nat)
def gj(P:Program):List ResultVar→Option (List bp)
 | []=>some []
 | .tmp t::l=>(gj P l).map (.tmp t :: ·)
 | .cell a t::l=>match fu P t,gj P l with
  |some s,some l=>some (.cell a s::l)
  |_,_=>none
def tQ(A:ab):bp→Option I
 | .tmp t=>bf true A (A.t t)
 | .cell a s=>match b6 A (A.t a) with
  |some x=>if bT s x then bf true A x else none
  |none=>none
def eD(A:ab):List bp→Option (List I)
 | []=>some []
 |r::rs=>match tQ A r,eD A rs with
  |some x,some xs=>some (x::xs)
  |_,_=>none
def kb:List I→I
 | [x]=>x
 |xs=>.tuple xs
def nV(args:List I):ab:=⟨fun t=>args.getD t .undef,fun _=>none⟩
def jr(rs:List bp)(r:I):Exit→ab→Prop
 | .ret,A=>∃ xs,eD A rs=some xs∧kb xs=r
 | .normal,A=>∃ xs,eD A rs=some xs∧kb xs=r
 |_,_=>False
def nW(args:List I)(os:List (Nat×ai)):ab:=⟨fun t=>args.getD t .undef,aG os⟩
theorem xz{P:Program}{n:Nat}{w:World}{D:aJ}{E:aO}{Y:Value→List I→List (Nat×ai)→cd→Prop}{args:List I}{os:List (Nat×ai)}{vs:List Value}(hD:∀ b o,D b o→b<w.heap.size)(ho:iX (fun _=>True) w D E (aG os))
  (hv:aB w D E args vs) (hn:vs.length≤n) (hos:∀ m,aw os m=true→n≤m∧1000000≤m) (hy:mg ⟨P,w,D,n,bU E,E,Y,none,none⟩) :
  aM ⟨P,w,D,n,bU E,E,Y,none,none⟩ (nW args os) { tmps:=vs.toArray++Array.replicate (n-vs.toArray.size) undef,defers:=[] } w D E:=by
 refine ⟨by simp;omega,⟨[],rfl,.nil,fun _ h=>by simp at h⟩,fun t =>?_,eb.refl _ _,fun _ _ h _=>h,hD,fun m =>?_,ho.cG,fun m e h=>.inr ⟨e,h,.refl e⟩,fun m hm =>?_,fun _ _ h=>h,hy,.refl _ _⟩
 ·have key:∀ (args:List I) (vs:List Value) (t:Nat),aB w D E args vs→aQ w D E (args.getD t .undef) (vs.getD t undef):=by
   intro args
   induction args with
   |nil=>intro vs t h;simp only[aB] at h;subst h;simp[aQ]
   |cons x xs ih =>
    intro vs t h;simp only[aB] at h;obtain ⟨v,rest,cs,rfl,h1,h2,h3⟩:=h;cases t with
    |zero=>simpa using fD h1 h2
    |succ t=>simpa using ih rest t h3
  have:=key args vs t hv;have e:(vs.toArray++Array.replicate (n-vs.toArray.size) undef).getD t undef=vs.getD t undef:=by
   simp only[Array.getD_eq_getD_getElem?,zz6];rcases Nat.lt_or_ge t vs.length with h | h
   ·rw[Array.getElem?_append_left (by simpa using h)];simp
   ·rw[Array.getElem?_append_right (by simpa using h),List.getElem?_eq_none h];simp only[Array.getElem?_replicate];split <;>rfl
  simp only[nW];rw[e];exact this
 ·have h:=ho.bx m;simp only[nW];cases hx:aG os m with
  |none=>rw[hx] at h;exact h
  |some x =>
   rw[hx] at h;cases x with
   |box x =>
    obtain ⟨b,cs,T,k1,_,k3⟩:=h;exact ⟨b,cs,T,k1,.inr ⟨m,_,k1,rfl⟩,k3⟩
   |bM T sz es =>
    obtain ⟨aH,k1,k2,k3⟩:=h;refine ⟨aH,k1,k2,?_⟩;cases aH with
    |none=>exact k3
    |some bc =>
     obtain ⟨b,cap⟩:=bc;obtain ⟨cs,pre,rest,_,k4⟩:=k3;exact ⟨cs,pre,rest,.inr ⟨m,_,k1,rfl⟩,k4⟩
   |dL T xs =>
    obtain ⟨aH,k1,k2,k3⟩:=h;refine ⟨aH,k1,k2,?_⟩;cases aH with
    |none=>exact k3
    |some bc =>
     obtain ⟨b,cap⟩:=bc;obtain ⟨cs,rest,_,k4⟩:=k3;exact ⟨cs,rest,.inr ⟨m,_,k1,rfl⟩,k4⟩
   |cz x =>
    obtain ⟨b,k1,_,k3⟩:=h;exact ⟨b,k1,.inr ⟨m,_,k1,rfl⟩,k3⟩
   |b8 ks vs =>
    obtain ⟨b,es,ck,k1,_,k3⟩:=h;exact ⟨b,es,ck,k1,.inr ⟨m,_,k1,rfl⟩,k3⟩
   |it ks vs left cur =>
    obtain ⟨r,b,es,ck,dS,se,la,k1,_,k3⟩:=h;exact ⟨r,b,es,ck,dS,se,la,k1,.inr ⟨m,_,k1,rfl⟩,k3⟩
 ·have h:=ho.bx m;refine hos m ?_;cases hx:aG os m with
  |none=>rw[hx] at h;exact absurd h hm
  |some x=>simp[aw,hx]
def qX(tmps:Array Value):ResultVar→Sem Value
 | .tmp t=>pure (tmps.getD t undef)
 | .cell a t=>do loadVar t (←asAddr (tmps.getD a undef))
theorem abo(fn:Func)(tmps:Array Value):results fn tmps=(do
  let vs ←fn.results.mapM (qX tmps)
  pure (if h:vs.size=1 then vs[0] else .tuple vs)):=by
 unfold results;rfl
def nF(A:ab):bp→Option I
 | .tmp t=>some (A.t t)
 | .cell a s=>match b6 A (A.t a) with
  |some x=>if bT s x then some x else none
  |none=>none
def lQ(A A0:ab)(os:List (Nat×ai)):List bp→List I→Prop
 | [],[]=>True
 |r::rs,y::ys=>(∃ x,nF A r=some x∧((y=x∧x.cn=true∧x.only (aw os)=true)∨bf true A0 x=some y))∧lQ A A0 os rs ys
 |_,_=>False
def ab.ki(A:ab)(os:List (Nat×ai)):ab:=⟨A.t,fun n=>if aw os n then none else A.o n⟩
def iZ(rs:List bp)(post:cd)(A:ab):Prop :=
 ∃ (os:List (Nat×ai)) (xs:List I),(∀ n x,aG os n=some x→A.o n=some x∧x.only (aw os)=true∧x.dO=true)∧lQ A (A.ki os) os rs xs∧post (kb xs) os
def nK(rs:List bp)(post:cd):Exit→ab→Prop
 | .ret,A=>iZ rs post A
 | .normal,A=>iZ rs post A
 |_,_=>False
theorem wU{c:ct}{A:ab}{a:Act}{w:World}{D:aJ}{E:aO}(hs:aM c A a w D E){A0:ab}(hu:dq A0 A){os:List (Nat×ai)}{D':aJ}{E':aO}(hw:gL true A0 D E D')(az:∀ n,aw os n=true→E' n=E n)(hE':∀ n,aw os n=false→E' n=none) :
  ∀ (rs:List ResultVar) (ls:List bp) (xs:List I),gj c.P rs=some ls→lQ A A0 os ls xs→∃ vs:List Value,(rs.mapM (qX a.tmps)).run c.P w=.ok vs w∧aB w D' E' xs vs
 | [],ls,xs,hc,hr=>by
  simp only[gj,v6] at hc;subst hc;cases xs with
  |nil=>exact ⟨[],by simp,by simp[aB]⟩
  |cons x xs=>simp[lQ] at hr
 |r::rs,ls,xs,hc,hr=>by
  have hl:da w D E' w D' E':=⟨hw.cO,fun _ _ _ _ h=>h,fun _ _ _ h=>h,fun _ aH l h=>⟨aH,l,h,zz8 _,fun _=>rfl⟩,fun _ _ h=>h,fun _ _ h=>h,fun _ _ _ _ h=>h⟩
  have fin1:∀ {x y:I} {v:Value},aQ w D E x v→((y=x∧x.cn=true∧x.only (aw os)=true)∨bf true A0 x=some y)→∃ cs,bd y v cs∧ae w D' E' y cs:=by
   intro x y v hv hf;rcases hf with ⟨rfl,h1,h2⟩ | hf
   ·have h3:=aQ.later hl (aQ.dA az h2 hv);cases y <;>simp only[aQ] at h3 <;>first | (simp[I.cn] at h1;done) | exact h3
   ·have h1:aB w D E [x] [v]:=kU [x] [v] (.cons hv .nil) (by
     intro z hz;simp only[List.mem_singleton] at hz;subst hz;cases z <;>simp_all[bf,I.cn])
    have h2:=lA (E':=E') hs hu hw [x] [y] [v] h1 (by simp[bL,hf]);simp only[aB] at h2;obtain ⟨v',rest,cs,e,k1,k2,_⟩:=h2;simp only[zy6] at e;obtain ⟨rfl,_⟩:=e;exact ⟨cs,k1,k2⟩
  cases r with
  |tmp t =>
   simp only[gj,t8] at hc;obtain ⟨ls',hl',rfl⟩:=hc;cases xs with
   |nil=>simp[lQ] at hr
   |cons y ys =>
    simp only[lQ] at hr;obtain ⟨⟨x,h1,h2⟩,h3⟩:=hr;simp only[nF,v6] at h1;subst h1;obtain ⟨vs,k1,k2⟩:=wU hs hu hw az hE' rs ls' ys hl' h3;obtain ⟨cs,k3,k4⟩:=fin1 (hs.dn t) h2;refine ⟨a.tmps.getD t undef::vs,?_,?_⟩
    ·simp only[List.mapM_cons,Sem.run_bind,qX,Sem.run_pure,Result.andThen_ok,k1]
    ·simp only[aB];exact ⟨_,vs,cs,rfl,k3,k4,k2⟩
  |cell ad t =>
   simp only[gj] at hc;split at hc
   ·rename_i s ls' hk hl';simp only[v6] at hc;subst hc;cases xs with
    |nil=>simp[lQ] at hr
    |cons y ys =>
     simp only[lQ] at hr;obtain ⟨⟨x,h1,h2⟩,h3⟩:=hr;obtain ⟨vs,k1,k2⟩:=wU hs hu hw az hE' rs ls' ys hl' h3;simp only[nF] at h1;split at h1
     ·rename_i z hz;split at h1
      ·rename_i hok;simp only[v6] at h1;subst h1;obtain ⟨b,off,cs,q1,q2,q3⟩:=hs.yG (hs.dn ad) hz;obtain ⟨v,q4,q5⟩:=Fe hk hok q2 q3;obtain ⟨cs',k3,k4⟩:=fin1 q5 h2;refine ⟨v::vs,?_,?_⟩
       ·have e:(qX a.tmps (.cell ad t)).run c.P w=.ok v w:=by
         simp only[qX,Sem.run_bind,q1,asAddr,Sem.run_pure,Result.andThen_ok,q4]
        simp only[List.mapM_cons,Sem.run_bind,Sem.run_pure,Result.andThen_ok,k1,e]
       ·simp only[aB];exact ⟨_,vs,cs',rfl,k3,k4,k2⟩
      ·cases h1
     ·cases h1
   ·cases hc
theorem aM.Ao{c:ct}{A:ab}{a:Act}{w:World}{D:aJ}{E:aO}(h:aM c A a w D E)(hb:c.dV=none){B:Nat}{ds:List Deferred}(hd:a.defers = { target:=.collected B,args := #[] } :: ds) :
  w.heap[B]?=some (.deferred (some []))∧aM c A { a with defers:=ds } (w.putObj B (.deferred none)) D E:=by
 have hdf:=h.ef;rw[hb] at hdf;obtain ⟨Bs,h1,h2,h3⟩:=hdf;rw[hd] at h1;cases Bs with
 |nil=>cases h1
 |cons B' Bs =>
  simp only[zz7,zy6,Deferred.mk.injEq,Target.collected.injEq,and_true] at h1;obtain ⟨rfl,rfl⟩:=h1;have hB:=h3 B (by simp);have hlt:B<w.heap.size:=(zy5.1 hB.2).1;have hl:da w D E (w.putObj B (.deferred none)) D E :=
   ⟨fun _ _ h=>h,fun b o v _ hv=>u6 hB.2 rfl hv,fun _ _ _ h=>h,fun _ aH l h=>⟨aH,l,h,zz8 _,fun _=>rfl⟩,fun _ _ h=>h,fun _ _ h=>h,fun b es ck _ hm=>(World.putObj_heap_other (fun e=>by rw[e,hB.2] at hm;cases hm)).trans hm⟩
  have hne:∀ {b:Nat} {cs:Array Value} {T:TypeId},w.heap[b]?=some (.cells cs T (0,0))→(w.putObj B (.deferred none)).heap[b]?=w.heap[b]?:=fun {b cs T} hb =>
   World.putObj_heap_other (fun e=>by rw[e,hB.2] at hb;cases hb)
  refine ⟨hB.2,h.sz,by rw[hb];refine ⟨Bs,rfl,(List.nodup_cons.1 h2).2,fun B2 hB2=>⟨(h3 B2 (by simp[hB2])).1,?_⟩⟩;rw[World.putObj_heap_other (fun e=>(List.nodup_cons.1 h2).1 (by rw[←e];exact hB2))];exact (h3 B2 (by simp[hB2])).2,fun t=>aQ.later hl (h.dn t),h.c8.trans ⟨rfl,rfl,rfl,by simp,fun k hk =>?_⟩,h.cO,fun b o hd=>by have:=h.cQ b o hd;simpa using this,fun n =>?_,h.cG,h.df,h.eO,h.cE,h.fh,h.kl hl⟩
  ·exact World.putObj_heap_other (fun e=>hk (e▸.inl hB.1))
  ·refine (h.bx n).later hl rfl fun e b he hb=>⟨?_,fun _ h=>h⟩
   have hob:=h.bx n;unfold cY at hob;split at hob
   ·rw[hob] at he;cases he
   ·obtain ⟨b',cs,T,k1,_,k3,_⟩:=hob;rw[k1,v6] at he;subst he;simp only[bD.aH,v6] at hb;subst hb;exact World.putObj_heap_other (fun e=>k3.CN (by rw[e];exact hB.2))
   ·obtain ⟨aH,k1,_,k3⟩:=hob;rw[k1,v6] at he;subst he;split at k3
    ·simp[bD.aH] at hb
    ·obtain ⟨cs,pre,rest,_,k5,_⟩:=k3;simp only[bD.aH,v6] at hb;subst hb;exact hne k5
   ·obtain ⟨b',k1,_,k3,k4,_⟩:=hob;rw[k1,v6] at he;subst he;simp only[bD.aH,v6] at hb;subst hb;exact World.putObj_heap_other (fun e=>by rw[e,hB.2] at k3;cases k3;cases k4)
   ·obtain ⟨b',es,ck,k1,_,k3,_⟩:=hob;rw[k1,v6] at he;subst he;cases hb;exact World.putObj_heap_other (fun e=>by rw[e,hB.2] at k3;cases k3)
   ·obtain ⟨r,b',es,ck,dS,se,la,k1,_,k3,_⟩:=hob;rw[k1,v6] at he;subst he;cases hb;exact World.putObj_heap_other (fun e=>by rw[e,hB.2] at k3;cases k3)
   ·obtain ⟨aH,k1,_,k3⟩:=hob;rw[k1,v6] at he;subst he;split at k3
    ·simp[bD.aH] at hb
    ·obtain ⟨cs,m,_,k5,_⟩:=k3;simp only[bD.aH,v6] at hb;subst hb;exact hne k5
def lh(w:World)(D:aJ)(E:aO)(post:cd)(v:Value)(w':World):Prop :=
 ∃ D' E' r os',post r os'∧aQ w' D' E' r v∧iX (fun b=>w.heap.size≤b∨bU E b) w' D' E' (aG os') ∧
  eb (fun b=>w.heap.size≤b∨bU E b) w w'∧(∀ b o,D b o→D' b o)∧(∀ b o,D' b o→b<w'.heap.size)∧(∀ b o,D' b o→b<w.heap.size→¬ bU E b→D b o) ∧
  (∀ n e,E n=some e→aw os' n=true→∃ e',E' n=some e'∧e.fA e')∧fS w D w'
theorem aM.sS{P:Program}{n:Nat}{w:World}{D:aJ}{E:aO}{Y:Value→List I→List (Nat×ai)→cd→Prop}{pf:Option Nat}{dV:Option (List Deferred)}{A:ab}{a:Act}{w':World}{D':aJ}{E':aO}
  (hs:aM ⟨P,w,D,n,bU E,E,Y,pf,dV⟩ A a w' D' E') {os:List (Nat×ai)} (h1:∀ n x,aG os n=some x→A.o n=some x∧x.only (aw os)=true∧x.dO=true) :
  ∃ D2 E2,gL true (A.ki os) D' E' D2∧(∀ n,aw os n=true→E2 n=E' n)∧(∀ n,aw os n=false→E2 n=none)∧iX (fun b=>w.heap.size≤b∨bU E b) w' D2 E2 (aG os) ∧
   eb (fun b=>w.heap.size≤b∨bU E b) w w'∧(∀ b o,D b o→D2 b o)∧(∀ b o,D2 b o→b<w'.heap.size)∧(∀ b o,D2 b o→b<w.heap.size→¬ bU E b→D b o) ∧
   (∀ n e,E n=some e→aw os n=true→∃ e',E2 n=some e'∧e.fA e')∧fS w D w':=by
 obtain ⟨c,hc⟩:∃ c:ct,c=⟨P,w,D,n,bU E,E,Y,pf,dV⟩:=⟨_,rfl⟩
 rw[←hc] at hs;have hM:c.ez=fun b=>w.heap.size≤b∨bU E b:=by rw[hc];rfl
 obtain ⟨E2,hE2⟩:∃ E2:aO,E2=fun n=>if aw os n then E' n else none:=⟨_,rfl⟩
 obtain ⟨D2,hD2⟩:∃ D2:aJ,D2=fun b o=>b<w'.heap.size∧(D' b o∨(¬ bU E2 b∧c.ez b)):=⟨_,rfl⟩
 have e2:∀ n,aw os n=true→E2 n=E' n:=fun n hn=>by rw[hE2];simp only[hn,if_true]
 have oA:∀ n e,E2 n=some e→aw os n=true∧E' n=some e:=fun n e he=>by
  rw[hE2] at he;simp only at he;split at he
  ·exact ⟨by assumption,he⟩
  ·cases he
 have up2:∀ b o,D' b o→D2 b o:=fun b o hd=>by
  rw[hD2];exact ⟨hs.cQ b o hd,.inl hd⟩
 have down:∀ b o,D2 b o→bU E2 b→D' b o:=fun b o hd hb=>by
  rw[hD2] at hd;rcases hd.2 with h | h
  ·exact h
  ·exact absurd hb h.1
 have hu:dq (A.ki os) A:=fun n x hx=>by
  simp only[ab.ki] at hx;split at hx
  ·cases hx
  ·exact hx
 have notOwn:∀ n e b,(A.ki os).o n≠none→E' n=some e→e.aH=some b→¬ bU E2 b:=fun n e b hn he hb ho=>by
  obtain ⟨m,e',k1,k3⟩:=ho;obtain ⟨k1,k2⟩:=oA m e' k1;have:=hs.cG n m e _ b he k2 hb k3;subst this;simp[ab.ki,k1] at hn
 have hw:gL true (A.ki os) D' E' D2:=by
  refine ⟨up2,fun n T sz es b cap hn az o _ =>?_,fun _ n x b aL hn az o _ =>?_,fun _ n ks vs b hn az =>?_⟩
  ·rw[hD2];refine ⟨hs.fy az rfl,.inr ⟨notOwn n _ b (by rw[hn];simp) az rfl,?_⟩⟩;obtain ⟨aH,k1,k2,k3⟩:=hs.bM (hu n _ hn);rw[az] at k1;simp only[v6,bD.rw.injEq,and_true] at k1;subst k1;obtain ⟨_,_,_,k4,_⟩:=k3;exact k4
  ·rw[hD2];refine ⟨hs.fy az rfl,.inr ⟨notOwn n _ b (by rw[hn];simp) az rfl,?_⟩⟩;obtain ⟨b',cs,T,k1,k2,_⟩:=hs.box (hu n _ hn);rw[k1] at az;simp only[v6,bD.aE.injEq] at az;obtain ⟨rfl,_⟩:=az;exact k2
  ·rw[hD2];refine ⟨hs.fy az rfl,.inr ⟨notOwn n _ b (by rw[hn];simp) az rfl,?_⟩⟩;obtain ⟨b',es,ck,k1,k2,_⟩:=hs.map (hu n _ hn);rw[k1] at az;cases az;exact k2
 have hst:fS w D w':=by
  have:=hs.fm;rw[hc] at this;exact this
 refine ⟨D2,E2,hw,e2,fun n hn=>by rw[hE2];simp[hn],⟨fun m =>?_,fun m m' e e' b g1 g2 g3 g4 =>?_⟩,?_,fun b o hd=>up2 b o (hs.cE b o (by rw[hc];exact hd)),fun b o hd=>by rw[hD2] at hd;exact hd.1,fun b o hd hlt hno =>?_,fun m e hm hin =>?_,hst⟩
 ·cases hx:aG os m with
  |none=>simp only[cY];rw[hE2];simp[aw,hx]
  |some x =>
   have hm:aw os m=true:=by simp[aw,hx]
   obtain ⟨k1,k2,k3⟩:=h1 m x hx;have ho:=hs.bx m;rw[k1] at ho;have hl2:da w' D' E2 w' D2 E2:=⟨up2,fun _ _ _ _ h=>h,fun _ _ _ h=>h,fun _ aH l h=>⟨aH,l,h,zz8 _,fun _=>rfl⟩,fun _ _ h=>h,fun _ _ h=>h,fun _ _ _ _ h=>h⟩
   have nD:∀ e b,E' m=some e→e.aH=some b→∀ o,D2 b o→D' b o:=fun e b he hb o hd=>down b o hd ⟨m,e,(e2 m hm).trans he,hb⟩;cases x with
   |bM T sz es =>
    obtain ⟨aH,q1,q2,q3⟩:=ho;refine ⟨aH,(e2 m hm).trans q1,q2,?_⟩;cases aH with
    |none=>exact q3
    |some bc =>
     obtain ⟨b,cap⟩:=bc;obtain ⟨cs,pre,rest,g1,g2,g3,g4,g5,g6,g7,g8⟩:=q3;exact ⟨cs,pre,rest,by rw[←hM];exact g1,g2,g3,aI.later hl2 _ _ (aI.dA e2 _ _ (by simpa[ai.only] using k2) g4),g5,g6,g7,fun o hd=>g8 o (nD _ b q1 rfl o hd)⟩
   |box y =>
    obtain ⟨b',cs,T,q1,q2,q3,q4,q5⟩:=ho;exact ⟨b',cs,T,(e2 m hm).trans q1,by rw[←hM];exact q2,q3,ae.later hl2 _ _ (ae.dA e2 _ _ (by simpa[ai.only] using k2) q4),fun o hd=>q5 o (nD _ b' q1 rfl o hd)⟩
   |cz o =>
    obtain ⟨b',q1,q2,q3,q4,q5⟩:=ho;exact ⟨b',(e2 m hm).trans q1,by rw[←hM];exact q2,q3,q4,fun o hd=>q5 o (nD _ b' q1 rfl o hd)⟩
   |b8 ks vs =>
    obtain ⟨b',es,ck,q1,q2,q3,q4,q5,q6,q7⟩:=ho;simp only[ai.only,zz0] at k2;exact ⟨b',es,ck,(e2 m hm).trans q1,by rw[←hM];exact q2,q3,q4,aB.later hl2 _ _ (aB.dA e2 _ _ k2.1 q5),aB.later hl2 _ _ (aB.dA e2 _ _ k2.2 q6),fun o hd=>q7 o (nD _ b' q1 rfl o hd)⟩
   |it ks vs left cur=>cases k3
   |dL T xs =>
    obtain ⟨aH,q1,q2,q3⟩:=ho;refine ⟨aH,(e2 m hm).trans q1,q2,?_⟩;cases aH with
    |none=>exact q3
    |some bc =>
     obtain ⟨b,cap⟩:=bc;obtain ⟨cs,r,g1,g2,g3,g4,g5,g6,g7⟩:=q3;exact ⟨cs,r,by rw[←hM];exact g1,g2,g3,g4,g5,g6,fun o hd=>g7 o (nD _ b q1 rfl o hd)⟩
 ·exact hs.cG m m' e e' b (oA m e g1).2 (oA m' e' g2).2 g3 g4
 ·rw[←hM];have:=hs.c8;rw[hc] at this ⊢;exact this
 ·rw[hD2] at hd;have hnm:¬ c.ez b:=by
    rw[hM];rintro (h | h);· omega
    ·exact hno h
  rcases hd.2 with h | h
  ·have:=hs.cO b o h hnm;rw[hc] at this;exact this
  ·exact absurd h.2 hnm
 ·rw[e2 m hin];have ho:A.o m≠none:=by
   cases hx:aG os m with
   |none=>simp[aw,hx] at hin
   |some x=>rw[(h1 m x hx).1];simp
  rcases hs.df m e (by rw[hc];exact hm) with h | h
  ·have hob:=hs.bx m;cases hx:A.o m with
   |none=>exact absurd hx ho
   |some x=>rw[hx] at hob;exact absurd h (mI hob)
  ·exact h
theorem aM.sR{P:Program}{n:Nat}{w:World}{D:aJ}{E:aO}{Y:Value→List I→List (Nat×ai)→cd→Prop}{dV:Option (List Deferred)}{rs:List bp}{post:cd}{fn:Func}{A:ab}{a:Act}{w':World}{D':aJ}{E':aO}
  (hs:aM ⟨P,w,D,n,bU E,E,Y,none,dV⟩ A a w' D' E') (hrs:gj P fn.results.toList=some rs) (h:iZ rs post A):∃ v,(results fn a.tmps).run P w'=.ok v w'∧lh w D E post v w':=by
 obtain ⟨os,xs,h1,h2,h3⟩:=h;obtain ⟨D2,E2,hw,e2,e2n,q1,q2,q3,q4,q5,q6⟩:=hs.sS h1;have hu:dq (A.ki os) A:=fun n x hx=>by
  simp only[ab.ki] at hx;split at hx
  ·cases hx
  ·exact hx
 obtain ⟨vs,k1,k2⟩:=wU hs hu (os:=os) (E':=E2) hw e2 e2n fn.results.toList rs xs hrs h2;have hres:(results fn a.tmps).run P w'=.ok (if h:vs.toArray.size=1 then vs.toArray[0] else .tuple vs.toArray) w':=by
  rw[abo,Sem.run_bind,Array.mapM_eq_mapM_toList,Sem.run_map,k1];rfl
 refine ⟨_,hres,D2,E2,kb xs,os,h3,?_,q1,q2,q3,q4,q5,q6⟩
 match xs,vs,k2 with
 | [x],vs,k2 =>
  simp only[aB] at k2;obtain ⟨v,rest,cs,rfl,q1,q2,rfl⟩:=k2;simpa[kb] using fD q1 q2
 | [],vs,k2 =>
  simp only[aB] at k2;subst k2;simp[kb,aQ,aB]
 |x::y::xs,vs,k2 =>
  have hl:vs.length≠1:=by
   simp only[aB] at k2;obtain ⟨v,rest,cs,rfl,_,_,v2,rest2,cs2,rfl,_⟩:=k2;simp
  simp only[kb,aQ];exact ⟨vs,by simp[hl],k2⟩
theorem Cr{P:Program}{n:Nat}{w:World}{D:aJ}{E:aO}{Y:Value→List I→List (Nat×ai)→cd→Prop}{rs:List bp}{post:cd}{fn:Func}{A:ab}{D':aJ}{E':aO}(hrs:gj P fn.results.toList=some rs)(h:iZ rs post A) :
  ∀ (ds:List Deferred) (a:Act) (w':World),a.defers=ds→aM ⟨P,w,D,n,bU E,E,Y,none,none⟩ A a w' D' E'→LeavesInM Fence.wide 9 P fn a.tmps (fun e w'=>∃ v,e=.returned v∧lh w D E post v w') ds .returning w'
 | [],a,w',_,hs=>by
  obtain ⟨v,h1,h2⟩:=hs.sR hrs h;exact ⟨v,h1,v,rfl,h2⟩
 |d::ds,a,w',hd,hs=>by
  obtain ⟨Bs,h1,_⟩:=hs.ef;rw[hd] at h1;cases Bs with
  |nil=>cases h1
  |cons B Bs =>
   simp only[zz7,zy6] at h1;obtain ⟨rfl,rfl⟩:=h1;obtain ⟨k1,k2⟩:=hs.Ao rfl hd;exact ⟨by simp,.inl ⟨B,_,rfl,run_takeDeferred k1,Cr hrs h _ { a with defers:=Bs.map _ } _ rfl k2⟩⟩
theorem pj{w:World}{D:aJ}{E:aO} : ∀ {args:List I} {vs:List Value},aB w D E args vs→vs.length=args.length
 | [],vs,h=>by simp only[aB] at h;subst h;rfl
 |x::xs,vs,h=>by
  simp only[aB] at h;obtain ⟨v,rest,cs,rfl,_,_,h3⟩:=h;simp[pj h3]
def iH(P:Program)(f:FuncId)(Y:Value→List I→List (Nat×ai)→cd→Prop)(args:List I)(os:List (Nat×ai))(post:cd):Prop :=
 dH P f=true∧∀ (w:World) (D:aJ) (E:aO) (vs:List Value),(∀ n,mg ⟨P,w,D,n,bU E,E,Y,none,none⟩)→(∀ b o,D b o→b<w.heap.size)→iX (fun _=>True) w D E (aG os)→aB w D E args vs →
  Calls P f vs.toArray w fun e w'=>∃ v,e=.returned v∧lh w D E post v w'
theorem iH.tm{P:Program}{f:FuncId}{fn:Func}{body:Code}{x:bh}{rs:List bp}{Y:Value→List I→List (Nat×ai)→cd→Prop}{args:List I}{os:List (Nat×ai)}{post:cd}(hf:P.funcs[f]?=some fn)(hb:fn.body=some body)(hcall:dH P f=true)(hc:dG P fn.ntmps body=some x)
  (hrs:gj P fn.results.toList=some rs) (hn:args.length≤fn.ntmps) (hos:∀ m,aw os m=true→fn.ntmps≤m∧1000000≤m) (h:∀ (w:World) (D:aJ) (E:aO),U ⟨P,w,D,fn.ntmps,bU E,E,Y,none,none⟩ x (nK rs post) (nW args os)):iH P f Y args os post:=by
 refine ⟨hcall,fun w D E vs hy hD ho hv =>?_⟩;have hlen:=pj hv;have hsim:=xz (P:=P) (n:=fn.ntmps) (Y:=Y) hD ho hv (by omega) hos (hy fn.ntmps);refine (callsIn_wide (n:=9)).1 (callsIn_of_wp_marks hf hb trivial ?_);refine wpIn_mono (h w D E body hc _ w ⟨D,E,hsim⟩) ?_;rintro e a w' ⟨A,hq,D',E',hs⟩;cases e <;>simp only[nK] at hq <;>first
  |exact Cr hrs hq a.defers a w' rfl hs
  |cases hq
theorem pC{P:Program}{w:World}{D:aJ}{E:aO}{n:Nat}{dV:Option (List Deferred)}(hl:eK P w (bU E)):mg ⟨P,w,D,n,bU E,E,e8,none,dV⟩:=⟨hl,fun _ _ _ _ h=>h.elim⟩
theorem eU.CQ{P:Program}{f:FuncId}{args:List I}{os:List (Nat×ai)}{post:cd}(h:iH P f e8 args os post):eU P f args os post :=
 ⟨h.1,fun w D E vs hl hD ho hv=>(h.2 w D E vs (fun _=>pC hl) hD ho hv).mono fun e w' ⟨v,he,D',E',r,os',k⟩=>⟨v,D',E',r,os',he,k⟩⟩
theorem aK.CP{P:Program}{f:FuncId}{args:List I}{r:I}(h:eU P f args [] (fun r' os'=>r'=r∧os'=[])):aK P f args r:=by
 refine ⟨h.1,fun w D vs hl hD hv =>?_⟩;have hh:iX (fun _=>True) w D cA (aG []):=⟨fun n=>rfl,fun n m e e' b h=>by simp[cA] at h⟩
 refine (h.2 w D cA vs (hl.sT fun b ⟨n,e,h1,_⟩=>by simp[cA] at h1) hD hh hv).mono fun e w' hq =>?_;obtain ⟨v,D',E',r',os',he,⟨h1,h2⟩,k1,k2,k3,k4,k5,k6,_⟩:=hq;subst h1 h2;refine ⟨v,D',he,?_,?_,k5,fun b o hd hlt=>k6 b o hd hlt fun ⟨n,e,h,_⟩=>by simp[cA] at h⟩
 ·have:E'=cA:=by funext n;exact k2.bx n
  rw[←this];exact k1
 ·exact k3.HX fun k hk hm=>by
   rcases hm with hm | ⟨n,e,h,_⟩
   ·omega
   ·simp[cA] at h
theorem abM(A:ab):A.ki []=A:=rfl
theorem E5{A:ab} : ∀ {rs:List bp} {xs:List I},eD A rs=some xs→lQ A (A.ki []) [] rs xs
 | [],xs,h=>by simp only[eD,v6] at h;subst h;trivial
 |r::rs,xs,h=>by
  simp only[eD] at h;split at h
  ·rename_i x xs' h1 h2;simp only[v6] at h;subst h;refine ⟨?_,E5 h2⟩;rw[abM];cases r with
   |tmp t=>exact ⟨_,rfl,.inr h1⟩
   |cell a s =>
    simp only[tQ,nF] at h1 ⊢;split at h1
    ·rename_i y hy;split at h1
     ·rename_i hok;exact ⟨y,by simp[hok],.inr h1⟩
     ·cases h1
    ·cases h1
  ·cases h
theorem abp{rs:List bp}{r:I}{e:Exit}{A:ab}(h:jr rs r e A):nK rs (fun r' os'=>r'=r∧os'=[]) e A:=by
 cases e <;>simp only[jr] at h <;>first
  |exact h.elim
  |(obtain ⟨xs,h1,h2⟩:=h
    exact ⟨[],xs,fun n x hx=>by simp[aG] at hx,E5 h1,h2,rfl⟩)
theorem aK.tm{P:Program}{f:FuncId}{fn:Func}{body:Code}{x:bh}{rs:List bp}{args:List I}{r:I}(hf:P.funcs[f]?=some fn)(hb:fn.body=some body)(hcall:dH P f=true)(hc:dG P fn.ntmps body=some x)
  (hrs:gj P fn.results.toList=some rs) (hn:args.length≤fn.ntmps) (h:∀ (w:World) (D:aJ) (E:aO),U ⟨P,w,D,fn.ntmps,bU E,E,e8,none,none⟩ x (jr rs r) (nV args)):aK P f args r:=by
 refine aK.CP (eU.CQ (iH.tm hf hb hcall hc hrs hn (fun m hm=>by simp[aw,aG] at hm) fun w D E =>?_));exact (h w D E).mono fun e B hq=>abp hq
end Go.Abs
