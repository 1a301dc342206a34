/-
  A part of the proof that the law RollJoins returns true for every input; five variables of Go's library start as the text lays them (the card ties them); conditions: none beyond the statement's own. (part 2 of 6)
-/
import Derived.Lib.AppendZerosOnto
import Derived.Lib.Strings
import Derived.Maps.RangeRun
import Derived.Laws.MakeOwn
import Derived.Laws.BytesArg
import Derived.Lib.ConvBytes
import Derived.Lib.AtoiErrMem
import Derived.Orders
import Derived.OrdersIn
import Derived.Test.YtoffnnjbplgnaaaGreatDoorNea
set_option linter.unusedSimpArgs false
set_option linter.unusedVariables false
set_option maxHeartbeats 16000000
set_option maxRecDepth 100000
namespace Go.Abs
open Go Go.RowKit
section
variable {c:cn} {A:ab} {o:Oper} {x:I}
theorem lD{P:Program}{w:World}(k:IntKind)(n:Int)(y:Nat)(code:BoundsCode)(g1:0≤n)(g2:n≤y):(Instr.sliceBound (.int k n) y code).run P w=.ok n.toNat w:=by
 simp[Instr.sliceBound,asIntOf,g1,g2]
theorem VF{t e:TypeId}{y:Operand}{y':aF}{lo hi mx:Option Operand}{lo' hi' mx':Option aF}{i:TypeInfo}{fs:List I}{n:Nat}{p:List Nat}{sz l0 k:Nat}(ho:o.op=.slice t y lo hi mx)(hu:c.P.underlying t=some (.slice e))(hi0:c.P.info? e=some i)
  (hy:aU c.P 0 y=some y') (h1:gY c.P lo=some lo') (h2:gY c.P hi=some hi') (h3:gY c.P mx=some mx') (hmh:mx'.isSome=true→hi'.isSome=true) (hsz:sz=c.P.cellsOf e)
  (h:af A y'=.view n p sz l0 k) (hd:bZ A (.ptr n p)=some (.agg fs)) (hx:iJ n p sz l0 k fs.length (lo'.map (af A)) (hi'.map (af A)) (mx'.map (af A))=some x):cI c A o x :=
 .same fun a w D E hs=>by
  have opt:∀ {q:Option Operand} {q':Option aF},gY c.P q=some q'→gQ w D E (q'.map (af A)) (q.map a.eval):=by
   intro q q' hq;cases q with
   |none=>simp only[gY,v6] at hq;subst hq;simp[gQ]
   |some z =>
    simp only[gY,t7] at hq;obtain ⟨z',hz,rfl⟩:=hq;simpa[gQ] using br hs hz
  have h0:=br hs hy;rw[h] at h0;obtain ⟨yy,b,cs,T,off,c1,c2,c3,k1,k2,k3,k4,k5,k6,k7,k8,k9,k10,k11,k12,hval⟩:=hs.view h0 hd;have hmh':(mx'.map (af A)).isSome=true→(hi'.map (af A)).isSome=true:=by simpa using hmh
  unfold iJ at hx;split at hx
  ·cases hx
  rename_i hh hbh;split at hx
  ·cases hx
  rename_i ll hbl;have d1:=qb (opt h1) hbl;have d2:=qb (opt h2) hbh;have o3:=opt h3;split at hx
  ·rename_i hmx;split at hx
   case isFalse=>cases hx
   rename_i hb;obtain ⟨b1,b2,b3⟩:=hb;have hvmx:mx.map a.eval=none:=by
    rw[hmx] at o3;cases hq:mx.map a.eval with
    |none=>rfl
    |some v=>rw[hq] at o3;simp[gQ] at o3
   have hsb:(Instr.sliceBounds true k (fs.length-l0) (lo.map a.eval) (hi.map a.eval) (mx.map a.eval)).run c.P w=.ok (ll.toNat,hh.toNat,fs.length-l0) w:=by
    rw[hvmx];rcases d2 with ⟨_,g2,hm2⟩ | ⟨_,q2,g2⟩ <;>rcases d1 with ⟨_,g1,hm1⟩ | ⟨_,q1,g1⟩ <;>rw[g1,g2]
    ·subst hm1 hm2;simp[Instr.sliceBounds]
    ·subst hm2;simp[Instr.sliceBounds,lD q1 ll k _ b1 (by omega)]
    ·subst hm1;simp[Instr.sliceBounds,lD q2 hh (fs.length-l0) _ (by omega) (by omega)]
    ·simp[Instr.sliceBounds,lD q2 hh (fs.length-l0) _ (by omega) (by omega),lD q1 ll hh.toNat _ b1 (by omega)]
   have hrun:(Instr.sliceAt t (a.eval y) (lo.map a.eval) (hi.map a.eval) (mx.map a.eval)).run c.P w =
     .ok (.slice (if fs.length-l0=ll.toNat then some ⟨b,off+l0*sz,none⟩ else some ⟨b,off+l0*sz+ll.toNat*c.P.cellsOf e,none⟩) (hh.toNat-ll.toNat) (fs.length-l0-ll.toNat)) w:=by
    rw[hval];simp only[Instr.sliceAt,Instr.slice,Sem.run_bind,run_underlying hu,Result.andThen_ok,hsb,gA hi0,Sem.run_pure,Z8,lM]
   refine ⟨_,by simp only[execOp,ho,Sem.run_bind,hrun];rfl,?_⟩;split at hx
   ·rename_i hl;simp only[v6] at hx;subst hx;have e1:fs.length-l0=ll.toNat:=by omega
    have e2:hh.toNat-ll.toNat=0:=by omega
    rw[if_pos e1,e2,e1,Nat.sub_self];exact ⟨_,by simp[ba,I.isAgg];rfl,by simp only[ae];exact ⟨_,rfl⟩⟩
   ·rename_i hl;simp only[v6] at hx;subst hx;rw[if_neg (by omega)];refine ⟨_,by simp[ba,I.isAgg];rfl,?_⟩;simp only[ae];refine ⟨b,yy.aK,off,I.cF fs,k2,k5,lE p yy _ k4,?_,?_,?_,?_⟩
    ·rw[I.cG,Z2,Nat.add_mul,Nat.add_assoc,hsz,Nat.sub_sub]
    ·rw[I.cG,Z2];exact k12
    ·rw[I.cG,Z2];omega
    ·rw[I.cG];intro s hs';obtain ⟨f,hf,rfl⟩:=zy3.1 hs';rw[I.ik];exact k10 f hf
  ·rename_i kk m hmx;split at hx
   case isFalse=>cases hx
   rename_i hb;obtain ⟨b1,b2,b3,b4⟩:=hb;simp only[v6] at hx;subst hx;obtain ⟨vmx,hvmx,hvm⟩:∃ v,mx.map a.eval=some v∧v=.int kk m:=by
    rw[hmx] at o3;cases hq:mx.map a.eval with
    |none=>rw[hq] at o3;simp[gQ] at o3
    |some v=>rw[hq] at o3;simp only[gQ] at o3;exact ⟨v,rfl,(dk o3).1⟩
   subst hvm;have hsb:∃ r,(Instr.sliceBounds true k (fs.length-l0) (lo.map a.eval) (hi.map a.eval) (mx.map a.eval)).run c.P w=.ok r w:=by
    rw[hvmx];rcases d2 with ⟨g0,g2,hm2⟩ | ⟨_,q2,g2⟩
    ·rw[hmx,g0] at hmh';simp at hmh'
    ·rcases d1 with ⟨_,g1,hm1⟩ | ⟨_,q1,g1⟩ <;>rw[g1,g2]
     ·exact ⟨_,by simp[Instr.sliceBounds,lD kk m (fs.length-l0) _ (by omega) b4,lD q2 hh m.toNat _ (by omega) (by omega)];rfl⟩
     ·exact ⟨_,by simp[Instr.sliceBounds,lD kk m (fs.length-l0) _ (by omega) b4,lD q2 hh m.toNat _ (by omega) (by omega),lD q1 ll hh.toNat _ b1 (by omega)];rfl⟩
   obtain ⟨⟨r1,iF,sQ⟩,hsb⟩:=hsb;have hrun:∃ v,(Instr.sliceAt t (a.eval y) (lo.map a.eval) (hi.map a.eval) (mx.map a.eval)).run c.P w=.ok v w:=by
    rw[hval];exact ⟨_,by simp only[Instr.sliceAt,Instr.slice,Sem.run_bind,run_underlying hu,Result.andThen_ok,hsb,gA hi0,Sem.run_pure,Z8];rfl⟩
   obtain ⟨v,hrun⟩:=hrun;exact ⟨v,by simp only[execOp,ho,Sem.run_bind,hrun];rfl,by simp[aR]⟩
  ·cases hx
theorem Vq{t e:TypeId}{y z:Operand}{y' z':aF}{i:TypeInfo}{fs:List I}{n:Nat}{p:List Nat}{sz lo k:Nat}{kk:IntKind}{j:Int}(ho:o.op=.indexAddr t y z)(hu:c.P.underlying t=some (.slice e))(hi:c.P.info? e=some i)
  (hy:aU c.P 0 y=some y') (hz:aU c.P 0 z=some z') (hsz:sz=c.P.cellsOf e) (h:af A y'=.view n p sz lo k) (hd:bZ A (.ptr n p)=some (.agg fs)) (h':af A z'=.int kk j) (hj:0≤j∧j<k):cI c A o (.ptr n (p++[lo+j.toNat])) :=
 .same fun a w D E hs=>by
  have h0:=br hs hy;rw[h] at h0;have h1':=br hs hz;rw[h'] at h1';obtain ⟨yy,b,cs,T,off,c1,c2,c3,k1,k2,k3,k4,k5,k6,k7,k8,k9,k10,k11,k12,hval⟩:=hs.view h0 hd;refine ⟨.pointer (some ⟨b,off+lo*sz+j.toNat*c.P.cellsOf e,none⟩),by simp only[execOp,ho,hval,(dk h1').1,Sem.run_bind,wk hu hi hj];rfl,?_⟩;refine ⟨_,by simp[ba,I.isAgg];rfl,?_⟩;simp only[ae];refine ⟨b,yy.aK,off+(lo+j.toNat)*sz,k2,?_,by rw[Nat.add_mul,←Nat.add_assoc,hsz]⟩;have hl:lo+j.toNat<fs.length:=by omega
  rw[bS.sE p yy.aK off (lo+j.toNat) _ k5 (lE p yy _ k4) (by rw[I.cG];simpa using hl),I.cG,←List.map_take,←I.cG,I.lF,np fs _ k10 (by omega)]
theorem u6{ty:TypeId}{y:Operand}{y':aF}{n:Nat}{e:TypeId}(ho:o.op=.call { callee:=.builtin .cap,args := #[y],argTypes := #[ty] })(hu:c.P.underlying ty=some (.slice e))
  (hy:aU c.P ty y=some y') (h:∀ a w D E,aL c A a w D E→∀ v,aR w D E (af A y') v→n≤maxLen∧∃ ad l,v=.slice ad l n):cI c A o (.int .i64 n) :=
 .same fun a w D E hs=>by
  obtain ⟨h0,ad,l,hv⟩:=h a w D E hs _ (br hs hy);exact ⟨.int .i64 n,by simp[execOp,ho,resolve,invoke,builtin,Builtin.cap_,run_underlying hu,hv,goInt],hU (vu h0)⟩
theorem Vd{t e:TypeId}{i:TypeInfo}(ho:o.op=.buildSlice t 0 #[])(hu:c.P.underlying t=some (.slice e))(hi:c.P.info? e=some i):cI c A o (.c0 (c.P.cellsOf e)):=by
 intro a w D E hs;have hs':=hs.newRow (.cells #[] e);refine ⟨.slice (some ⟨w.heap.size,0,none⟩) 0 0,_,_,?_,hs',⟨_,by simp[ba,I.isAgg];rfl,by simp only[ae];exact ⟨_,rfl⟩⟩⟩;simp[execOp,ho,Instr.buildSlice,run_underlying hu,gA hi,newRow,Instr.fill,show (Array.range 0) = #[] from rfl]
theorem WV{neg:Bool}{t e:TypeId}{y z:Operand}{y':aF}{yt:TypeId}{s:Nat}(ho:o.op=.binOp (if neg then .neq else .eql) t y z yt)(hu:c.P.underlying t=some (.slice e))(hy:aU c.P 0 y=some y')(hz:aU c.P 0 z=some (.c (.nils s)))
  (h:∃ sz,af A y'=.slice sz []∨af A y'=.c0 sz) {a:Act} {w:World} {D:aJ} {E:aN} (hs:aL c A a w D E):∃ b,(execOp a.eval o).run c.P w=.ok (.value (.bool b)) w:=by
 have h0:=br hs hy;have h1:aR w D E (.nils s) (a.eval z):=br hs hz;have hv:∃ ad cp,a.eval y=.slice ad 0 cp:=by
  obtain ⟨sz,h | h⟩:=h <;>rw[h] at h0
  ·obtain ⟨ad,cap,e1,_⟩:=kH h0;exact ⟨ad,cap,by simpa using e1⟩
  ·obtain ⟨cs,q1,q2⟩:=h0;simp only[ae] at q2;obtain ⟨ad,q2⟩:=q2;exact ⟨ad,0,by simpa[ba,I.isAgg,q2] using q1.symm⟩
 obtain ⟨ad,cp,hyv⟩:=hv;have hv:a.eval z=.slice none 0 0:=by
  obtain ⟨cs,q1,q2⟩:=h1;simp only[ae] at q2;simpa[ba,I.isAgg,q2] using q1.symm
 have he:∀ d,(Op.equalIn (d+1) t (.slice ad 0 cp) (.slice none 0 0)).run c.P w=.ok ad.isNone w:=fun d=>by
  cases ad <;>simp[Op.equalIn,run_underlying hu]
 refine ⟨if neg then !ad.isNone else ad.isNone,?_⟩;cases neg <;>simp only[execOp,ho,hyv,hv,if_true,Z4,if_false,Sem.run_bind,eqGuard] <;>simp[binOp,Op.equal,Op.maxDepth,he]
def ij(y:I)(p:List Nat)(j:Nat)(fs ys:List I):I:=y.dy p (.agg (fs.take j++(ys++fs.drop (j+ys.length))))
theorem L3{t e:TypeId}{y:Operand}{y':aF}{z:I}{n:Nat}{p:List Nat}{lo k:Nat}{b:I}{fs:List I}(ho:o.op=.call { callee:=.builtin .clear,args := #[y],argTypes := #[t] })(hu:c.P.underlying t=some (.slice e))(hy:aU c.P t y=some y')
  (hz:fu c.P e=some z) (hv:af A y'=.view n p (c.P.cellsOf e) lo k) (hn:A.o n=some (.box b)) (hat:b.at p=some (.agg fs)) (hsh:I.cF (List.replicate k z)=I.cF ((fs.drop lo).take k)) (hd:o.dst=none) :
  gn c A o (A.aS n (.box (ij b p lo fs (List.replicate k z)))):=by
 intro a w D E hs;obtain ⟨i,zv,hi,hzv,hzr⟩:=kN hz;have h0:=br hs hy;rw[hv] at h0;have hx:bZ A (.ptr n p)=some (.agg fs):=by simp only[bZ,hn,hat]
 obtain ⟨yy,bk,cs,T,off,c1,c2,c3,k1,k2,k3,k4,k5,k6,k7,k8,k9,k10,k11,k12,hval⟩:=hs.view h0 hx;rw[hn] at k1;simp only[v6,ai.box.injEq] at k1;subst k1;have hr:aH w D E (List.replicate k z) (Builtin.zeroCells zv.cells k).toList:=by
  rw[tE];exact qf (hzr w D E) k
 obtain ⟨w',h1,h2⟩:=hs.ij (j:=lo) (ys:=List.replicate k z) hn k2 k3 k4 k5 k6 k7 k8 k9 k10 hr (by simpa using k11) (by simpa using hsh) c.P;cases k with
 |zero =>
  refine ⟨w,.inl ⟨.tuple #[],?_,D,E,?_⟩⟩
  ·simp[execOp,ho,resolve,invoke,builtin,Builtin.clear_,run_underlying hu,hval]
  ·rw[hd];have:ij b p lo fs (List.replicate 0 z)=b.dy p (.agg fs):=by simp[ij]
   have hw:w'=w:=by
    simp[Builtin.zeroCells,storeCells] at h1;exact h1.symm
   rw[hw] at h2;exact h2
 |succ k =>
  refine ⟨w',.inl ⟨.tuple #[],?_,D,E,?_⟩⟩
  ·simp[execOp,ho,resolve,invoke,builtin,Builtin.clear_,run_underlying hu,hval,zeroValue,typeInfo,hi,hzv,h1]
  ·rw[hd];exact h2
theorem D0{w:World}{D:aJ}{E:aN} : ∀ l:List UInt8,aH w D E (l.map fun b=>I.int .u8 b.toNat) (l.map fun b=>Value.int .u8 b.toNat)
 | []=>rfl
 |b::l=>by
  simp only[Z3,aH];refine ⟨[.int .u8 b.toNat],_,rfl,?_,D0 l⟩;simp only[ae,true_and];have:=b.toNat_lt;simp[IntKind.min,IntKind.max,IntKind.bits,IntKind.signed];omega
theorem aL.ET{a:Act}{w:World}{D:aJ}{E:aN}(hsim:aL c A a w D E){sz:Nat}{x:I}{v:Value}{ys:List I}(hv:aR w D E x v)(hs:j2 A sz x=some ys) :
  ∃ news:List Value,aH w D E ys news∧(∀ y∈ys,y.size=sz)∧ys.length≤maxLen∧(∀ P:Program,(Builtin.lenOf v).run P w=.ok ys.length w)∧∀ (P:Program) (m:Nat) (d2 rest:List Value),m≤ys.length→news=d2++rest→d2.length=m*sz→(Builtin.firstCells sz m v).run P w=.ok d2.toArray w:=by
 unfold j2 at hs;split at hs
 ·rename_i s;split at hs
  case isFalse=>cases hs
  rename_i h1;subst h1;simp only[v6] at hs;subst hs;obtain ⟨rfl,hsz⟩:=fS hv;refine ⟨s.data.toList.map fun b=>.int .u8 b.toNat,D0 _,?_,by simpa using hsz,fun P=>by simp[Builtin.lenOf],fun P m d2 rest hm e hl =>?_⟩
  ·intro y hy;obtain ⟨b,_,rfl⟩:=zy3.1 hy;simp[I.size]
  ·have e2:d2=(s.data.toList.map fun b=>Value.int .u8 b.toNat).take m:=by rw[e,List.take_left' (by omega)]
   have e3:=Lib.extract_data s 0 m;simp only[Builtin.firstCells,Sem.run_pure]
   congr 1
   apply Array.ext';rw[e2,Array.toList_map,e3];simp
 ·obtain ⟨ad,cp,news,s1,s2,s3,s4,s5,s6⟩:=hsim.lI hv hs;refine ⟨news,s4,s5,by omega,fun P=>by rw[s1];simp[Builtin.lenOf],fun P m d2 rest hm e hl =>?_⟩;rw[s1];by_cases hm0:m=0
  ·have:d2=[]:=zx2 (by rw[hl,hm0];simp);subst this;cases ad with
   |none=>exact run_firstCells_none _ _ _ _ _
   |some ad=>exact run_firstCells_some w sz m ad ys.length cp [] (by simp[hm0]) (by simp)
  ·obtain ⟨b2,o2,rfl,hr⟩:=s6 (fun h=>by rw[h] at hm;simp at hm;omega);refine run_firstCells_some w sz m _ ys.length cp d2 hl fun j v hj =>?_;rw[Addr.add_lit];refine hr j v ?_;rw[e,zz8 (Z6.1 hj).1];exact hj
theorem L4{t t' e:TypeId}{y x:Operand}{y' x':aF}{n:Nat}{p:List Nat}{lo k m:Nat}{b:I}{fs ys:List I}(ho:o.op=.call { callee:=.builtin .copy,args := #[y,x],argTypes := #[t,t'] })(hu:c.P.underlying t=some (.slice e))(hi:(c.P.info? e).isSome=true)
  (hy:aU c.P t y=some y') (hx:aU c.P t' x=some x') (hv:af A y'=.view n p (c.P.cellsOf e) lo k) (hn:A.o n=some (.box b)) (hat:b.at p=some (.agg fs)) (hs:j2 A (c.P.cellsOf e) (af A x')=some ys) (hm:m=min ys.length k)
  (hsh:I.cF (ys.take m)=I.cF ((fs.drop lo).take m)) (hdn:∀ k,o.dst=some k→k<c.n) :
  gn c A o ((A.aS n (.box (ij b p lo fs (ys.take m)))).aP o.dst (.int .i64 m)):=by
 intro a w D E hsim;obtain ⟨i,hi⟩:=zz7.1 hi;have h0:=br hsim hy;rw[hv] at h0;have hxx:bZ A (.ptr n p)=some (.agg fs):=by simp only[bZ,hn,hat]
 obtain ⟨yy,bk,cs,T,off,c1,c2,c3,k1,k2,k3,k4,k5,k6,k7,k8,k9,k10,k11,k12,hval⟩:=hsim.view h0 hxx;rw[hn] at k1;simp only[v6,ai.box.injEq] at k1;subst k1;obtain ⟨news,s4,s5,s3,s1,s6⟩:=hsim.ET (br hsim hx) hs;have hmy:m≤ys.length:=by omega
 have hci:c.P.cellsOf e=i.size:=by simp[Program.cellsOf,hi]
 obtain ⟨d1,d2,d3,e1,e2,e3,e4⟩:=sV s4 s5 0 m (by omega);simp only[Nat.zero_mul,List.drop_zero] at e2 e3;have e2':d1=[]:=zx2 e2;subst e2';simp only[zz3] at e1;have hlen:(ys.take m).length=m:=by rw[Z9];omega
 have hd2:d2.length=m*i.size:=by rw[aH.length _ _ e3,I.gj (sz:=c.P.cellsOf e) _ (fun y hy=>s5 y (List.mem_of_mem_take hy)),hlen,hci]
 obtain ⟨w',h1,h2⟩:=hsim.ij (j:=lo) (ys:=ys.take m) hn k2 k3 k4 k5 k6 k7 k8 k9 k10 e3 (by rw[hlen];omega) (by rw[hlen];exact hsh) c.P;have hf:=s6 c.P m d2 d3 hmy e1 (by rw[hd2,hci]);have h63:m≤maxLen:=by omega
 refine ⟨w',.inl ⟨.int .i64 m,?_,D,E,h2.aP hdn (hU (vu h63))⟩⟩;have hmin:Nat.min ys.length k=m:=hm.symm;have hlo:=s1 c.P;simp only[execOp,ho,resolve,invoke,builtin,Sem.run_bind,Sem.run_pure,Result.andThen_ok,List.map_toArray,Z3,zz6,hval];simp[Builtin.copy_,run_underlying hu,hlo,hmin,gA hi,hf,h1,goInt]
theorem L5{t t' e:TypeId}{y x:Operand}{y' x':aF}{z0:Nat}{ys:List I}(ho:o.op=.call { callee:=.builtin .copy,args := #[y,x],argTypes := #[t,t'] })(hu:c.P.underlying t=some (.slice e))(hi:(c.P.info? e).isSome=true)
  (hy:aU c.P t y=some y') (hx:aU c.P t' x=some x') (hv:af A y'=.c0 z0) (hs:j2 A (c.P.cellsOf e) (af A x')=some ys) (hdn:∀ k,o.dst=some k→k<c.n) :
  gn c A o (A.aP o.dst (.int .i64 0)):=by
 intro a w D E hsim;obtain ⟨i,hi⟩:=zz7.1 hi;have h0:=br hsim hy;rw[hv] at h0;obtain ⟨cs,q1,q2⟩:=h0;simp only[ae] at q2;obtain ⟨ad,q2⟩:=q2;have hval:a.eval y=.slice ad 0 0:=by simpa[ba,I.isAgg,q2] using q1.symm
 obtain ⟨news,s4,s5,s3,s1,s6⟩:=hsim.ET (br hsim hx) hs;have hf:=s6 c.P 0 [] news (by omega) (by simp) (by simp);have hlo:=s1 c.P;refine ⟨w,.inl ⟨.int .i64 0,?_,D,E,hsim.aP hdn (hU ⟨by decide,by decide⟩)⟩⟩;have hmin:Nat.min ys.length 0=0:=Nat.min_eq_right (by omega);simp only[execOp,ho,resolve,invoke,builtin,Sem.run_bind,Sem.run_pure,Result.andThen_ok,List.map_toArray,Z3,zz6,hval];cases ad <;>simp[Builtin.copy_,run_underlying hu,hlo,gA hi,hf,goInt,storeCells]
theorem nK{a:Act}{w:World}{D:aJ}{E:aN}(hs:aL c A a w D E){sz:Nat}{x:I}{v:Value}{es:List I}(hv:aR w D E x v)(he:cT A sz x=some es) :
  ∃ ad cp olds,v=.slice ad es.length cp∧es.length≤cp∧cp≤maxLen∧aH w D E es olds∧(∀ y∈es,y.size=sz)∧∀ (P:Program) (w':World),(∀ p u,w.cell? p=some u→w'.cell? p=some u)→(Builtin.firstCells sz es.length v).run P w'=.ok olds.toArray w':=by
 obtain ⟨ad,cp,news,s1,s2,s3,s4,s5,s6⟩:=hs.lI hv he;refine ⟨ad,cp,news,s1,s2,s3,s4,s5,fun P w' hw =>?_⟩;have hl:news.length=es.length*sz:=by rw[aH.length _ _ s4,I.gj _ s5]
 rw[s1];by_cases h0:es=[]
 ·subst h0;have:news=[]:=zx2 (by rw[hl];simp);subst this;cases ad with
  |none=>exact run_firstCells_none _ _ _ _ _
  |some ad=>exact run_firstCells_some w' sz _ ad _ cp [] (by simp) (by simp)
 ·obtain ⟨b,o',rfl,hr⟩:=s6 h0;exact run_firstCells_some w' sz _ _ _ cp news hl fun j v hj=>by rw[Addr.add_lit];exact hw _ _ (hr j v hj)
theorem GH{t e:TypeId}{s x:Operand}{s' x':aF}{es ys:List I}{z:I}{d:Nat}(ho:o.op=.call { callee:=.builtin .append,args := #[s,x],argTypes := #[t,t] })(hu:c.P.underlying t=some (.slice e))(hs':aU c.P t s=some s')(hx':aU c.P t x=some x')
  (hz:fu c.P e=some z) (hzs:z.size=c.P.cellsOf e) (hse:cT A (c.P.cellsOf e) (af A s')=some es) (hsx:cT A (c.P.cellsOf e) (af A x')=some ys) (hby:(es.length+ys.length)*c.P.bytesOf e≤140737488355328)
  (hd:o.dst=some d) (hdn:d<c.n) (hf:A.o d=none) (hne:ys≠[]) {a:Act} {w:World} {D:aJ} {E:aN} (hsim:aL c A a w D E) (hfull:∀ ad l cp,a.eval s=.slice ad l cp→cp<l+ys.length) (hml:es.length+ys.length≤maxLen) :
  ∃ v w' m,(execOp a.eval o).run c.P w=.ok (.value v) w'∧es.length+ys.length+m≤maxLen ∧
   bC c ((A.aS d (.box (.agg (es++(ys++List.replicate m z))))).aP o.dst (.view d [] (c.P.cellsOf e) 0 (es.length+ys.length))) (a.put o.dst v) w':=by
 obtain ⟨i,zv,hi,hzv,hzr⟩:=kN hz;have hci:c.P.cellsOf e=i.size:=by simp[Program.cellsOf,hi]
 have hbi:c.P.bytesOf e=i.bytes:=by simp[Program.bytesOf,hi]
 obtain ⟨ad1,cp1,olds,s1,s2,s3,s4,s5,s6⟩:=nK hsim (br hsim hs') hse;obtain ⟨ad2,cp2,news,t1,t2,t3,t4,t5,t6⟩:=nK hsim (br hsim hx') hsx;have hlt:=hfull _ _ _ s1;obtain ⟨m,hm⟩:∃ m,m=grownCap w (es.length+ys.length) cp1 e-(es.length+ys.length):=⟨_,rfl⟩
 have hge:=grownCap_ge w (es.length+ys.length) cp1 e;have hle:=grownCap_le_maxLen w (es.length+ys.length) cp1 e hml;obtain ⟨cells,hcells⟩:∃ cells:Array Value,cells=olds.toArray++news.toArray++Builtin.zeroCells zv.cells m:=⟨_,rfl⟩
 have hrun:(Builtin.append_ #[t,t] o.type #[a.eval s,a.eval x]).run c.P w=.ok (.slice (some ⟨w.heap.size,0,none⟩) (es.length+ys.length) (grownCap w (es.length+ys.length) cp1 e)) (w.drew.alloc (.cells cells e)):=by
  have hn:¬ (es.length+ys.length≤cp1):=by omega
  have h63:¬ (9223372036854775807<((es.length:Int)+(ys.length:Int))):=by simp only[maxLen] at hml;omega
  have h48:¬ (281474976710656<Builtin.nextslicecap (es.length+ys.length) cp1*i.bytes):=by
   have h3:(es.length+ys.length)*i.bytes≤140737488355328:=by rw[←hbi];exact hby
   have:=growslice_fits hlt h3;omega
  have g1:=s6 c.P w.drew (fun _ _ h=>h);have g2:=t6 c.P w.drew (fun _ _ h=>h);rw[s1,hci] at g1;rw[t1,hci] at g2;rw[s1,t1,hcells,hm];simp[Builtin.append_,run_underlying hu,sizeOf,typeInfo,zeroValue,hi,hzv,Builtin.lenOf,hn,h63,h48,Question.forced,g1,g2,newRow,grownCap]
  congr 2
  apply Array.ext';simp[zz1]
 have hcl:cells.toList=olds++(news++(List.replicate m zv.cells.toList).flatten):=by
  rw[hcells];simp[tE]
 have hrc:ae w D E (.agg (es++(ys++List.replicate m z))) cells.toList:=by
  rw[hcl];simp only[ae];exact iW _ _ _ _ s4 (iW _ _ _ _ t4 (qf (hzr w D E) m))
 have hsim':aL c A a w.drew D E:=hsim.grow ⟨rfl,rfl,rfl,Z7 _,fun _ _=>rfl⟩ (fun _ _ h=>h) (fun _ _ h _=>h) (fun b o h=>hsim.cO b o h);have hrc':ae w.drew D E (.agg (es++(ys++List.replicate m z))) cells.toList:=ae.later (w:=w) (w':=w.drew) (D:=D) (E:=E) ⟨fun _ _ h=>h,fun _ _ _ _ h=>h,fun _ _ _ h=>h,fun _ aG l h=>⟨aG,l,h,Z7 _,fun _=>rfl⟩,fun _ _ h=>h,fun _ _ h=>h,fun _ _ _ _ h=>h⟩ _ _ hrc;have h1:=hsim'.p6 (T:=e) (.inl hdn) hf hrc';have hall:∀ y∈es++(ys++List.replicate m z),y.size=c.P.cellsOf e:=by
  intro y hy;rcases zy9.1 hy with hy | hy
  ·exact s5 y hy
  ·rcases zy9.1 hy with hy | hy
   ·exact t5 y hy
   ·rw[List.eq_of_mem_replicate hy];exact hzs
 have hlen:(es++(ys++List.replicate m z)).length=es.length+ys.length+m:=by simp[Nat.add_assoc]
 have h2:=h1.put (d:=d) (x:=.view d [] (c.P.cellsOf e) 0 (es.length+ys.length)) (v:=.slice (some ⟨w.heap.size,0,none⟩) (es.length+ys.length) (grownCap w (es.length+ys.length) cp1 e)) hdn ⟨_,by simp[ba,I.isAgg];rfl,by
  simp only[ae,if_true];refine ⟨w.heap.size,(I.agg (es++(ys++List.replicate m z))).aK,0,I.cF (es++(ys++List.replicate m z)),rfl,by cases (I.agg (es++(ys++List.replicate m z))).aK <;>simp[bS.off],by simp only[I.aK,bS.part],?_,?_,?_,?_⟩
  ·rw[I.cG,Z2,hlen,hm];simp;omega
  ·rw[I.cG,Z2,hlen];omega
  ·rw[I.cG,Z2,hlen];omega
  ·rw[I.cG];intro s hs;obtain ⟨f,hf,rfl⟩:=zy3.1 hs;rw[I.ik];exact hall f hf⟩
 refine ⟨.slice (some ⟨w.heap.size,0,none⟩) (es.length+ys.length) (grownCap w (es.length+ys.length) cp1 e),w.drew.alloc (.cells cells e),m,?_,by omega,?_⟩
 ·unfold execOp;simp only[ho,resolve,invoke,builtin,Sem.run_bind,Sem.run_pure,Result.andThen_ok,List.map_toArray,Z3,zz6,hrun]
 ·rw[hd];exact ⟨D,_,h2⟩
theorem GJ{t t' e:TypeId}{s x:Operand}{s' x':aF}{es:List I}{k:Nat}{kx kt:IntKind}{bn:Int}{z:I}{d:Nat}(ho:o.op=.call { callee:=.builtin .append,args := #[s,x],argTypes := #[t,t'] })(hu:c.P.underlying t=some (.slice e))(hs':aU c.P t s=some s')(hx':aU c.P t' x=some x')(ht':c.P.underlying t'=some (.int kt))(hvx:af A x'=.int kx bn)(hk:bn.toNat=k)(hk0:0<k)(hpos:0<c.P.cellsOf e)
  (hz:fu c.P e=some z) (hzs:z.size=c.P.cellsOf e) (hse:cT A (c.P.cellsOf e) (af A s')=some es) (hby:(es.length+k)*c.P.bytesOf e≤140737488355328)
  (hd:o.dst=some d) (hdn:d<c.n) (hf:A.o d=none) {a:Act} {w:World} {D:aJ} {E:aN} (hsim:aL c A a w D E) (hfull:∀ ad l cp,a.eval s=.slice ad l cp→cp<l+k) (hml:es.length+k≤maxLen) :
  ∃ v w' m,(execOp a.eval o).run c.P w=.ok (.value v) w'∧es.length+k+m≤maxLen ∧
   bC c ((A.aS d (.box (.agg (es++(List.replicate k z++List.replicate m z))))).aP o.dst (.view d [] (c.P.cellsOf e) 0 (es.length+k))) (a.put o.dst v) w':=by
 obtain ⟨i,zv,hi,hzv,hzr⟩:=kN hz;have hci:c.P.cellsOf e=i.size:=by simp[Program.cellsOf,hi]
 have hbi:c.P.bytesOf e=i.bytes:=by simp[Program.bytesOf,hi]
 obtain ⟨ad1,cp1,olds,s1,s2,s3,s4,s5,s6⟩:=nK hsim (br hsim hs') hse;have v2:=br hsim hx';rw[hvx] at v2;have t1:a.eval x=.int kx ((k:Nat):Int):=by rw[(dk v2).1];congr 1;omega
 have t4:aH w D E (List.replicate k z) (List.replicate k zv.cells.toList).flatten:=qf (hzr w D E) k;have t5:∀ y∈List.replicate k z,y.size=c.P.cellsOf e:=fun y hy=>by rw[List.eq_of_mem_replicate hy];exact hzs
 have hlt:=hfull _ _ _ s1;obtain ⟨m,hm⟩:∃ m,m=grownCap w (es.length+k) cp1 e-(es.length+k):=⟨_,rfl⟩
 have hge:=grownCap_ge w (es.length+k) cp1 e;have hle:=grownCap_le_maxLen w (es.length+k) cp1 e hml;obtain ⟨cells,hcells⟩:∃ cells:Array Value,cells=olds.toArray++Builtin.zeroCells zv.cells k++Builtin.zeroCells zv.cells m:=⟨_,rfl⟩
 have hrun:(Builtin.append_ #[t,t'] o.type #[a.eval s,a.eval x]).run c.P w=.ok (.slice (some ⟨w.heap.size,0,none⟩) (es.length+k) (grownCap w (es.length+k) cp1 e)) (w.drew.alloc (.cells cells e)):=by
  have h3:(es.length+k)*i.bytes≤140737488355328:=by rw[←hbi];exact hby
  have g1:=s6 c.P w.drew (fun _ _ h=>h);rw[s1,hci] at g1;have hfit:=growslice_fits hlt h3;have hkb:k*i.bytes≤(es.length+k)*i.bytes:=Nat.mul_le_mul_right _ (by omega);rw[s1,t1,hcells,hm];exact Lib.run_append_grow_zeros w t t' o.type e i zv kx kt hu ht' hi hzv ad1 es.length cp1 olds g1 k hk0 (by rw[←hci];exact hpos) hlt (by simp only[maxLen] at hml;omega) (by omega) (by omega)
 have hcl:cells.toList=olds++((List.replicate k zv.cells.toList).flatten++(List.replicate m zv.cells.toList).flatten):=by
  rw[hcells];simp[tE]
 have hrc:ae w D E (.agg (es++(List.replicate k z++List.replicate m z))) cells.toList:=by
  rw[hcl];simp only[ae];exact iW _ _ _ _ s4 (iW _ _ _ _ t4 (qf (hzr w D E) m))
 have hsim':aL c A a w.drew D E:=hsim.grow ⟨rfl,rfl,rfl,Z7 _,fun _ _=>rfl⟩ (fun _ _ h=>h) (fun _ _ h _=>h) (fun b o h=>hsim.cO b o h);have hrc':ae w.drew D E (.agg (es++(List.replicate k z++List.replicate m z))) cells.toList:=ae.later (w:=w) (w':=w.drew) (D:=D) (E:=E) ⟨fun _ _ h=>h,fun _ _ _ _ h=>h,fun _ _ _ h=>h,fun _ aG l h=>⟨aG,l,h,Z7 _,fun _=>rfl⟩,fun _ _ h=>h,fun _ _ h=>h,fun _ _ _ _ h=>h⟩ _ _ hrc;have h1:=hsim'.p6 (T:=e) (.inl hdn) hf hrc';have hall:∀ y∈es++(List.replicate k z++List.replicate m z),y.size=c.P.cellsOf e:=by
  intro y hy;rcases zy9.1 hy with hy | hy
  ·exact s5 y hy
  ·rcases zy9.1 hy with hy | hy
   ·exact t5 y hy
   ·rw[List.eq_of_mem_replicate hy];exact hzs
 have hlen:(es++(List.replicate k z++List.replicate m z)).length=es.length+k+m:=by simp[Nat.add_assoc]
 have h2:=h1.put (d:=d) (x:=.view d [] (c.P.cellsOf e) 0 (es.length+k)) (v:=.slice (some ⟨w.heap.size,0,none⟩) (es.length+k) (grownCap w (es.length+k) cp1 e)) hdn ⟨_,by simp[ba,I.isAgg];rfl,by
  simp only[ae,if_true];refine ⟨w.heap.size,(I.agg (es++(List.replicate k z++List.replicate m z))).aK,0,I.cF (es++(List.replicate k z++List.replicate m z)),rfl,by cases (I.agg (es++(List.replicate k z++List.replicate m z))).aK <;>simp[bS.off],by simp only[I.aK,bS.part],?_,?_,?_,?_⟩
  ·rw[I.cG,Z2,hlen,hm];simp;omega
  ·rw[I.cG,Z2,hlen];omega
  ·rw[I.cG,Z2,hlen];omega
  ·rw[I.cG];intro s hs;obtain ⟨f,hf,rfl⟩:=zy3.1 hs;rw[I.ik];exact hall f hf⟩
 refine ⟨.slice (some ⟨w.heap.size,0,none⟩) (es.length+k) (grownCap w (es.length+k) cp1 e),w.drew.alloc (.cells cells e),m,?_,by omega,?_⟩
 ·unfold execOp;simp only[ho,resolve,invoke,builtin,Sem.run_bind,Sem.run_pure,Result.andThen_ok,List.map_toArray,Z3,zz6,hrun]
 ·rw[hd];exact ⟨D,_,h2⟩
theorem L0{t e:TypeId}{s x:Operand}{s' x':aF}{ys:List I}{n:Nat}{p:List Nat}{lo k:Nat}{b:I}{fs:List I}(ho:o.op=.call { callee:=.builtin .append,args := #[s,x],argTypes := #[t,t] })(hu:c.P.underlying t=some (.slice e))(hi:(c.P.info? e).isSome=true)
  (hs':aU c.P t s=some s') (hx':aU c.P t x=some x') (hv:af A s'=.view n p (c.P.cellsOf e) lo k) (hn:A.o n=some (.box b)) (hat:b.at p=some (.agg fs)) (hsx:cT A (c.P.cellsOf e) (af A x')=some ys) (hroom:lo+k+ys.length≤fs.length)
  (hsh:I.cF ys=I.cF ((fs.drop (lo+k)).take ys.length)) (hdn:∀ k,o.dst=some k→k<c.n) :
  gn c A o ((A.aS n (.box (ij b p (lo+k) fs ys))).aP o.dst (.view n p (c.P.cellsOf e) lo (k+ys.length))):=by
 intro a w D E hsim;obtain ⟨i,hi⟩:=zz7.1 hi;have hci:c.P.cellsOf e=i.size:=by simp[Program.cellsOf,hi]
 have h0:=br hsim hs';rw[hv] at h0;have hxx:bZ A (.ptr n p)=some (.agg fs):=by simp only[bZ,hn,hat]
 obtain ⟨yy,bk,cs,T,off,c1,c2,c3,k1,k2,k3,k4,k5,k6,k7,k8,k9,k10,k11,k12,hval⟩:=hsim.view h0 hxx;rw[hn] at k1;simp only[v6,ai.box.injEq] at k1;subst k1;obtain ⟨ad2,cp2,news,t1,t2,t3,t4,t5,t6⟩:=nK hsim (br hsim hx') hsx;obtain ⟨w',h1,h2⟩:=hsim.ij (j:=lo+k) (ys:=ys) hn k2 k3 k4 k5 k6 k7 k8 k9 k10 t4 hroom hsh c.P;have g2:=t6 c.P w (fun _ _ h=>h);rw[t1,hci] at g2;have hr:k+ys.length≤fs.length-lo:=by omega
 refine ⟨w',.inl ⟨.slice (some ⟨bk,off+lo*c.P.cellsOf e,none⟩) (k+ys.length) (fs.length-lo),?_,D,E,h2.aP hdn ?_⟩⟩
 ·have e1:off+lo*i.size+k*i.size=off+(lo+k)*c.P.cellsOf e:=by rw[hci,Nat.add_mul];omega
  unfold execOp;simp only[ho,resolve,invoke,builtin,Sem.run_bind,Sem.run_pure,Result.andThen_ok,List.map_toArray,Z3,zz6,hval,t1];simp[Builtin.append_,run_underlying hu,sizeOf,typeInfo,hi,Builtin.lenOf,hr,g2,Addr.add_lit,hci,e1];rw[hci] at h1;simp[h1]
 ·refine ⟨_,by simp[ba,I.isAgg];rfl,?_⟩;simp only[ae];refine ⟨bk,b.aK,off,I.cF fs,k2,k5,lE p b _ k4,?_,?_,?_,?_⟩
  ·rw[I.cG,Z2]
  ·rw[I.cG,Z2];exact k12
  ·rw[I.cG,Z2];omega
  ·rw[I.cG];intro s hs;obtain ⟨f,hf,rfl⟩:=zy3.1 hs;rw[I.ik];exact k10 f hf
theorem L1{t e:TypeId}{s x:Operand}{s' x':aF}{es:List I}(ho:o.op=.call { callee:=.builtin .append,args := #[s,x],argTypes := #[t,t] })(hu:c.P.underlying t=some (.slice e))(hi:(c.P.info? e).isSome=true)(hs':aU c.P t s=some s')(hx':aU c.P t x=some x')
  (hse:cT A (c.P.cellsOf e) (af A s')=some es) (hsx:cT A (c.P.cellsOf e) (af A x')=some []):cI c A o (af A s') :=
 .same fun a w D E hsim=>by
  obtain ⟨i,hi⟩:=zz7.1 hi;have hci:c.P.cellsOf e=i.size:=by simp[Program.cellsOf,hi]
  obtain ⟨ad1,cp1,olds,s1,s2,s3,s4,s5,s6⟩:=nK hsim (br hsim hs') hse;obtain ⟨ad2,cp2,news,t1,t2,t3,t4,t5,t6⟩:=nK hsim (br hsim hx') hsx;have g2:=t6 c.P w (fun _ _ h=>h);rw[t1,hci] at g2;simp only[aH] at t4;subst t4;refine ⟨a.eval s,?_,br hsim hs'⟩;simp only[zx1] at g2 t1;unfold execOp;simp only[ho,resolve,invoke,builtin,Sem.run_bind,Sem.run_pure,Result.andThen_ok,List.map_toArray,Z3,zz6,s1,t1];cases ad1 <;>simp[Builtin.append_,run_underlying hu,sizeOf,typeInfo,hi,Builtin.lenOf,s2,g2,storeCells]
end
theorem Ag{w:World}{D:aJ}{E:aN} : ∀ (l:List cj) (xs ys:List I) (cs ds:List Value),l.all vf=true→gv l xs ys=some true→aH w D E xs cs→aH w D E ys ds→xs=ys∧cs=ds∧∀ v∈cs,∃ k n,v=.int k n
 | [],xs,ys,cs,ds,_,h,hx,hy=>by
  simp only[gv] at h;split at h
  ·simp only[aH] at hx hy;subst hx hy;exact ⟨rfl,rfl,fun v hv=>by simp at hv⟩
  ·cases h
 |t::ts,xs,ys,cs,ds,ha,h,hx,hy=>by
  simp only[List.all_cons,Z0] at ha;simp only[gv] at h;split at h
  case h_2=>cases h
  rename_i f fs g gs;unfold iu at h;split at h
  case h_2=>cases h
  rename_i a b h1 h2;simp only[v6,Z0] at h;obtain ⟨rfl,rfl⟩:=h;simp only[aH] at hx hy;obtain ⟨c1,c2,rfl,p1,p2⟩:=hx;obtain ⟨d1,d2,rfl,q1,q2⟩:=hy;obtain ⟨rfl,rfl,k3⟩:=Ag ts fs gs c2 d2 ha.2 h2 p2 q2;cases t with
  |i k =>
   simp only[b7] at h1;split at h1
   case h_2=>cases h1
   rename_i k1 a k2 b;split at h1
   case isFalse=>cases h1
   rename_i hk;simp only[v6,beq_iff_eq] at h1;subst h1;obtain ⟨rfl,rfl⟩:=hk;simp only[ae] at p1 q1;obtain ⟨rfl,_⟩:=p1;obtain ⟨rfl,_⟩:=q1;refine ⟨rfl,rfl,fun v hv =>?_⟩;rcases zy9.1 hv with hv | hv
   ·simp at hv;exact ⟨_,_,hv⟩
   ·exact k3 v hv
  |b | s | aT _ | pd _ _=>simp[vf] at ha
theorem EC:∀ (cs:List Value) (n:Nat),(∀ v∈cs,∃ k m,v=.int k m)→((cs.zip cs).all fun (x,y)=>Instr.sameBits n x y)=true
 | [],_,_=>rfl
 |v::cs,n,h=>by
  obtain ⟨k,m,rfl⟩:=h v (by simp);simp only[List.zip_cons_cons,List.all_cons,Z0];exact ⟨by cases n <;>simp[Instr.sameBits],EC cs n fun v hv=>h v (by simp[hv])⟩
theorem Wc{P:Program}{t:TypeId}{ty:cj}{w:World}{D:aJ}{E:aN}{x y:I}{u v:Value}(hk:jn P t=some ty)(h:b7 ty x y=some true)(hx:aR w D E x u)(hy:aR w D E y v):x=y∧u=v∧Instr.sameBits 10000 u v=true:=by
 unfold jn at hk;split at hk
 ·rename_i k hu;simp only[v6] at hk;subst hk;simp only[b7] at h;split at h
  case h_2=>cases h
  split at h
  case isFalse=>cases h
  rename_i hk;simp only[v6,beq_iff_eq] at h;subst h;obtain ⟨rfl,rfl⟩:=hk;rw[(dk hx).1,(dk hy).1];exact ⟨rfl,rfl,by simp[Instr.sameBits]⟩
 ·rename_i fs hu;split at hk
  case h_2=>cases hk
  rename_i l hl;split at hk
  case isFalse=>cases hk
  rename_i hc;simp only[v6] at hk;subst hk;simp only[b7] at h;split at h
  case h_2=>cases h
  rename_i xs ys;obtain ⟨cs,rfl,hc1⟩:=iG hx;obtain ⟨ds,rfl,hd1⟩:=iG hy;obtain ⟨rfl,rfl,h3⟩:=Ag l xs ys cs ds hc.1 h hc1 hd1;refine ⟨rfl,rfl,?_⟩;simp only[Instr.sameBits,beq_self_eq_true,Bool.true_and];exact EC cs _ h3
 ·cases hk
section
variable {P:Program} {w:World} {D:aJ} {E:aN}
theorem uq{t:TypeId}{ty:cj}{em:Bool}{x y:I}{v:Value}{r:Bool}(hk:jn P t=some ty)(hx:aR w D E x v)(h:b7 ty x y=some r)(n:Nat):(Instr.checkKey em (n+2) t v).run P w=.ok () w:=by
 unfold jn at hk;split at hk
 ·rename_i k hu;simp only[v6] at hk;subst hk;simp only[b7] at h;split at h
  case h_2=>cases h
  rename_i k1 a k2 b;split at h
  case isFalse=>cases h
  rename_i hq;rw[(dk hx).1,hq.1];exact MapKept.run_checkKey hu (by simp[MapKept.IsKey]) em (n+1)
 ·rename_i fs hu;split at hk
  case h_2=>cases hk
  rename_i l hl;split at hk
  case isFalse=>cases hk
  rename_i hc;simp only[v6] at hk;subst hk;simp only[b7] at h;split at h
  case h_2=>cases h
  rename_i xs ys;obtain ⟨cs,rfl,hc1⟩:=iG hx;obtain ⟨d,hd⟩:∃ d,d=11:=⟨_,rfl⟩
  rw[show (12:Nat)=d+1 from by omega] at hl;simp only[fN,hu] at hl;split at hl
  case isFalse=>cases hl
  rename_i hc2;simp only[t7,cj.aT.injEq] at hl;obtain ⟨l',hl,rfl⟩:=hl;rw[show n+2=(n+1)+1 from rfl,Instr.checkKey];simp only[Sem.run_bind,run_underlying hu,Result.andThen_ok];rw[←Array.forIn_toList];have key:∀ (au:List Field) (l:List cj) (xs ys:List I) (r:Bool) (c1 c2:List Value),
    (au.mapM fun f=>match fN P d f.type with
     |some ty=>if ty.size=P.cellsOf f.type then some ty else none
     | none => none) = some l → (∀ f ∈ au, f.name ≠ "_" ∧ pM (P.underlying f.type) = true) → oy P c1.length au = true → aH w D E xs c2 → gv l xs ys = some r → c1 ++ c2 = cs →
    Sem.run P (forIn au PUnit.unit (fun (f : Field) (_ : PUnit) => (if f.name ≠ "_" then (do
     let x ←part f.type cs.toArray f.offset
     Instr.checkKey em (n+1) f.type x
     pure (ForInStep.yield PUnit.unit)) else pure (ForInStep.yield PUnit.unit):Sem (ForInStep PUnit)))) w=.ok PUnit.unit w:=by
   intro au
   induction au with
   |nil=>intros;simp
   |cons f au ih =>
    intro l xs ys r c1 c2 hm hn ho hx h htot;simp only[List.mapM_cons,Option.bind_eq_bind,Option.pure_def,zx5,v6] at hm;obtain ⟨ty,hty,tys,htys,rfl⟩:=hm;split at hty
    case h_2=>cases hty
    rename_i ty' hd';split at hty
    case isFalse=>cases hty
    rename_i hsz;simp only[v6] at hty;subst hty;simp only[gv] at h;split at h
    case h_2=>cases h
    rename_i x xs y ys;unfold iu at h;split at h
    case h_2=>cases h
    rename_i ra rb h1 h2;simp only[aH] at hx;obtain ⟨e1,e2,rfl,k1,k2⟩:=hx;obtain ⟨s,q1,q2,q3⟩:=uC hd' hsz h1;obtain ⟨u,p1,p2⟩:=nk (P:=P) (w:=w) (c1:=c1) (c3:=e2) q1 q2 k1;simp only[oy,Z0,beq_iff_eq] at ho;have hsx:=nU ty' x y ra h1;have hle:e1.length=P.cellsOf f.type:=by rw[ae.length _ _ k1,hsx.1,hsz]
    have ih':=ih tys xs ys rb (c1++e1) e2 htys (fun g hg=>hn g (by simp[hg])) (by simp only[Z1,hle];exact ho.2) k2 h2 (by rw[←htot];simp);rw[zz1,htot,←ho.1] at p1;obtain ⟨hnm,hint⟩:=hn f (by simp);have hck:(Instr.checkKey em (n+1) f.type u).run P w=.ok () w:=by
     cases hu:P.underlying f.type with
     |none=>simp[hu,pM] at hint
     |some dd =>
      cases dd <;>simp[hu,pM] at hint
      rename_i q;have hti:ty'=.i q:=by
       rw[show d=10+1 from by omega] at hd';unfold fN at hd';simp only[hu,v6] at hd';exact hd'.symm
      subst hti;simp only[b7] at h1;split at h1
      case h_2=>cases h1
      split at h1
      case isFalse=>cases h1
      rename_i hq;rw[(dk p2).1,hq.1];exact MapKept.run_checkKey hu (by simp[MapKept.IsKey]) em n
    simp only[List.forIn_cons,Sem.run_bind,hnm,ne_eq,not_false_eq_true,if_true,p1,Result.andThen_ok,hck,Sem.run_pure];exact ih'
  rw[key fs.toList l' xs ys r [] cs hl (fun f hf=>⟨by simpa using zy6.1 hc2.2.1 f hf,Array.all_eq_true_iff_forall_mem.1 hc.2 f (Array.mem_toList_iff.1 hf)⟩) hc2.2.2 hc1 h rfl];simp
 ·cases hk
theorem wq{x:I}{xs:List I}{vs:List Value}(h:ar w D E (x::xs) vs):∃ v rest,vs=v::rest∧aR w D E x v∧ar w D E xs rest:=by
 simp only[ar] at h;obtain ⟨v,rest,cs,rfl,h1,h2,h3⟩:=h;exact ⟨v,rest,rfl,fB h1 h2,h3⟩
def nF(r:Option Nat)(es:List MapEntry)(i:Nat)(q:Option (Nat×Value)):Prop :=
 (r=none∧q=none)∨∃ j e,r=some (i+j)∧es[j]?=some e∧q=some (i+j,e.val)
theorem nF.step{r:Option Nat}{es:List MapEntry}{e:MapEntry}{i:Nat}{q:Option (Nat×Value)}(h:nF r es (i+1) q):nF r (e::es) i q:=by
 rcases h with h | ⟨j,e',h1,h2,h3⟩
 ·exact .inl h
 ·exact .inr ⟨j+1,e',by rw[h1];congr 1;omega,by simpa using h2,by rw[h3];congr 2;omega⟩
theorem AB{q:IntKind}{k:I}{v:Value}(hv:aR w D E k v):∀ (ks:List I) (es:List MapEntry) (i:Nat) (r:Option Nat),ar w D E ks (es.map (·.key))→gZ (.i q) k ks i=some r →
  ∃ x,Instr.findNow (.int q) v es i=some x∧nF r es i x
 | [],es,i,r,hk,h=>by
  simp only[gZ,v6] at h;simp only[ar,List.map_eq_nil_iff] at hk;subst h hk;exact ⟨none,rfl,.inl ⟨rfl,rfl⟩⟩
 |x::ks,es,i,r,hk,h=>by
  obtain ⟨u,rest,e1,hu,hr⟩:=wq hk;cases es with
  |nil=>cases e1
  |cons e es =>
   simp only[Z3,zz9] at e1;obtain ⟨rfl,rfl⟩:=e1;simp only[gZ] at h;have same:∀ b,b7 (.i q) k x=some b→Instr.sameNow (.int q) v e.key=some b:=fun b hb=>by
    simp only[b7] at hb;split at hb
    case h_2=>cases hb
    split at hb
    case isFalse=>cases hb
    rename_i hq;simp only[v6] at hb;subst hb;rw[(dk hv).1,(dk hu).1];simp[Instr.sameNow,hq.1,hq.2]
   split at h
   ·rename_i hb;simp only[v6] at h;subst h;exact ⟨some (i,e.val),by simp[Instr.findNow,same _ hb],.inr ⟨0,e,rfl,rfl,rfl⟩⟩
   ·rename_i hb;obtain ⟨y,h1,h2⟩:=AB hv ks es (i+1) r hr h;exact ⟨y,by simp[Instr.findNow,same _ hb,h1],h2.step⟩
   ·cases h
theorem Ax{t:TypeId}{ty:cj}(hty:fN P 12 t=some ty){k:I}{v:Value}(hv:aR w D E k v):∀ (ks:List I) (es:List MapEntry) (i:Nat) (r:Option Nat),ar w D E ks (es.map (·.key))→gZ ty k ks i=some r →
  ∃ x,(Instr.findAsking t v es i).run P w=.ok x w∧nF r es i x
 | [],es,i,r,hk,h=>by
  simp only[gZ,v6] at h;simp only[ar,List.map_eq_nil_iff] at hk;subst h hk;exact ⟨none,rfl,.inl ⟨rfl,rfl⟩⟩
 |x::ks,es,i,r,hk,h=>by
  obtain ⟨u,rest,e1,hu,hr⟩:=wq hk;cases es with
  |nil=>cases e1
  |cons e es =>
   simp only[Z3,zz9] at e1;obtain ⟨rfl,rfl⟩:=e1;simp only[gZ] at h;have same:∀ b,b7 ty k x=some b→(Op.equal t v e.key).run P w=.ok b w:=fun b hb=>ry 12 t ty hty k x v e.key b hv hu hb _ (by simp[Op.maxDepth]);split at h
   ·rename_i hb;simp only[v6] at h;subst h;exact ⟨some (i,e.val),by simp[Instr.findAsking,same _ hb],.inr ⟨0,e,rfl,rfl,rfl⟩⟩
   ·rename_i hb;obtain ⟨y,h1,h2⟩:=Ax hty hv ks es (i+1) r hr h;exact ⟨y,by simp[Instr.findAsking,same _ hb,h1],h2.step⟩
   ·cases h
theorem nX{t:TypeId}{ty:cj}(hk:jn P t=some ty){k:I}{v:Value}(hv:aR w D E k v){ks:List I}{es:List MapEntry}{r:Option Nat}(hks:ar w D E ks (es.map (·.key)))(h:gZ ty k ks 0=some r) :
  ∃ x,(Instr.findKey t v es).run P w=.ok x w∧nF r es 0 x:=by
 have hk0:=hk;unfold jn at hk;split at hk
 ·rename_i q hu;simp only[v6] at hk;subst hk;obtain ⟨x,h1,h2⟩:=AB hv ks es 0 r hks h;exact ⟨x,by simp[Instr.findKey,run_underlying hu,h1],h2⟩
 ·rename_i fs hu;split at hk
  case h_2=>cases hk
  rename_i l hl;split at hk
  case isFalse=>cases hk
  simp only[v6] at hk;subst hk;cases es with
  |nil =>
   cases ks with
   |nil =>
    simp only[gZ,v6] at h;subst h;exact ⟨none,by simp[Instr.findKey,run_underlying hu,Instr.findNow],.inl ⟨rfl,rfl⟩⟩
   |cons x xs=>simp[ar] at hks
  |cons e es =>
   obtain ⟨x,h1,h2⟩:=Ax hl hv ks (e::es) 0 r hks h;exact ⟨x,by simp[Instr.findKey,run_underlying hu,Instr.findNow,Instr.sameNow,h1],h2⟩
 ·cases hk
theorem lA:∀ {xs:List I} {vs:List Value} {j:Nat} {v:Value},ar w D E xs vs→vs[j]?=some v→∃ x,xs[j]?=some x∧aR w D E x v
 | [],vs,j,v,h,hj=>by simp only[ar] at h;subst h;simp at hj
 |x::xs,vs,j,v,h,hj=>by
  obtain ⟨u,rest,rfl,h1,h2⟩:=wq h;cases j with
  |zero=>simp only[List.getElem?_cons_zero,v6] at hj;subst hj;exact ⟨x,rfl,h1⟩
  |succ j=>exact lA (xs:=xs) h2 (by simpa using hj)
end
section
variable {c:cn} {A:ab} {o:Oper} {x:I}
theorem WG{a:Act}{w:World}{D:aJ}{E:aN}(hs:aL c A a w D E){m:I}{v:Value}{ks vs:List I}(hv:aR w D E m v)(hm:fQ A m=some (ks,vs)) :
  (v=.map none∧ks=[]∧vs=[])∨∃ b es clock,v=.map (some b)∧w.heap[b]?=some (.map es clock)∧ar w D E ks (es.toList.map (·.key))∧ar w D E vs (es.toList.map (·.val)):=by
 unfold fQ at hm;split at hm
 ·simp only[v6,Prod.mk.injEq] at hm;obtain ⟨rfl,rfl⟩:=hm;obtain ⟨cs,q1,q2⟩:=hv;simp only[ae] at q2;obtain ⟨b,es,ck,q3,q4,q5,q6⟩:=q2;exact .inr ⟨b,es,ck,by simpa[ba,I.isAgg,q3] using q1.symm,q4.1,q5,q6⟩
 ·rename_i n;split at hm
  case h_2=>cases hm
  rename_i ks' vs' hn;simp only[v6,Prod.mk.injEq] at hm;obtain ⟨rfl,rfl⟩:=hm;obtain ⟨cs,q1,q2⟩:=hv;simp only[ae] at q2;obtain ⟨b,q3,q4⟩:=q2;obtain ⟨b',es,ck,k1,k2,k3,k4,k5,k6,k7⟩:=hs.map hn;rw[k1] at q3;cases q3;exact .inr ⟨_,es,ck,by simpa[ba,I.isAgg,q4] using q1.symm,k3,k5,k6⟩
 ·simp only[v6,Prod.mk.injEq] at hm;obtain ⟨rfl,rfl⟩:=hm;obtain ⟨cs,q1,q2⟩:=hv;simp only[ae] at q2;exact .inl ⟨by simpa[ba,I.isAgg,q2.1] using q1.symm,rfl,rfl⟩
 ·cases hm
theorem nA{w:World}{D:aJ}{E:aN}{y:I}{v:Value}(hv:y.cD=true)(h:aR w D E y v):∃ cs,ba y v cs∧ae w D E y cs:=by
 cases y <;>simp[I.cD] at hv <;>exact h
theorem oI{w:World}{D:aJ}{E:aN} : ∀ {xs:List I} {vs:List Value} {j:Nat} {x:I},ar w D E xs vs→xs[j]?=some x→x.cD=true
 | [],_,j,x,_,h=>by simp at h
 |y::ys,vs,j,x,hr,h=>by
  simp only[ar] at hr;obtain ⟨v,rest,cs,rfl,h1,h2,h3⟩:=hr;cases j with
  |zero =>
   simp only[List.getElem?_cons_zero,v6] at h;subst h;cases y <;>simp only[ae] at h2 <;>rfl
  |succ j=>exact oI (xs:=ys) h3 (by simpa using h)
theorem ZP{x:I}{cs r:List Value}(h:lK x cs=some r):x.cD=true:=by
 cases x <;>first | rfl | (cases cs <;>simp[lK] at h)
theorem ZQ{P:Program}{t:TypeId}{z:I}(hz:fu P t=some z)(hp:tD P t z=true):∃ zv,(∀ w,(zeroValue t).run P w=.ok zv w)∧z.cD=true∧∀ w D E,aR w D E z zv:=by
 have hz0:=hz;obtain ⟨i,zv,hi,hzz,hzr⟩:=kN hz;have hv:z.cD=true:=by
  unfold fu at hz;split at hz
  ·split at hz
   ·rename_i hk;simp only[v6] at hz;subst hz;exact ZP hk
   ·cases hz
  ·cases hz
 refine ⟨zv,fun w=>by simp[zeroValue,typeInfo,hi,hzz],hv,fun w D E =>?_⟩;have h1:=hzr w D E;simp only[tD,hi,Option.bind_some,hzz] at hp;refine fB (cs:=zv.cells.toList) ?_ h1;cases zv <;>simp only[ba] at hp ⊢ <;>first
  |(rw[if_pos hp];simp[Value.cells])
  |(have hp':z.isAgg=false:=by simpa using hp
    rw[hp'];simp[Value.cells])
theorem Vt{t kt et:TypeId}{m k:Operand}{m' k':aF}{ok:Bool}{ty:cj}{z v:I}{ks vs:List I}{there:Bool}(ho:o.op=.lookup t m k ok)(hu:c.P.underlying t=some (.map kt et))(hk:jn c.P kt=some ty)(hz:fu c.P et=some z)(hzp:tD c.P et z=true)
  (hm:aU c.P 0 m=some m') (hk':aU c.P 0 k=some k') (hmm:fQ A (af A m')=some (ks,vs)) (hl:pU ty z (af A k') ks vs=some (v,there)):cI c A o (if ok then .tuple [v,.bool there] else v) :=
 .same fun a w D E hs=>by
  have h1:=br hs hm;have h2:=br hs hk';obtain ⟨zv,hzrun,hzv,hzrv⟩:=ZQ hz hzp;unfold pU at hl;split at hl
  case isFalse=>cases hl
  rename_i hkk;obtain ⟨rk,hrk⟩:=zz7.1 hkk;have hchk:=fun em=>uq (P:=c.P) (w:=w) (em:=em) hk h2 hrk 9998;have bd:∀ u there,v.cD=true→aR w D E v u→aR w D E (if ok then .tuple [v,.bool there] else v) (if ok then Value.tuple #[u,.bool there] else u):=fun u there hval hu'=>by
   cases ok
   ·exact hu'
   ·obtain ⟨cs,q1,q2⟩:=nA hval hu';simp only[if_true,aR,ar];exact ⟨[u,.bool there],rfl,u,[.bool there],cs,rfl,q1,q2,.bool there,[],[.bool there],rfl,by simp[ba,I.isAgg],by simp[ae],rfl⟩
  have dn:∀ (es:Array MapEntry),ar w D E ks (es.toList.map (·.key))→ar w D E vs (es.toList.map (·.val))→∃ u,v.cD=true∧aR w D E v u ∧
    ((∃ i,(Instr.findKey kt (a.eval k) es.toList).run c.P w=.ok (some (i,u)) w∧there=true)∨((Instr.findKey kt (a.eval k) es.toList).run c.P w=.ok none w∧u=zv∧there=false)):=fun es hks hvs=>by
   split at hl
   ·rename_i i hfi;simp only[t7,Prod.mk.injEq] at hl;obtain ⟨v',hv',rfl,rfl⟩:=hl;obtain ⟨q,q1,q2⟩:=nX hk h2 hks hfi;rcases q2 with ⟨e,_⟩ | ⟨j,e,e1,e2,rfl⟩
    ·cases e
    ·simp only[Z5,v6] at e1;subst e1;obtain ⟨x,k1,k2⟩:=lA (j:=i) (v:=e.val) hvs (by simp only[zy4,e2,Z8]);rw[hv',v6] at k1;subst k1;exact ⟨e.val,oI hvs hv',k2,.inl ⟨_,q1,rfl⟩⟩
   ·rename_i hfi;simp only[v6,Prod.mk.injEq] at hl;obtain ⟨rfl,rfl⟩:=hl;obtain ⟨q,q1,q2⟩:=nX hk h2 hks hfi;rcases q2 with ⟨_,rfl⟩ | ⟨j,e,e1,_⟩
    ·exact ⟨zv,hzv,hzrv w D E,.inr ⟨q1,rfl,rfl⟩⟩
    ·cases e1
   ·cases hl
  rcases WG hs h1 hmm with ⟨e1,rfl,rfl⟩ | ⟨b,es,ck,e1,e2,e3,e4⟩
  ·obtain ⟨u,hval,hu',hrun⟩:=dn #[] (by simp[ar]) (by simp[ar]);refine ⟨_,?_,bd u there hval hu'⟩;rcases hrun with ⟨i,q1,rfl⟩ | ⟨q1,rfl,rfl⟩ <;>
    simp only[execOp,ho,Instr.lookup,e1,Sem.run_bind,run_underlying hu,Result.andThen_ok,Sem.run_pure,hchk,q1,hzrun]
  ·obtain ⟨u,hval,hu',hrun⟩:=dn es e3 e4;refine ⟨_,?_,bd u there hval hu'⟩;rcases hrun with ⟨i,q1,rfl⟩ | ⟨q1,rfl,rfl⟩ <;>
    simp only[execOp,ho,Instr.lookup,e1,Sem.run_bind,run_underlying hu,Result.andThen_ok,MapKept.run_getObj_map e2,Sem.run_pure,hchk,q1,hzrun]
theorem Bc{y:Operand}{y':aF}(ho:o.op=.nilCheck y)(hy:aU c.P 0 y=some y')(h:(∃ n p,af A y'=.ptr n p)∨∃ z,af A y'=.ref z):cI c A o (af A y') :=
 .same fun a w D E hs=>by
  have h1:=br hs hy;rcases h with ⟨n,p,h⟩ | ⟨z,h⟩
  ·rw[h] at h1 ⊢;obtain ⟨b,aK,off,_,_,e⟩:=kG h1;exact ⟨a.eval y,by simp only[execOp,ho,e,Sem.run_pure],h1⟩
  ·rw[h] at h1 ⊢;obtain ⟨b,off,cs,e,_⟩:=oG h1;exact ⟨a.eval y,by simp only[execOp,ho,e,Sem.run_pure],h1⟩
theorem Bt{w:World}{D:aJ}{E:aN}{x:I}{v:Value}{b:Bool}(h:hG x=some b)(hv:aR w D E x v):∃ ad,v=.pointer ad∧ad.isNone=b:=by
 cases x <;>simp only[hG,v6] at h <;>try (cases h;done)
 case nilp =>
  subst h;obtain ⟨cs,q1,q2⟩:=hv;simp only[ae] at q2;exact ⟨none,by simpa[ba,I.isAgg,q2] using q1.symm,rfl⟩
 case ptr n p =>
  subst h;obtain ⟨b,aK,off,_,_,e⟩:=kG hv;exact ⟨_,e,rfl⟩
 case ref z =>
  subst h;obtain ⟨b,off,cs,e,_⟩:=oG hv;exact ⟨_,e,rfl⟩
theorem Vy{x y:Operand}{x' y':aF}{tys:Array TypeId}{v:I}(ho:o.op=.call { callee:=.builtin .max,args := #[x,y],argTypes:=tys })(hx:aU c.P 0 x=some x')(hy:aU c.P 0 y=some y')(h:vD (af A x') (af A y')=some v):cI c A o v :=
 .same fun a w D E hs=>by
  have h1:=br hs hx;have h2:=br hs hy;unfold vD at h;split at h
  case h_2=>cases h
  rename_i k n k2 m e1 e2;split at h
  case isFalse=>cases h
  rename_i hk;subst hk;simp only[v6] at h;subst h;rw[e1] at h1;rw[e2] at h2;obtain ⟨v1,r1⟩:=dk h1;obtain ⟨v2,iF⟩:=dk h2;refine ⟨.int k (if m>n then m else n),by simp[execOp,ho,resolve,invoke,builtin,Builtin.max_,Builtin.max2,v1,v2],hU ?_⟩;split
  ·exact iF
  ·exact r1
theorem VD{neg:Bool}{t yt e:TypeId}{y z:Operand}{y' z':aF}{b1 b2:Bool}(ho:o.op=.binOp (if neg then .neq else .eql) t y z yt)(hu:c.P.underlying t=some (.pointer e))(hy:aU c.P 0 y=some y')(hz:aU c.P 0 z=some z')
  (h1:hG (af A y')=some b1) (h2:hG (af A z')=some b2) (h:b1=true∨b2=true):cI c A o (.bool (if neg then !(b1&&b2) else (b1&&b2))) :=
 .same fun a w D E hs=>by
  obtain ⟨p,e1,k1⟩:=Bt h1 (br hs hy);obtain ⟨q,e2,k2⟩:=Bt h2 (br hs hz);have he:∀ d,(Op.equalIn (d+1) t (.pointer p) (.pointer q)).run c.P w=.ok (b1&&b2) w:=fun d=>by
   subst k1 k2;cases p <;>cases q <;>simp at h <;>simp[Op.equalIn,run_underlying hu]
  refine ⟨.bool (if neg then !(b1&&b2) else (b1&&b2)),?_,km _⟩;cases neg <;>simp only[execOp,ho,e1,e2,if_true,Z4,if_false,Sem.run_bind,eqGuard] <;>simp[binOp,Op.equal,Op.maxDepth,he]
end
section
variable {c:cn} {A:ab} {o:Oper} {x:I}
theorem L7{t:TypeId}{d:Nat}(ho:o.op=.makeMap t none)(hd:o.dst=some d)(hn:d<c.n)(hf:A.o d=none):gn c A o ((A.aS d (.cg [] [])).put d (.mref d)):=by
 intro a w D E hs;have h1:=hs.WT (.inl hn) hf;have h2:=h1.put (x:=.mref d) (v:=.map (some w.heap.size)) hn ⟨_,by simp[ba,I.isAgg];rfl,by
  simp only[ae,if_true];exact ⟨w.heap.size,rfl,rfl⟩⟩
 exact ⟨w.alloc (.map #[] 0),.inl ⟨.map (some w.heap.size),by simp[execOp,ho,Instr.makeMap],D,_,by rw[hd];exact h2⟩⟩
theorem wo{w:World}{D:aJ}{E:aN} : ∀ {xs ys:List I} {us vs:List Value},ar w D E xs us→ar w D E ys vs→ar w D E (xs++ys) (us++vs)
 | [],ys,us,vs,h,k=>by simp only[ar] at h;subst h;simpa using k
 |x::xs,ys,us,vs,h,k=>by
  simp only[ar,zz2] at *;obtain ⟨v,rest,cs,rfl,h1,h2,h3⟩:=h;exact ⟨v,rest++vs,cs,rfl,h1,h2,wo h3 k⟩
theorem Er{w:World}{D:aJ}{E:aN} : ∀ {xs:List I} {us:List Value} {i:Nat} {y:I} {v:Value} {cs:List Value},ar w D E xs us→ba y v cs→ae w D E y cs→ar w D E (xs.set i y) (us.set i v)
 | [],us,i,y,v,cs,h,_,_=>by simp only[ar] at h;subst h;simp[ar]
 |x::xs,us,i,y,v,cs,h,k1,k2=>by
  simp only[ar] at h;obtain ⟨u,rest,ds,rfl,h1,h2,h3⟩:=h;cases i with
  |zero=>simp only[List.set_cons_zero,ar];exact ⟨v,rest,cs,rfl,k1,k2,h3⟩
  |succ i=>simp only[List.set_cons_succ,ar];exact ⟨u,_,ds,rfl,h1,h2,Er h3 k1 k2⟩
theorem Ep{w:World}{D:aJ}{E:aN}{y:I}{v:Value}{cs:List Value}(h1:ba y v cs)(h2:ae w D E y cs):ar w D E [y] [v]:=by
 simp only[ar];exact ⟨v,[],cs,rfl,h1,h2,rfl⟩
theorem AA{ty:cj}{k:I} : ∀ {ks:List I} {i j:Nat},gZ ty k ks i=some (some j)→∃ x,ks[j-i]?=some x∧i≤j∧b7 ty k x=some true
 | [],i,j,h=>by simp[gZ] at h
 |x::xs,i,j,h=>by
  simp only[gZ] at h;split at h
  ·rename_i hb;simp only[v6] at h;subst h;exact ⟨x,by simp,Z7 _,hb⟩
  ·obtain ⟨y,h1,h2,h3⟩:=AA h;refine ⟨y,?_,by omega,h3⟩;rw[show j-i=(j-(i+1))+1 from by omega];simpa using h1
  ·cases h
theorem zZ{t kt et:TypeId}{m k v:Operand}{m' k' v':aF}{ty:cj}{n:Nat}{ks vs ks' vs':List I}(ho:o.op=.mapUpdate t m k v∨o.op=.insert t m k v)(hu:c.P.underlying t=some (.map kt et))(hk:jn c.P kt=some ty)
  (hm:aU c.P 0 m=some m') (hk':aU c.P 0 k=some k') (hv':aU c.P et v=some v') (hmm:af A m'=.mref n) (hn:A.o n=some (.cg ks vs)) (hl:pY ty (af A k') (af A v') ks vs=some (ks',vs')) (hd:o.dst=none) :
  gn c A o (A.aS n (.cg ks' vs')):=by
 intro a w D E hs;have h1:=br hs hm;have h2:=br hs hk';have h3:=br hs hv';rw[hmm] at h1;unfold pY at hl;split at hl
 case isFalse=>cases hl
 rename_i hc;obtain ⟨hkk,hkv,hvv⟩:=hc;obtain ⟨rk,hrk⟩:=zz7.1 hkk;have hchk:=fun em=>uq (P:=c.P) (w:=w) (em:=em) hk h2 hrk 9998;obtain ⟨kcs,kp1,kp2⟩:=nA hkv h2;obtain ⟨vcs,vp1,vp2⟩:=nA hvv h3;obtain ⟨b,es,ck,k1,k2,k3,k4,k5,k6,k7⟩:=hs.map hn;have hmv:a.eval m=.map (some b):=by
  obtain ⟨cs,q1,q2⟩:=h1;simp only[ae] at q2;obtain ⟨b',q3,q4⟩:=q2;rw[k1] at q3;cases q3;simpa[ba,I.isAgg,q4] using q1.symm
 -- the new entries
 have step:∀ (es':Array MapEntry) (ck':Nat),(Instr.mapUpdate t (.map (some b)) (a.eval k) (a.eval v)).run c.P w=.ok () (w.putObj b (.map es' ck'))→nt es' ck'→ar w D E ks' (es'.toList.map (·.key))→ar w D E vs' (es'.toList.map (·.val)) →
   ∃ w',((∃ u,(execOp a.eval o).run c.P w=.ok (.value u) w'∧bC c (A.aS n (.cg ks' vs')) (a.put o.dst u) w')∨((execOp a.eval o).run c.P w=.ok .skip w'∧bC c (A.aS n (.cg ks' vs')) (a.put o.dst undef) w')):=fun es' ck' hrun hst hks hvs=>by
  refine ⟨w.putObj b (.map es' ck'),.inr ⟨?_,?_⟩⟩
  ·rcases ho with ho | ho <;>simp only[execOp,ho,hmv,Sem.run_bind,hrun,Result.andThen_ok,Sem.run_pure]
  ·rw[hd];have:=hs.wF (o':=.map es' ck') (x:=.cg ks' vs') k1 rfl rfl k3 rfl (fun q=>by simp) k2 (fun hl' hh hno=>⟨b,es',ck',k1,k2,hh,hst,ar.later hl' _ _ hks,ar.later hl' _ _ hvs,hno⟩);exact ⟨D,E,this⟩
 split at hl
 ·rename_i i hfi;simp only[v6,Prod.mk.injEq] at hl;obtain ⟨rfl,rfl⟩:=hl;obtain ⟨q,q1,q2⟩:=nX hk h2 k5 hfi;rcases q2 with ⟨e,_⟩ | ⟨j,e,e1,e2,rfl⟩
  ·cases e
  simp only[Z5,v6] at e1;subst e1;obtain ⟨y,y1,_,y2⟩:=AA hfi;simp only[Nat.sub_zero] at y1;obtain ⟨y',y3,y4⟩:=lA (j:=i) (v:=e.key) k5 (by simp only[zy4,e2,Z8]);rw[y1,v6] at y3;subst y3;obtain ⟨_,kk2,kk3⟩:=Wc hk y2 h2 y4;have hes:es[i]?=some e:=by rw[←zy2];exact e2
  have hlen:i<es.size:=(zz4.1 hes).1;refine step (es.modify i fun e => { e with key:=a.eval k,val:=a.eval v }) ck ?_ ?_ ?_ ?_
  ·have hsb:Instr.sameBits 10000 (((es[i]?).map (·.key)).getD (a.eval k)) (a.eval k)=true:=by
    rw[hes];simp only[Z8,Option.getD_some];rw[←kk2];rw[←kk2] at kk3;exact kk3
   simp only[Instr.mapUpdate,Sem.run_bind,run_underlying hu,Result.andThen_ok,MapKept.run_getObj_map k3,hchk,q1,Z5,Instr.keyThatStays,hsb,if_true,Sem.run_pure,MapKept.run_setObj_map _ k3];rfl
  all_goals
   have em:(es.modify i fun e => { e with key:=a.eval k,val:=a.eval v }).toList=es.toList.set i { e with key:=a.eval k,val:=a.eval v } :=by
    rw[Array.toList_modify];apply List.ext_getElem?;intro j;rw[List.getElem?_modify,List.getElem?_set];by_cases hij:i=j
    ·subst hij;have hge:es[i]'hlen=e:=(zz4.1 hes).2;simp[hlen,hge]
    ·simp[hij]
  ·refine ⟨fun x hx =>?_,?_⟩
   ·rw[em] at hx;rcases List.mem_or_eq_of_mem_set hx with hx | rfl
    ·exact k4.1 x hx
    ·exact k4.1 e (List.mem_of_getElem? e2)
   ·rw[em];have:(es.toList.set i { e with key:=a.eval k,val:=a.eval v }).map (·.born)=es.toList.map (·.born):=by
     rw[List.map_set];apply List.ext_getElem?;intro j;rw[List.getElem?_set];split
     ·rename_i hij;subst hij;simp[e2];exact hlen
     ·rfl
    rw[this];exact k4.2
  ·rw[em,List.map_set];have:(es.toList.map (·.key)).set i (a.eval k)=es.toList.map (·.key):=by
    apply List.ext_getElem?;intro j;rw[List.getElem?_set];split
    ·rename_i hij;subst hij;simp[e2,kk2];exact hlen
    ·rfl
   simp only[this];exact k5
  ·rw[em,List.map_set];exact Er k6 vp1 vp2
 ·rename_i hfi;simp only[v6,Prod.mk.injEq] at hl;obtain ⟨rfl,rfl⟩:=hl;obtain ⟨q,q1,q2⟩:=nX hk h2 k5 hfi;rcases q2 with ⟨_,rfl⟩ | ⟨j,e,e1,_⟩
  case inr=>cases e1
  refine step (es.push { key:=a.eval k,val:=a.eval v,born:=ck }) (ck+1) ?_ ⟨fun x hx =>?_,?_⟩ ?_ ?_
  ·simp only[Instr.mapUpdate,Sem.run_bind,run_underlying hu,Result.andThen_ok,MapKept.run_getObj_map k3,hchk,q1,MapKept.run_setObj_map _ k3];rfl
  ·simp only[Array.toList_push,zy9,zx4] at hx;rcases hx with hx | rfl
   ·have:=k4.1 x hx;omega
   ·simp
  ·simp only[Array.toList_push,zy7,Z3,zz6];refine List.nodup_append.2 ⟨k4.2,by simp,fun x hx y hy =>?_⟩;simp only[zx4] at hy;subst hy;obtain ⟨e,he,rfl⟩:=zy3.1 hx;exact Nat.ne_of_lt (k4.1 e he)
  ·simp only[Array.toList_push,zy7,Z3,zz6];exact wo k5 (Ep kp1 kp2)
  ·simp only[Array.toList_push,zy7,Z3,zz6];exact wo k6 (Ep vp1 vp2)
 ·cases hl
theorem sj{α β:Type}(f:α→β):∀ (l:List α) (i:Nat),(l.eraseIdx i).map f=(l.map f).eraseIdx i
 | [],_=>rfl
 |x::xs,0=>rfl
 |x::xs,i+1=>by simp only[List.eraseIdx_cons_succ,Z3,sj f xs i]
theorem wu{w:World}{D:aJ}{E:aN} : ∀ {xs:List I} {us:List Value} (i:Nat),ar w D E xs us→ar w D E (xs.eraseIdx i) (us.eraseIdx i)
 | [],us,i,h=>by simp only[ar] at h;subst h;simp[ar]
 |x::xs,us,i,h=>by
  simp only[ar] at h;obtain ⟨v,rest,cs,rfl,h1,h2,h3⟩:=h;cases i with
  |zero=>exact h3
  |succ i=>simp only[List.eraseIdx_cons_succ,ar];exact ⟨v,_,cs,rfl,h1,h2,wu i h3⟩
theorem L6{t kt et t':TypeId}{m k:Operand}{m' k':aF}{ty:cj}{n:Nat}{ks vs ks' vs':List I}(ho:o.op=.call { callee:=.builtin .delete,args := #[m,k],argTypes := #[t,t'] })(hu:c.P.underlying t=some (.map kt et))(hk:jn c.P kt=some ty)
  (hm:aU c.P 0 m=some m') (hk':aU c.P 0 k=some k') (hmm:af A m'=.mref n) (hn:A.o n=some (.cg ks vs)) (hl:vv ty (af A k') ks vs=some (ks',vs')) (hd:o.dst=none) :
  gn c A o (A.aS n (.cg ks' vs')):=by
 intro a w D E hs;have h1:=br hs hm;have h2:=br hs hk';rw[hmm] at h1;unfold vv at hl;split at hl
 case isFalse=>cases hl
 rename_i hkk;obtain ⟨rk,hrk⟩:=zz7.1 hkk;have hchk:=fun em=>uq (P:=c.P) (w:=w) (em:=em) hk h2 hrk 9998;obtain ⟨b,es,ck,k1,k2,k3,k4,k5,k6,k7⟩:=hs.map hn;have hmv:a.eval m=.map (some b):=by
  obtain ⟨cs,q1,q2⟩:=h1;simp only[ae] at q2;obtain ⟨b',q3,q4⟩:=q2;rw[k1] at q3;cases q3;simpa[ba,I.isAgg,q4] using q1.symm
 have step:∀ (es':Array MapEntry),(Builtin.delete_ #[t,t'] o.type #[.map (some b),a.eval k]).run c.P w=.ok (.tuple #[]) (w.putObj b (.map es' ck))→nt es' ck→ar w D E ks' (es'.toList.map (·.key))→ar w D E vs' (es'.toList.map (·.val)) →
   ∃ w',((∃ u,(execOp a.eval o).run c.P w=.ok (.value u) w'∧bC c (A.aS n (.cg ks' vs')) (a.put o.dst u) w')∨((execOp a.eval o).run c.P w=.ok .skip w'∧bC c (A.aS n (.cg ks' vs')) (a.put o.dst undef) w')):=fun es' hrun hst hks hvs=>by
  refine ⟨w.putObj b (.map es' ck),.inl ⟨.tuple #[],?_,?_⟩⟩
  ·simp[execOp,ho,resolve,invoke,builtin,hmv,hrun]
  ·rw[hd];have:=hs.wF (o':=.map es' ck) (x:=.cg ks' vs') k1 rfl rfl k3 rfl (fun q=>by simp) k2 (fun hl' hh hno=>⟨b,es',ck,k1,k2,hh,hst,ar.later hl' _ _ hks,ar.later hl' _ _ hvs,hno⟩);exact ⟨D,E,this⟩
 split at hl
 ·rename_i i hfi;simp only[v6,Prod.mk.injEq] at hl;obtain ⟨rfl,rfl⟩:=hl;obtain ⟨q,q1,q2⟩:=nX hk h2 k5 hfi;rcases q2 with ⟨e,_⟩ | ⟨j,e,e1,e2,rfl⟩
  ·cases e
  simp only[Z5,v6] at e1;subst e1;have hes:es[i]?=some e:=by rw[←zy2];exact e2
  have hlen:i<es.size:=(zz4.1 hes).1;have em:(es.eraseIdxIfInBounds i).toList=es.toList.eraseIdx i:=by
   simp[Array.eraseIdxIfInBounds,hlen]
  refine step (es.eraseIdxIfInBounds i) ?_ ⟨fun x hx =>?_,?_⟩ ?_ ?_
  ·simp[Builtin.delete_,run_underlying hu,MapKept.run_getObj_map k3,hchk,q1,MapKept.run_setObj_map _ k3];rfl
  ·rw[em] at hx;exact k4.1 x (List.mem_of_mem_eraseIdx hx)
  ·rw[em,sj];exact k4.2.sublist (List.eraseIdx_sublist _ _)
  ·rw[em,sj];exact wu i k5
  ·rw[em,sj];exact wu i k6
 ·rename_i hfi;simp only[v6,Prod.mk.injEq] at hl;obtain ⟨rfl,rfl⟩:=hl;obtain ⟨q,q1,q2⟩:=nX hk h2 k5 hfi;rcases q2 with ⟨_,rfl⟩ | ⟨j,e,e1,_⟩
  case inr=>cases e1
  refine step es ?_ k4 k5 k6;simp[Builtin.delete_,run_underlying hu,MapKept.run_getObj_map k3,hchk,q1,MapKept.run_setObj_map _ k3];rfl
 ·cases hl
theorem L9{t kt et:TypeId}{y:Operand}{y':aF}{ks vs:List I}{d:Nat}(ho:o.op=.range t y)(hu:c.P.underlying t=some (.map kt et))(hy:aU c.P 0 y=some y')(h:af A y'=.cY ks vs)(hd:o.dst=some d)(hn:d<c.n)(hf:A.o d=none) :
  gn c A o ((A.aS d (.it ks vs (List.range ks.length) none)).put d (.cU d)):=by
 intro a w D E hs;have h1:=br hs hy;rw[h] at h1;obtain ⟨cs,q1,q2⟩:=h1;simp only[ae] at q2;obtain ⟨b,es,ck,q3,q4,q5,q6⟩:=q2;have hv:a.eval y=.map (some b):=by simpa[ba,I.isAgg,q3] using q1.symm
 have h2:=hs.WS (.inl hn) hf q4 q5 q6;have h3:=h2.put (x:=.cU d) (v:=.pointer (some ⟨w.heap.size,0,none⟩)) hn ⟨_,by simp[ba,I.isAgg];rfl,by
  simp only[ae,if_true];exact ⟨w.heap.size,rfl,rfl⟩⟩
 refine ⟨w.alloc (.mapIter (some b) ck #[] ck),.inl ⟨.pointer (some ⟨w.heap.size,0,none⟩),?_,D,_,by rw[hd];exact h3⟩⟩;simp only[execOp,ho,hv,Sem.run_bind,run_range_map w t kt et b es ck hu q4.1,Result.andThen_ok,Sem.run_pure]
theorem BP{es:Array MapEntry}{seen:Array Nat}{i:Nat} : i∈mK es seen↔∃ e,es[i]?=some e∧seen.contains e.born=false:=by
 unfold mK;simp only[List.mem_filter,List.mem_range];constructor
 ·rintro ⟨h1,h2⟩;rw[zx6 h1] at h2 ⊢;exact ⟨_,rfl,by simpa using h2⟩
 ·rintro ⟨e,h1,h2⟩;exact ⟨(zz4.1 h1).1,by rw[h1];simpa using h2⟩
theorem Zr{es:Array MapEntry}{ck:Nat}(hst:nt es ck){i j:Nat}{e f:MapEntry}(hi:es[i]?=some e)(hj:es[j]?=some f)(h:e.born=f.born):i=j:=by
 have hn:=hst.2;rw[←zy2] at hi hj;have h1:(es.toList.map (·.born))[i]?=some e.born:=by rw[zy4,hi];rfl
 have h2:(es.toList.map (·.born))[j]?=some e.born:=by rw[zy4,hj,h];rfl
 have hil:i<(es.toList.map (·.born)).length:=(Z6.1 h1).1;have hjl:j<(es.toList.map (·.born)).length:=(Z6.1 h2).1;exact (List.getElem?_inj hil hn).1 (h1.trans h2.symm)
theorem Wt{es:Array MapEntry}{seen:Array Nat}{ck i:Nat}{e:MapEntry}(hst:nt es ck)(hi:es[i]?=some e):mK es (seen.push e.born)=(mK es seen).filter (· != i):=by
 unfold mK;rw[List.filter_filter];refine List.filter_congr fun j hj =>?_;have hjl:j<es.size:=by simpa using hj
 rw[zx6 hjl];simp only[Array.contains_push];by_cases hij:j=i
 ·subst hij;rw[zx6 hjl,v6] at hi;simp[hi]
 ·have:(es[j].born==e.born)=false:=by
   simp only[beq_eq_false_iff_ne,ne_eq];exact fun h=>hij (Zr hst (zx6 hjl) hi h)
  have h2:(j != i)=true:=by simpa using hij
  simp[this,h2]
theorem WU{y:Operand}{y':aF}{ks vs:List I}{left:List Nat}{cur:Option Nat}{n:Nat}(ho:o.op=.next y false)(hy:aU c.P 0 y=some y')(h:af A y'=.cU n)(hn:A.o n=some (.it ks vs left cur))(hdn:∀ k,o.dst=some k→k<c.n){a:Act}{w:World}{D:aJ}{E:aN}(hs:aL c A a w D E) :
  ∃ w' v,(execOp a.eval o).run c.P w=.ok (.value v) w'∧((left=[]∧bC c (A.aP o.dst (.tuple [.bool false])) (a.put o.dst v) w') ∨
   ∃ i k x,i∈left∧ks[i]?=some k∧vs[i]?=some x∧bC c ((A.aS n (.it ks vs (left.filter (· != i)) (some i))).aP o.dst (.tuple [.bool true,k,x])) (a.put o.dst v) w'):=by
 have h1:=br hs hy;rw[h] at h1;obtain ⟨cs,q1,q2⟩:=h1;simp only[ae] at q2;obtain ⟨r,q3,q4⟩:=q2;have hv:a.eval y=.pointer (some ⟨r,0,none⟩):=by simpa[ba,I.isAgg,q4] using q1.symm
 have hob:=hs.bB n;rw[hn] at hob;obtain ⟨r',b,es,ck,since,seen,last,k1,k2,k3,k4,k5,k6,k7,k8,k9,k9',k10⟩:=hob;rw[k1] at q3;cases q3;rcases run_next_at (P:=c.P) w o.type r b since last seen es ck k3 k4.1 k7 k8.1 with ⟨h0,hrun⟩ | ⟨e,he,w1,hal,hrun⟩
 ·refine ⟨w,.tuple #[.bool false],by simp only[execOp,ho,hv,Sem.run_bind,hrun,Result.andThen_ok,Sem.run_pure],.inl ⟨?_,D,E,hs.aP hdn ?_⟩⟩
  ·rw[k9];refine List.eq_nil_iff_forall_not_mem.2 fun i hi =>?_;obtain ⟨e,h1,h2⟩:=BP.1 hi;have hm:e∈leftOf es seen:=by
    unfold leftOf;simp only[Array.mem_filter];exact ⟨Array.mem_of_getElem? h1,by simpa using h2⟩
   rw[Array.eq_empty_of_size_eq_zero h0] at hm;simp at hm
  ·simp only[aR,ar];exact ⟨[.bool false],rfl,.bool false,[],[.bool false],rfl,by simp[ba,I.isAgg],by simp[ae],rfl⟩
 ·have hmem:e∈es.toList∧seen.contains e.born=false:=by
   unfold leftOf at he;simp only[Array.toList_filter,List.mem_filter] at he;exact ⟨he.1,by simpa using he.2⟩
  obtain ⟨i,hi⟩:=List.getElem?_of_mem hmem.1;have hie:es[i]?=some e:=by rw[←zy2];exact hi
  obtain ⟨k,hk1,hk2⟩:=lA (j:=i) (v:=e.key) k5 (by simp only[zy4,hi,Z8]);obtain ⟨x,hx1,hx2⟩:=lA (j:=i) (v:=e.val) k6 (by simp only[zy4,hi,Z8]);have hsw:aL c A a w1 D E:=by
   rcases hal with rfl | rfl
   ·exact hs
   ·exact hs.grow (w':=w.drew) (D':=D) ⟨rfl,rfl,rfl,Z7 _,fun _ _=>rfl⟩ (fun _ _ h=>h) (fun _ _ h _=>h) (fun b o hd=>hs.cO b o hd)
  have hw1:w1.heap=w.heap:=by rcases hal with rfl | rfl <;>rfl
  have k3':w1.heap[r]?=some (.mapIter (some b) since seen last):=by rw[hw1];exact k3
  have hset:=hsw.wF (x:=.it ks vs (left.filter (· != i)) (some i)) (o':=.mapIter (some b) since (seen.push e.born) ck) k1 rfl rfl k3' rfl (fun q=>by simp) k2
   (fun hl hh hno=>by
    have hm:mL w1 D b es ck:=⟨by rw[hw1];exact k4.1,k4.2.1,k4.2.2⟩
    have hob:=hsw.bB n;rw[hn] at hob;refine ⟨r,b,es,ck,since,seen.push e.born,ck,k1,k2,hh,hm.later hl,ar.later hl _ _ ?_,ar.later hl _ _ ?_,k7,?_,?_,fun j hj =>?_,hno⟩
    ·obtain ⟨iF,b2,es2,ck2,si2,se2,la2,g1,g2,g3,g4,g5,g6,_⟩:=hob;rw[k1] at g1;cases g1;rw[k3'] at g3;cases g3;have:=g4.1;rw[hw1,k4.1] at this;cases this;exact g5
    ·obtain ⟨iF,b2,es2,ck2,si2,se2,la2,g1,g2,g3,g4,g5,g6,_⟩:=hob;rw[k1] at g1;cases g1;rw[k3'] at g3;cases g3;have:=g4.1;rw[hw1,k4.1] at this;cases this;exact g6
    ·exact ⟨k8.2,k8.2⟩
    ·rw[k9,Wt k4.2.2 hie]
    ·cases hj;exact ⟨e,hie,by simp,rfl⟩)
  have hset':aL c (A.aS n (.it ks vs (left.filter (· != i)) (some i))) a (ChangeMaps.setBlock w1 r (.mapIter (some b) since (seen.push e.born) ck)) D E:=hset;refine ⟨_,.tuple #[.bool true,e.key,e.val],by simp only[execOp,ho,hv,Sem.run_bind,hrun,Result.andThen_ok,Sem.run_pure],.inr ⟨i,k,x,?_,hk1,hx1,D,E,hset'.aP hdn ?_⟩⟩
  ·rw[k9];exact BP.2 ⟨e,hie,hmem.2⟩
  ·have hob2:=hset'.bB n;simp only[ab.aS,if_true] at hob2;obtain ⟨iF,b2,es2,ck2,si2,se2,la2,g1,g2,g3,g4,g5,g6,_⟩:=hob2;rw[k1] at g1;cases g1;have hr2:(ChangeMaps.setBlock w1 r (.mapIter (some b) since (seen.push e.born) ck)).heap[r]?=some (.mapIter (some b) since (seen.push e.born) ck):=World.putObj_heap_same (w:=w1) (eQ k3');rw[hr2] at g3;cases g3;have hb2:(ChangeMaps.setBlock w1 r (.mapIter (some b) since (seen.push e.born) ck)).heap[b]?=some (.map es ck):=by
    have:b≠r:=fun e=>by rw[e] at k4;rw[k4.1] at k3;cases k3
    refine (World.putObj_heap_other (w:=w1) this).trans ?_;rw[hw1];exact k4.1
   have:=g4.1;rw[hb2] at this;cases this;obtain ⟨kk,a1,a2⟩:=lA (j:=i) (v:=e.key) g5 (by simp only[zy4,hi,Z8]);rw[hk1] at a1;cases a1;obtain ⟨xx,b1,b2⟩:=lA (j:=i) (v:=e.val) g6 (by simp only[zy4,hi,Z8]);rw[hx1] at b1;cases b1;obtain ⟨c1,c2,c3⟩:=nA (oI k5 hk1) a2;obtain ⟨d1,d2,d3⟩:=nA (oI k6 hx1) b2;simp only[aR,ar];exact ⟨[.bool true,e.key,e.val],rfl,.bool true,_,[.bool true],rfl,by simp[ba,I.isAgg],by simp[ae],e.key,_,c1,rfl,c2,c3,e.val,[],d1,rfl,d2,d3,rfl⟩
theorem Vg{y:Operand}{y':aF}{ks vs:List I}{left:List Nat}{i n:Nat}{k x:I}(ho:o.op=.entry y)(hy:aU c.P 0 y=some y')(h:af A y'=.cU n)(hn:A.o n=some (.it ks vs left (some i)))(hk:ks[i]?=some k)(hx:vs[i]?=some x):cI c A o (.tuple [k,x]) :=
 .same fun a w D E hs=>by
  have h1:=br hs hy;rw[h] at h1;obtain ⟨cs,q1,q2⟩:=h1;simp only[ae] at q2;obtain ⟨r,q3,q4⟩:=q2;have hv:a.eval y=.pointer (some ⟨r,0,none⟩):=by simpa[ba,I.isAgg,q4] using q1.symm
  have hob:=hs.bB n;rw[hn] at hob;obtain ⟨r',b,es,ck,since,seen,last,k1,k2,k3,k4,k5,k6,k7,k8,k9,k9',k10⟩:=hob;rw[k1] at q3;cases q3;obtain ⟨e,e1,e2,rfl⟩:=k9' i rfl;have hi:es.toList[i]?=some e:=by rw[zy2];exact e1
  obtain ⟨kk,a1,a2⟩:=lA (j:=i) (v:=e.key) k5 (by simp only[zy4,hi,Z8]);rw[hk] at a1;cases a1;obtain ⟨xx,b1,b2⟩:=lA (j:=i) (v:=e.val) k6 (by simp only[zy4,hi,Z8]);rw[hx] at b1;cases b1;obtain ⟨c1,c2,c3⟩:=nA (oI k5 hk) a2;obtain ⟨d1,d2,d3⟩:=nA (oI k6 hx) b2;have hf:es.find? (·.born==e.born)=some e:=by rw[←Array.find?_toList];exact find_born e es.toList k4.2.2.2 (List.mem_of_getElem? hi)
  refine ⟨.tuple #[e.key,e.val],?_,?_⟩
  ·have hr:(Instr.entry (.pointer (some ⟨r,0,none⟩))).run c.P w=.ok (.tuple #[e.key,e.val]) w:=by
    simp only[Instr.entry,getObj,Sem.run_bind,Sem.run,k3,k4.1,Result.andThen,e2,bne_self_eq_false,Z4,if_false,hf];rfl
   simp only[execOp,ho,hv,Sem.run_bind,hr,Result.andThen_ok,Sem.run_pure]
  ·simp only[aR,ar];exact ⟨[e.key,e.val],rfl,e.key,_,c1,rfl,c2,c3,e.val,[],d1,rfl,d2,d3,rfl⟩
theorem DZ{w:World}{D:aJ}{E:aN}{z:I}{v:Value}(h:ae w D E z [v]):∀ n:Nat,aH w D E (List.replicate n z) (List.replicate n v)
 |0=>by simp[aH]
 |n+1=>by simp only[List.replicate_succ,aH];exact ⟨[v],_,rfl,h,DZ h n⟩
theorem L8{t e:TypeId}{l l':Operand}{n':aF}{z:I}{n d:Nat}{k:IntKind}(ho:o.op=.makeSlice t l l')(hll:l'=l)(hu:c.P.underlying t=some (.slice e))(hl:aU c.P 0 l=some n')(h:af A n'=.int k n)(hz:fu c.P e=some z)(hz1:z.size=1)
  (hc1:c.P.cellsOf e=1) (hby:n*c.P.bytesOf e≤281474976710656) (hmax:n≤maxLen) (hd:o.dst=some d) (hn:d<c.n) (hf:A.o d=none):gn c A o ((A.aS d (.box (.agg (List.replicate n z)))).put d (.view d [] 1 0 n)):=by
 subst hll;intro a w D E hs;have h1:=br hs hl;rw[h] at h1;obtain ⟨e1,_⟩:=dk h1;obtain ⟨i,zv,hi,hzz,hzr⟩:=kN hz;have hzc:=ae.length _ _ (hzr w D E);rw[hz1] at hzc;obtain ⟨u,hu1⟩:∃ u,zv.cells = #[u]:=by
  have:zv.cells.size=1:=by simpa using hzc
  obtain ⟨u,hu⟩:=Array.size_eq_one_iff.1 this;exact ⟨u,hu⟩
 have hsz:i.size=1:=by have:=hc1;simp only[Program.cellsOf,hi,Z8,Option.getD_some] at this;exact this
 have hbytes:(i.bytes:Int)*(n:Int)≤281474976710656:=by
  have:c.P.bytesOf e=i.bytes:=by simp[Program.bytesOf,hi]
  rw[this] at hby;have h2:((i.bytes*n:Nat):Int)≤281474976710656:=by rw[Nat.mul_comm] at hby;omega
  rwa [Int.natCast_mul] at h2
 have hrun:=run_make (P:=c.P) w t e i zv hu hi hzz k k n n (by omega) (Int.le_refl _) hbytes (by have h9:=hmax;unfold maxLen at h9;omega);simp only[Int.toNat_natCast,hsz,Nat.mul_one] at hrun;have hmc:(madeCells zv.cells n).toList=List.replicate n u:=by
  rw[hu1];simp only[madeCells];apply List.ext_getElem?;intro j;simp[List.getElem?_replicate];split <;>simp_all[Nat.mod_one]
 have hcells:ae w D E (.agg (List.replicate n z)) (madeCells zv.cells n).toList:=by
  rw[hmc];simp only[ae];refine DZ ?_ n;have:=hzr w D E;rw[hu1] at this;simpa using this
 have h2:=hs.p6 (T:=e) (.inl hn) hf hcells;have h3:=h2.put (x:=.view d [] 1 0 n) (v:=.slice (some ⟨w.heap.size,0,none⟩) n n) hn ⟨_,by simp[ba,I.isAgg];rfl,by
  simp only[ae,if_true];refine ⟨w.heap.size,_,0,I.cF (List.replicate n z),rfl,by simp[bS.off],by simp[I.aK,bS.part],by simp[I.cG],by simpa[I.cG] using hmax,by simp[I.cG],fun s hs =>?_⟩;rw[I.cG] at hs;obtain ⟨y,hy,rfl⟩:=zy3.1 hs;rw[I.ik,(List.mem_replicate.1 hy).2,hz1]⟩
 refine ⟨_,.inl ⟨_,?_,D,_,by rw[hd];exact h3⟩⟩;simp only[execOp,ho,e1,Sem.run_bind,hrun,Result.andThen_ok,Sem.run_pure]
end
section
variable {c:cn} {A:ab} {o:Oper} {x:I}
theorem sq{w:World}{D:aJ}{E:aN}{s:ByteArray}(h:s.size≤maxLen):aR w D E (.ak s) (.string s):=⟨[.string s],by simp[ba,I.isAgg],by simp only[ae,true_and];exact h⟩
theorem VE{t:TypeId}{y z:Operand}{y' z':aF}(ho:o.op=.index t y z)(hu:c.P.underlying t=some .string)(hy:aU c.P 0 y=some y')(hz:aU c.P 0 z=some z')(h:ep .dK [af A y',af A z']=some x):cI c A o x :=
 .same fun a w D E hs=>by
  have h1:=br hs hy;have h2:=br hs hz;generalize af A y'=u at *;generalize af A z'=v at *;unfold ep at h;split at h <;>try (rename_i e _;cases e;done)
  all_goals try (rename_i e1 e2;cases e1;done)
  all_goals try (cases h;done)
  rename_i s k i _ e;simp only[zz9,and_true] at e;obtain ⟨rfl,rfl⟩:=e;split at h
  case isFalse=>cases h
  rename_i hi;simp only[t7] at h;obtain ⟨b,hb,rfl⟩:=h;obtain ⟨e1,hs1⟩:=fS h1;obtain ⟨e2,iF⟩:=dk h2;obtain ⟨hlt,hbe⟩:=Z6.1 hb;have hlt':i.toNat<s.size:=by simpa using hlt
  have hget:s[i.toNat]?=some b:=by
   rw[getElem?_pos s i.toNat hlt']
   congr 1
  refine ⟨.int .u8 b.toNat,?_,hU ⟨?_,?_⟩⟩
  ·simp only[execOp,ho,e1,e2];simp[Instr.index,run_underlying hu,asIntOf,hi,hget]
  ·simp[IntKind.min,IntKind.signed]
  ·have:=b.toNat_lt;simp[IntKind.max,IntKind.bits,IntKind.signed];omega
theorem vV{P:Program}{w:World}{lo hi:Bool}{xs:List I}(h:ep (.ss lo hi) xs=some x) :
  ∃ s:ByteArray,xs.head?=some (.ak s)∧∀ (t:TypeId),P.underlying t=some .string→∃ l r:Nat,l≤r∧r≤s.size∧x=.ak (s.extract l r) ∧
   ((lo=true∧hi=true∧∃ k k',xs=[.ak s,.int k l,.int k' r]∧(Instr.sliceAt t (.string s) (some (.int k l)) (some (.int k' r)) none).run P w=.ok (.string (s.extract l r)) w) ∨
    (lo=true∧hi=false∧∃ k,xs=[.ak s,.int k l]∧(Instr.sliceAt t (.string s) (some (.int k l)) none none).run P w=.ok (.string (s.extract l r)) w) ∨
    (lo=false∧hi=true∧∃ k,xs=[.ak s,.int k r]∧(Instr.sliceAt t (.string s) none (some (.int k r)) none).run P w=.ok (.string (s.extract l r)) w)):=by
 unfold ep at h;split at h <;>(try (rename_i e _;cases e;done)) <;>(try (cases h;done)) <;>(try (rename_i e;cases e))
 ·rename_i s k i;split at h
  case isFalse=>cases h
  rename_i hi;simp only[v6] at h;subst h;obtain ⟨n,rfl⟩:=zy1 hi.1;refine ⟨s,rfl,fun t hu=>⟨0,n,zx7 _,by omega,rfl,.inr (.inr ⟨rfl,rfl,k,rfl,?_⟩)⟩⟩;have:n≤s.size:=by omega
  simp[Instr.sliceAt,Instr.slice,run_underlying hu,Instr.sliceBounds,Instr.sliceBound,asIntOf,this]
 ·rename_i s k i;split at h
  case isFalse=>cases h
  rename_i hi;simp only[v6] at h;subst h;obtain ⟨n,rfl⟩:=zy1 hi.1;refine ⟨s,rfl,fun t hu=>⟨n,s.size,by omega,Z7 _,rfl,.inr (.inl ⟨rfl,rfl,k,rfl,?_⟩)⟩⟩;have:n≤s.size:=by omega
  simp[Instr.sliceAt,Instr.slice,run_underlying hu,Instr.sliceBounds,Instr.sliceBound,asIntOf,this]
 ·rename_i s k i k' j;split at h
  case isFalse=>cases h
  rename_i hi;simp only[v6] at h;subst h;obtain ⟨n,rfl⟩:=zy1 hi.1;obtain ⟨m,rfl⟩:=zy1 (Int.le_trans hi.1 hi.2.1);refine ⟨s,rfl,fun t hu=>⟨n,m,by omega,by omega,rfl,.inl ⟨rfl,rfl,k,k',rfl,?_⟩⟩⟩;have h1:n≤m:=by omega
  have h2:m≤s.size:=by omega
  simp[Instr.sliceAt,Instr.slice,run_underlying hu,Instr.sliceBounds,Instr.sliceBound,asIntOf,h1,h2]
theorem uM{s:ByteArray}{l r:Nat}(h:s.size≤maxLen):(s.extract l r).size≤maxLen:=by
 rw[ByteArray.size_extract];omega
theorem VH{t:TypeId}{y z:Operand}{y' z':aF}(ho:o.op=.slice t y none (some z) none)(hu:c.P.underlying t=some .string)(hy:aU c.P 0 y=some y')(hz:aU c.P 0 z=some z')(h:ep (.ss false true) [af A y',af A z']=some x):cI c A o x :=
 .same fun a w D E hs=>by
  have h1:=br hs hy;have h2:=br hs hz;obtain ⟨s,e1,hh⟩:=vV (P:=c.P) (w:=w) h;obtain ⟨l,r,_,_,rfl,hc⟩:=hh t hu;simp only[List.head?_cons,v6] at e1;rcases hc with ⟨hc,_⟩ | ⟨hc,_⟩ | ⟨_,_,k,e,hr⟩
  ·cases hc
  ·cases hc
  simp only[zz9,and_true] at e;rw[e.1] at h1;rw[e.2] at h2;obtain ⟨v1,s1⟩:=fS h1;refine ⟨_,?_,sq (uM s1)⟩;simp only[execOp,ho,Z8,zy0,v1,(dk h2).1,Sem.run_bind,hr];rfl
theorem VI{t:TypeId}{y z:Operand}{y' z':aF}(ho:o.op=.slice t y (some z) none none)(hu:c.P.underlying t=some .string)(hy:aU c.P 0 y=some y')(hz:aU c.P 0 z=some z')(h:ep (.ss true false) [af A y',af A z']=some x):cI c A o x :=
 .same fun a w D E hs=>by
  have h1:=br hs hy;have h2:=br hs hz;obtain ⟨s,e1,hh⟩:=vV (P:=c.P) (w:=w) h;obtain ⟨l,r,_,_,rfl,hc⟩:=hh t hu;simp only[List.head?_cons,v6] at e1;rcases hc with ⟨_,hc,_⟩ | ⟨_,_,k,e,hr⟩ | ⟨hc,_⟩
  ·cases hc
  ·simp only[zz9,and_true] at e;rw[e.1] at h1;rw[e.2] at h2;obtain ⟨v1,s1⟩:=fS h1;refine ⟨_,?_,sq (uM s1)⟩;simp only[execOp,ho,Z8,zy0,v1,(dk h2).1,Sem.run_bind,hr];rfl
  ·cases hc
theorem VG{t:TypeId}{y z q:Operand}{y' z' q':aF}(ho:o.op=.slice t y (some z) (some q) none)(hu:c.P.underlying t=some .string)(hy:aU c.P 0 y=some y')(hz:aU c.P 0 z=some z')(hq:aU c.P 0 q=some q')(h:ep (.ss true true) [af A y',af A z',af A q']=some x):cI c A o x :=
 .same fun a w D E hs=>by
  have h1:=br hs hy;have h2:=br hs hz;have h3:=br hs hq;obtain ⟨s,e1,hh⟩:=vV (P:=c.P) (w:=w) h;obtain ⟨l,r,_,_,rfl,hc⟩:=hh t hu;simp only[List.head?_cons,v6] at e1;rcases hc with ⟨_,_,k,k',e,hr⟩ | ⟨_,hc,_⟩ | ⟨hc,_⟩
  ·simp only[zz9,and_true] at e;rw[e.1] at h1;rw[e.2.1] at h2;rw[e.2.2] at h3;obtain ⟨v1,s1⟩:=fS h1;refine ⟨_,?_,sq (uM s1)⟩;simp only[execOp,ho,Z8,zy0,v1,(dk h2).1,(dk h3).1,Sem.run_bind,hr];rfl
  ·cases hc
  ·cases hc
theorem VA{neg:Bool}{t yt:TypeId}{y z:Operand}{y':aF}{ms:Array (String×TypeId)}(ho:o.op=.binOp (if neg then .neq else .eql) t y z yt)(hu:c.P.underlying t=some (.interface ms))(hy:aU c.P 0 y=some y')(hz:aU c.P 0 z=some (.c .cQ))(h:ep (.mN neg) [af A y']=some x):cI c A o x :=
 .same fun a w D E hs=>by
  have h1:=br hs hy;have hz':z=.const .nilIface:=by
   cases z with
   |tmp n=>simp[aU] at hz
   |const v =>
    simp only[aU,t7,aF.c.injEq] at hz;obtain ⟨u,hu,rfl⟩:=hz;unfold rh at hu
    (repeat' split at hu) <;>first | (cases hu;done) | rfl
   |global g=>simp[aU] at hz
   |func f=>simp only[aU] at hz;split at hz <;>simp at hz
  subst hz';have he:∀ d v,(∃ tt u,v=Value.iface tt u)→(Op.equalIn (d+1) t v .nilIface).run c.P w=.ok false w:=fun d v hv=>by
   obtain ⟨tt,u,rfl⟩:=hv;simp[Op.equalIn,run_underlying hu]
  have hk:a.eval (.const .nilIface)=.nilIface:=rfl;have he':∀ d,(Op.equalIn (d+1) t .nilIface .nilIface).run c.P w=.ok true w:=fun d=>by simp[Op.equalIn,run_underlying hu]
  unfold ep at h;split at h <;>(try (rename_i e _;cases e;done)) <;>(try (cases h;done)) <;>(try (rename_i e1 e2;cases e1;done))
  ·rename_i ng e1 e;cases e1;simp only[zz9,and_true] at e;simp only[v6] at h;subst h;rw[e] at h1;obtain ⟨cs,q1,q2⟩:=h1;simp only[ae] at q2;have hv:a.eval y=.nilIface:=by simpa[ba,I.isAgg,q2] using q1.symm
   refine ⟨.bool (!neg),?_,km _⟩;cases neg <;>simp only[execOp,ho,hv,hk,if_true,Z4,if_false,Sem.run_bind,eqGuard] <;>simp[binOp,Op.equal,Op.maxDepth,he']
  ·rename_i ng tt u e1 e;cases e1;simp only[zz9,and_true] at e;simp only[v6] at h;subst h;rw[e] at h1;obtain ⟨cs,q1,q2⟩:=h1;simp only[ae] at q2;obtain ⟨u',cs',q3,q4,q5⟩:=q2;have hv:a.eval y=.iface tt u':=by simpa[ba,I.isAgg,q3] using q1.symm
   refine ⟨.bool neg,?_,km _⟩;cases neg <;>simp only[execOp,ho,hv,hk,if_true,Z4,if_false,Sem.run_bind,eqGuard] <;>simp[binOp,Op.equal,Op.maxDepth,he _ _ ⟨tt,u',rfl⟩]
theorem yf{w:World}{D:aJ}{E:aN} : ∀ {es:List I} {cs:List Value} {l:List UInt8},my es=some l→aH w D E es cs→cs=l.map fun b=>Value.int .u8 b.toNat
 | [],cs,l,h,hr=>by
  simp only[my,v6] at h;subst h;simpa[aH] using hr
 |x::xs,cs,l,h,hr=>by
  simp only[my] at h;split at h
  case h_2=>cases h
  rename_i n l' hl;simp only[v6] at h;subst h;simp only[aH] at hr;obtain ⟨c1,c2,rfl,h1,h2⟩:=hr;rw[yf hl h2];simp only[ae] at h1;obtain ⟨rfl,h3,h4⟩:=h1;simp only[IntKind.min,IntKind.max,IntKind.bits,IntKind.signed] at h3 h4;obtain ⟨m,rfl⟩:=zy1 (show 0≤n by simpa using h3);have:m<256:=by simp at h4;omega
  simp only[Z3,List.singleton_append,zz9,and_true,Value.int.injEq,true_and,Int.toNat_natCast];have e:(UInt8.ofNat m).toNat=m:=by simp;omega
  rw[e]
theorem Vb{t t' e:TypeId}{y:Operand}{y':aF}(ho:o.op=.convert t t' y)(hu:c.P.underlying t=some (.slice e))(he:c.P.underlying e=some (.int .u8))(hd:c.P.underlying t'=some .string)(hy:aU c.P 0 y=some y')(h:kT (cT A 1 (af A y'))=some x):cI c A o x :=
 .same fun a w D E hs=>by
  unfold kT at h;split at h
  case h_2=>cases h
  rename_i es hes;simp only[t7] at h;obtain ⟨l,hl,rfl⟩:=h;obtain ⟨ad,cp,news,hv,h1,h2,h3,h4,h5⟩:=hs.lI (br hs hy) hes;have hc:=yf hl h3;have hlen:es.length=l.length:=by
   have:=aH.length _ _ h3;rw[hc,I.gj _ h4] at this;simpa using this.symm
  refine ⟨.string ⟨l.toArray⟩,?_,sq ?_⟩
  ·simp only[execOp,ho,hv];rcases Nat.eq_zero_or_pos es.length with h0 | h0
   ·obtain rfl:l=[]:=zx2 (by omega);rw[h0];cases ad with
    |none =>
     simp only[Sem.run_bind,run_convert_bytes_nil w t e hu he 0 cp t' hd];rfl
    |some ad =>
     simp only[Sem.run_bind,run_convert_bytes_string w t t' e (some ad) 0 cp hu he hd,run_bytesToString w ad 0 cp [] (by simp[loadCells,loadCellsFrom])];rfl
   ·obtain ⟨b,off,rfl,h6⟩:=h5 (by intro e0;rw[e0] at h0;cases h0);rw[hlen];have key:=run_convert_bytes_arg (P:=c.P) w t e hu he b off l.length cp (l.map fun b=>(b.toNat:Int)) (by simp) (fun i hi=>by
     refine h6 i _ ?_;rw[hc];simp[zz0 hi,List.getD]) t' hd
    simp only[Sem.run_bind,key];have:strOfNums (l.map fun b=>(b.toNat:Int))=⟨l.toArray⟩:=by
     unfold strOfNums
     congr 1
     simp[Function.comp_def]
    rw[this];rfl
  ·show l.toArray.size≤maxLen
   simp;omega
theorem Vx{x':I}{y z:Operand}{y' z':aF}{tys:Array TypeId}(ho:o.op=.call { callee:=.builtin .min,args := #[y,z],argTypes:=tys })(hy:aU c.P 0 y=some y')(hz:aU c.P 0 z=some z')(h:ep .min2 [af A y',af A z']=some x'):cI c A o x' :=
 .same fun a w D E hs=>by
  have h1:=br hs hy;have h2:=br hs hz;generalize af A y'=u at *;generalize af A z'=v at *;unfold ep at h;split at h <;>(try (rename_i e _;cases e;done)) <;>(try (cases h;done)) <;>(try (rename_i e1 e2;cases e1;done))
  rename_i k n k2 m _ e;simp only[zz9,and_true] at e;obtain ⟨rfl,rfl⟩:=e;split at h
  case isFalse=>cases h
  rename_i hk;subst hk;simp only[v6] at h;subst h;obtain ⟨v1,r1⟩:=dk h1;obtain ⟨v2,iF⟩:=dk h2;refine ⟨.int k (if m<n then m else n),by simp[execOp,ho,resolve,invoke,builtin,Builtin.min_,Builtin.min2,v1,v2],hU ?_⟩;split
  ·exact iF
  ·exact r1
theorem Vv{t:TypeId}{y:Operand}{y':aF}(ho:o.op=.makeInterface t y)(hu:zK (c.P.underlying t)=true)(hy:aU c.P t y=some y')(h:ep (.lV t) [af A y']=some x):cI c A o x :=
 .same fun a w D E hs=>by
  have h1:=br hs hy;simp only[ep] at h;split at h
  case isFalse=>cases h
  rename_i hc;simp only[v6] at h;subst h;have hr:(Instr.makeInterface t (a.eval y)).run c.P w=.ok (.iface t (a.eval y)) w:=by
   cases hd:c.P.underlying t with
   |none=>rw[hd] at hu;cases hu
   |some d =>
    rw[hd] at hu;have hr:=run_underlying (w:=w) hd;cases d <;>first | (cases hu;done) | simp[Instr.makeInterface,hr]
  obtain ⟨cs,q1,q2⟩:∃ cs,ba (af A y') (a.eval y) cs∧ae w D E (af A y') cs:=by
   generalize af A y'=z at *;cases z <;>simp only[I.cD,Z4,and_false] at hc <;>simpa only[aR] using h1
  refine ⟨.iface t (a.eval y),?_,[.iface t (a.eval y)],by simp[ba,I.isAgg],?_⟩
  ·simp only[execOp,ho,Sem.run_bind];rw[hr];rfl
  ·simp only[ae];exact ⟨_,cs,rfl,q1,q2⟩
theorem Hk(w:World)(e:TypeId)(s:ByteArray):Lib.bytesWorld w e s=w.drew.alloc (.cells (Lib.bytesCells w e s) e ((Lib.bytesCells w e s).size,(Lib.bytesCells w e s).size+1)):=by
 generalize hc:Lib.bytesCells w e s=cs;have hh:(Lib.bytesWorld w e s).heap=(w.drew.alloc (.cells cs e (cs.size,cs.size+1))).heap:=by
  apply Array.ext_getElem?;intro k;rcases Nat.lt_trichotomy k w.heap.size with h | h | h
  ·exact (Lib.bytesWorld_at_old w e s k h).trans (Below.heap_alloc w.drew (.cells cs e (cs.size,cs.size+1)) k h).symm
  ·subst h;rw[Lib.bytesWorld_at_new,hc];exact (heap_alloc_new w.drew _).symm
  ·rw[Array.getElem?_eq_none (by rw[Lib.bytesWorld_size];omega),Array.getElem?_eq_none (by rw[World.size_alloc];show w.heap.size+1≤k;omega)]
 have hf:∀ (u:World) (p:Addr) (n:Nat),(u.freeze p n).tape=u.tape∧(u.freeze p n).drawn=u.drawn∧(u.freeze p n).os=u.os∧(u.freeze p n).output=u.output:=fun u p n=>by
  unfold World.freeze;split <;>exact ⟨rfl,rfl,rfl,rfl⟩
 obtain ⟨f1,f2,f3,f4⟩:=hf (w.drew.alloc (.cells (Lib.bytesCells w e s) e)) ⟨w.heap.size,(Lib.bytesCells w e s).size,none⟩ 1;have h1:(Lib.bytesWorld w e s).tape=(w.drew.alloc (.cells cs e (cs.size,cs.size+1))).tape:=f1;have h2:(Lib.bytesWorld w e s).drawn=(w.drew.alloc (.cells cs e (cs.size,cs.size+1))).drawn:=f2;have h3:(Lib.bytesWorld w e s).os=(w.drew.alloc (.cells cs e (cs.size,cs.size+1))).os:=f3;have h4:(Lib.bytesWorld w e s).output=(w.drew.alloc (.cells cs e (cs.size,cs.size+1))).output:=f4;revert hh h1 h2 h3 h4;generalize Lib.bytesWorld w e s=a;generalize w.drew.alloc (.cells cs e (cs.size,cs.size+1))=b;obtain ⟨_,_,_,_,_⟩:=a;obtain ⟨_,_,_,_,_⟩:=b;rintro rfl rfl rfl rfl rfl;rfl
theorem Y1{t t' e:TypeId}{y:Operand}{y':aF}{ys:List I}{d:Nat}(ho:o.op=.convert t t' y)(hu:c.P.underlying t=some .string)(ht':c.P.underlying t'=some (.slice e))(he:c.P.underlying e=some (.int .u8))(hy:aU c.P 0 y=some y')(h:lB (af A y')=some ys)
  (hd:o.dst=some d) (hdn:d<c.n) (hf:A.o d=none) {a:Act} {w:World} {D:aJ} {E:aN} (hsim:aL c A a w D E) :
  ∃ v w' m,(execOp a.eval o).run c.P w=.ok (.value v) w'∧ys.length+m≤maxLen∧bC c ((A.aS d (.box (.agg (ys++List.replicate m (.int .u8 0))))).aP o.dst (.view d [] 1 0 ys.length)) (a.put o.dst v) w':=by
 have h1:=br hsim hy;unfold lB at h;split at h
 case h_2=>cases h
 rename_i s hs';simp only[v6] at h;rw[hs'] at h1;obtain ⟨hv,hsz⟩:=fS h1;have hge:=grownCap_ge w s.size 0 e;have hle:=grownCap_le_maxLen w s.size 0 e hsz;have hyl:ys.length=s.size:=by rw[←h];simp
 obtain ⟨m,hm⟩:∃ m,m=grownCap w s.size 0 e-s.size:=⟨_,rfl⟩
 have hcl:(Lib.bytesCells w e s).toList=(s.data.toList.map fun b=>Value.int .u8 (b.toNat:Int))++List.replicate m (.int .u8 0):=by
  rw[hm];simp[Lib.bytesCells]
 have hin:∀ b:UInt8,ae w.drew D E (.int .u8 (b.toNat:Int)) [.int .u8 (b.toNat:Int)]:=fun b=>by
  have:=b.toNat_lt;simp only[ae,true_and];simp[IntKind.min,IntKind.max,IntKind.bits,IntKind.signed];omega
 have hr1:aH w.drew D E ys (s.data.toList.map fun b=>Value.int .u8 (b.toNat:Int)):=by
  rw[←h];generalize s.data.toList=l
  induction l with
  |nil=>simp[aH]
  |cons b l ih =>
   simp only[Z3,aH];exact ⟨[.int .u8 b.toNat],_,rfl,hin b,ih⟩
 have hr2:∀ k:Nat,aH w.drew D E (List.replicate k (.int .u8 0)) (List.replicate k (.int .u8 0)):=fun k=>by
  induction k with
  |zero=>simp[aH]
  |succ k ih =>
   simp only[List.replicate_succ,aH];exact ⟨[.int .u8 0],_,rfl,hin 0,ih⟩
 have hrc:ae w.drew D E (.agg (ys++List.replicate m (.int .u8 0))) (Lib.bytesCells w e s).toList:=by
  rw[hcl];simp only[ae];exact iW _ _ _ _ hr1 (hr2 m)
 have hsim':aL c A a w.drew D E:=hsim.grow ⟨rfl,rfl,rfl,Z7 _,fun _ _=>rfl⟩ (fun _ _ h=>h) (fun _ _ h _=>h) (fun b o h=>hsim.cO b o h);have h2:aL c (A.aS d (.box (.agg (ys++List.replicate m (.int .u8 0))))) a (w.drew.alloc (.cells (Lib.bytesCells w e s) e ((Lib.bytesCells w e s).size,(Lib.bytesCells w e s).size+1))) D _ :=
  hsim'.sx (e:=.aI w.drew.heap.size (I.agg (ys++List.replicate m (.int .u8 0))).aK) (.inl hdn) hf rfl fun hl hno=>⟨w.drew.heap.size,_,e,by simp,.inl hsim'.de.size,⟨_,heap_alloc_new w.drew _,.inr ⟨rfl,by
   simp only[I.aK,bS.flat,I.cG,zy6,zy3];rintro s' ⟨y,hy,rfl⟩;rcases zy9.1 hy with hy | hy
   ·rw[←h] at hy;obtain ⟨b,_,rfl⟩:=zy3.1 hy;rfl
   ·rw[List.eq_of_mem_replicate hy];rfl⟩⟩,ae.later hl _ _ hrc,hno⟩
 have hlen:(ys++List.replicate m (I.int .u8 0)).length=ys.length+m:=by simp
 have hall:∀ y∈ys++List.replicate m (I.int .u8 0),y.size=1:=by
  intro y hy;rcases zy9.1 hy with hy | hy
  ·rw[←h] at hy;obtain ⟨b,_,rfl⟩:=zy3.1 hy;rfl
  ·rw[List.eq_of_mem_replicate hy];rfl
 have h3:=h2.put (d:=d) (x:=.view d [] 1 0 ys.length) (v:=.slice (some ⟨w.heap.size,0,none⟩) s.size (grownCap w s.size 0 e)) hdn ⟨_,by simp[ba,I.isAgg];rfl,by
  simp only[ae,if_true];refine ⟨w.heap.size,(I.agg (ys++List.replicate m (.int .u8 0))).aK,0,I.cF (ys++List.replicate m (.int .u8 0)),rfl,by cases (I.agg (ys++List.replicate m (.int .u8 0))).aK <;>simp[bS.off],by simp only[I.aK,bS.part],?_,?_,?_,?_⟩
  ·rw[I.cG,Z2,hlen,hm];simp;omega
  ·rw[I.cG,Z2,hlen];omega
  ·rw[I.cG,Z2,hlen];omega
  ·rw[I.cG];intro s hs;obtain ⟨f,hf,rfl⟩:=zy3.1 hs;rw[I.ik];exact hall f hf⟩
 refine ⟨.slice (some ⟨w.heap.size,0,none⟩) s.size (grownCap w s.size 0 e),Lib.bytesWorld w e s,m,?_,by omega,?_⟩
 ·simp only[execOp,ho,hv,Sem.run_bind,Lib.run_convert_string_bytes w t t' e s hu ht' he];rfl
 ·rw[hd,Hk];exact ⟨D,_,h3⟩
end
end Go.Abs
namespace Go.Abs
open Go Go.RowKit
mutual
/-- Values that lead to no memory. -/
def I.flat:I→Bool
 | .agg fs | .tuple fs=>I.nY fs
 | .bool _ | .int _ _ | .ak _ | .nilp | .c8 | .cQ | .any | .raw _ | .undef | .cV=>true
 |_=>false
def I.nY:List I→Bool
 | []=>true
 |x::xs=>x.flat&&I.nY xs
end
mutual
theorem ae.flat{w w':World}{D D':aJ}{E E':aN} : ∀ (x:I) (cs:List Value),x.flat=true→ae w D E x cs→ae w' D' E' x cs
 | .agg fs,cs,hf,hr=>by simp only[ae,I.flat] at *;exact aH.flat fs cs hf hr
 | .bool b,cs,_,hr=>by simpa only[ae] using hr
 | .int k n,cs,_,hr=>by simpa only[ae] using hr
 | .ak s,cs,_,hr=>by simpa only[ae] using hr
 | .nilp,cs,_,hr=>by simpa only[ae] using hr
 | .c8,cs,_,hr=>by simpa only[ae] using hr
 | .cQ,cs,_,hr | .any,cs,_,hr=>by simpa only[ae] using hr
 | .raw _,cs,_,hr=>by simpa only[ae] using hr
 | .undef,_,_,hr=>by simp only[ae] at hr
 | .cV,_,_,hr=>by simp only[ae] at hr
 | .tuple _,_,_,hr=>by simp only[ae] at hr
 | .nils _,_,hf,_ | .c0 _,_,hf,_ | .slice _ _,_,hf,_ | .ref _,_,hf,_ | .func _ _,_,hf,_ | .iface _ _,_,hf,_ | .ptr _ _,_,hf,_ | .own _ _,_,hf,_ | .view _ _ _ _ _,_,hf,_ | .mref _,_,hf,_ | .cU _,_,hf,_ | .cY _ _,_,hf,_=>by simp[I.flat] at hf
theorem aH.flat{w w':World}{D D':aJ}{E E':aN} : ∀ (xs:List I) (cs:List Value),I.nY xs=true→aH w D E xs cs→aH w' D' E' xs cs
 | [],cs,_,hr=>by simpa only[aH] using hr
 |x::xs,cs,hf,hr=>by
  simp only[aH,I.nY,Z0] at *;obtain ⟨c1,c2,h1,h2,h3⟩:=hr;exact ⟨c1,c2,h1,ae.flat x c1 hf.1 h2,aH.flat xs c2 hf.2 h3⟩
end
theorem ar.flat{w w':World}{D D':aJ}{E E':aN} : ∀ (xs:List I) (vs:List Value),I.nY xs=true→ar w D E xs vs→ar w' D' E' xs vs
 | [],vs,_,hr=>by simpa only[ar] using hr
 |x::xs,vs,hf,hr=>by
  simp only[ar,I.nY,Z0] at *;obtain ⟨v,rest,cs,h1,h2,h3,h4⟩:=hr;exact ⟨v,rest,cs,h1,h2,ae.flat x cs hf.1 h3,ar.flat xs rest hf.2 h4⟩
theorem aR.flat{w w':World}{D D':aJ}{E E':aN}{x:I}{v:Value}(hf:x.flat=true)(hr:aR w D E x v):aR w' D' E' x v:=by
 cases x <;>simp only[aR] at * <;>first
  |exact hr
  |(obtain ⟨vs,h1,h2⟩:=hr;exact ⟨vs,h1,ar.flat _ _ (by simpa[I.flat] using hf) h2⟩)
  |(obtain ⟨cs,h1,h2⟩:=hr;exact ⟨cs,h1,ae.flat _ _ hf h2⟩)
def cu:aN:=fun _=>none
def aQ(P:Program)(f:FuncId)(args:List I)(r:I):Prop :=
 dR P f=true∧∀ (w:World) (D:aJ) (vs:List Value),eH P w (fun _=>False)→(∀ b o,D b o→b<w.heap.size)→ar w D cu args vs →
  Calls P f vs.toArray w fun e w'=>∃ v D',e=.returned v∧aR w' D' cu r v∧Below w.heap.size w w'∧(∀ b o,D' b o→b<w'.heap.size)∧∀ b o,D' b o→b<w.heap.size→D b o
def eT(P:Program)(f:FuncId)(args:List I)(os:List (Nat×ai))(post:cd):Prop :=
 dR P f=true∧mi (Calls P f) (fun w _ E=>eH P w (bY E)) args os post
def bA(p:Nat→Bool):List (Nat×ai)→Prop
 | []=>True
 |(_,v)::r=>v.only p=true∧bA p r
def c7(ns:List Nat)(os:List (Nat×ai)):List (Nat×ai):=os.filter fun q => !ns.contains q.1
def fO(ns:List Nat)(ts:List (Nat×I)):List (Nat×I):=ts.map fun q=>(q.1,if q.2.only (fun n => !ns.contains n) then q.2 else .cV)
def jO(ns:List Nat)(os:List (Nat×ai)):List (Nat×ai):=os.filter fun q=>ns.contains q.1
def iB(ρ:List (Nat×Nat))(os:List (Nat×ai)):List Nat:=os.map fun q=>bg ρ q.1
def fU(aI:Bool)(A0:ab)(ρ:List (Nat×Nat))(os:List (Nat×ai)):List I→List I→Prop
 | [],[]=>True
 |x::xs,c::cs=>((x=c.aO (bg ρ)∧c.only (al os)=true∧c.cD=true)∨bd aI A0 x=some c)∧fU aI A0 ρ os xs cs
 |_,_=>False
structure az where
 dst:Option Nat
 op:bw
 guard:Option (Nat×Bool)
 deriving Inhabited
inductive b9 where
 |done (A:ab)
 |fail
 |call (f:FuncId) (avs:List I) (a1 a2:Option (List I)) (dst:Option Nat) (rest:List az) (A:ab)
 |kY (v:Value) (avs:List I) (dst:Option Nat) (rest:List az) (A:ab)
 |gE (f:FuncId) (avs:List I) (dst:Option Nat) (rest:List az) (A:ab)
 |any (p:Nat→Prop) (k:Nat→b9)
def cm(x:Option I)(k:I→b9):b9:=match x with
 |some v=>k v
 |none=>.fail
def vL(s:Option Nat)(v old:I):Prop:=v.cD=true∧b8 s v=true∧v.aK=old.aK
def vI(e esz bytes l sz:Nat)(ys:List I)(T sz':Nat)(es:List I):Prop:=l=es.length∧sz=esz∧T=e∧sz'=esz∧ys≠[]∧es.length+ys.length≤maxLen∧(es.length+ys.length)*bytes≤140737488355328
def pJ(ys:List I):List Int:=ys.filterMap fun y=>match y with | .int .i64 i=>some i | _=>none
def vJ(e esz bytes l:Nat)(ys:List I)(T:Nat)(xs:List Int)(z:I):Prop:=l=xs.length∧esz=1∧T=e∧z=.int .i64 0∧ys=(pJ ys).map (.int .i64)∧ys≠[]∧xs.length+ys.length≤maxLen∧(xs.length+ys.length)*bytes≤140737488355328
def ja:I→Bool
 | .slice _ es=>es.isEmpty
 | .c0 _=>true
 |_=>false
def kg(f:Nat):Nat:=if f<1000000 then f else f-1000000
def gL(f:Nat)(args caps:List I):List I:=if f<1000000 then args++caps else caps++args
theorem uO{f:Nat}(h:f<1000000):kg f=f:=by simp only[kg,if_pos h]
theorem uN{f:Nat}(h:f<1000000)(args caps:List I):gL f args caps=args++caps:=by simp only[gL,if_pos h]
theorem Ao(g:Nat):kg (g+1000000)=g:=by simp only[kg,if_neg (show ¬ g+1000000<1000000 by omega),Nat.add_sub_cancel]
theorem An(g:Nat)(args caps:List I):gL (g+1000000) args caps=caps++args:=by simp only[gL,if_neg (show ¬ g+1000000<1000000 by omega)]
open Classical in
noncomputable def eZ(A:ab)(dst:Option Nat)(esz bytes:Nat)(z:I)(es ys:List I)(k:ab→b9):b9 :=
 match dst with
 |some d=>match A.o d with
  |none=>if (es.length+ys.length)*bytes≤140737488355328∧es.length+ys.length≤maxLen then
    .any (fun m=>es.length+ys.length+m≤maxLen) (fun m=>k ((A.aS d (.box (.agg (es++(ys++List.replicate m z))))).aP dst (.view d [] esz 0 (es.length+ys.length)))) else .fail
  |some _=>.fail
 |none=>.fail
open Classical in
noncomputable def dZ(A:ab)(dst:Option Nat)(esz bytes:Nat)(z:I)(s:I):Option (List I)→Option (List I)→(ab→b9)→b9
 |some es,some ys,k=>if ys=[] then k (A.aP dst s) else match s with
  | .nils _=>eZ A dst esz bytes z es ys k
  | .c0 _=>eZ A dst esz bytes z es ys k
  | .view n p sz lo l=>match A.o n with
   |some (.box b)=>match b.at p with
    |some (.agg fs)=>if lo+l+ys.length≤fs.length then
      (if sz=esz∧I.cF ys=I.cF ((fs.drop (lo+l)).take ys.length) then k ((A.aS n (.box (ij b p (lo+l) fs ys))).aP dst (.view n p esz lo (l+ys.length))) else .fail)
      else eZ A dst esz bytes z es ys k
    |_=>.fail
   |_=>.fail
  |_=>.fail
 |_,_,_=>.fail
open Classical in
noncomputable def pc(A:ab)(dst:Option Nat)(esz bytes:Nat)(z:I)(m:Nat)(s:I):Option (List I)→(ab→b9)→b9
 |some es,k=>match s with
  | .view n p _ lo l=>match A.o n with
   |some (.box b)=>match b.at p with
    |some (.agg fs)=>if 0<m∧fs.length<lo+l+m then eZ A dst esz bytes z es (List.replicate m z) k else .fail
    |_=>.fail
   |_=>.fail
  |_=>.fail
 |_,_=>.fail
open Classical in
noncomputable def nO(A:ab)(esz:Nat)(z:I)(k:ab→b9):I→b9
 | .view n p sz lo l=>match A.o n with
  |some (.box b)=>match b.at p with
   |some (.agg fs)=>if sz=esz∧I.cF (List.replicate l z)=I.cF ((fs.drop lo).take l) then k (A.aS n (.box (ij b p lo fs (List.replicate l z)))) else .fail
   |_=>.fail
  |_=>.fail
 | .nils _=>k A
 | .c0 _=>k A
 |_=>.fail
open Classical in
noncomputable def kb(A:ab)(dst:Option Nat)(esz:Nat)(k:ab→b9):I→Option (List I)→b9
 | .view n p sz lo l,some ys=>match A.o n with
  |some (.box b)=>match b.at p with
   |some (.agg fs)=>if sz=esz∧I.cF (ys.take (min ys.length l))=I.cF ((fs.drop lo).take (min ys.length l)) then k ((A.aS n (.box (ij b p lo fs (ys.take (min ys.length l))))).aP dst (.int .i64 (min ys.length l:Nat))) else .fail
   |_=>.fail
  |_=>.fail
 | .c0 _,some _=>k (A.aP dst (.int .i64 0))
 |_,_=>.fail
def ig(A:ab)(dst:Option Nat)(k:ab→b9):Option (List I)→b9
 |some ys=>match dst with
  |some d=>match A.o d with
   |none=>.any (fun m=>ys.length+m≤maxLen) fun m=>k ((A.aS d (.box (.agg (ys++List.replicate m (.int .u8 0))))).aP dst (.view d [] 1 0 ys.length))
   |some _=>.fail
  |none=>.fail
 |none=>.fail
open Classical in
noncomputable def aW(A:ab)(dst:Option Nat)(op:bw)(rest:List az)(k:ab→b9):b9 :=
 match op with
 | .alloc z=>match dst with
  |some d=>match A.o d with
   |none=>k ((A.aS d (.box z)).put d (.ptr d []))
   |some _=>.fail
  |none=>.fail
 | .box x=>match dst with
  |some d=>match A.o d with
   |none=>if (af A x).cD then k ((A.aS d (.box (af A x))).put d (.ptr d [])) else .fail
   |some _=>.fail
  |none=>.fail
 | .aT s x v=>match dst with
  |none=>match af A x with
   | .ptr n p=>match A.o n with
    |some (.box b)=>match b.at p with
     |some old=>if vL s (af A v) old then k (A.aS n (.box (b.dy p (af A v)))) else .fail
     |none=>.fail
    |_=>.fail
   |_=>.fail
  |some _=>.fail
 | .dv e esz bytes z s x=>match af A s with
  | .own n l=>match af A x with
   | .slice sz ys=>match A.o n with
    |some (.bQ T sz' es)=>if vI e esz bytes l sz ys T sz' es then k ((A.aS n (.bQ e esz (es++ys))).aP dst (.own n (es.length+ys.length))) else .fail
    |some (.dL T xs)=>if vJ e esz bytes l ys T xs z then k ((A.aS n (.dL e (xs++pJ ys))).aP dst (.own n (xs.length+ys.length))) else .fail
    |_=>.fail
   |_=>.fail
  |s'=>dZ A dst esz bytes z s' (cT A esz s') (cT A esz (af A x)) k
 | .jA _ esz bytes z s n=>match af A n with
  | .int _ m=>pc A dst esz bytes z m.toNat (af A s) (cT A esz (af A s)) k
  |_=>.fail
 | .nilS neg x=>if ja (af A x) then .any (fun m=>m<2) (fun m=>k (A.aP dst (.bool (m==0)))) else cm (aV A (.nilS neg x)) fun v=>k (A.aP dst v)
 | .ji esz z x=>match dst with
  |none=>nO A esz z k (af A x)
  |some _=>.fail
 | .fW esz x y=>kb A dst esz k (af A x) (j2 A esz (af A y))
 | .eN x=>ig A dst k (lB (af A x))
 | .call f args=>.call f (args.map (af A)) (bL true A (args.map (af A))) (bL false A (args.map (af A))) dst rest A
 | .fj x args=>match af A x with
  | .func f caps=>.call (kg f) (gL f (args.map (af A)) caps) (bL true A (gL f (args.map (af A)) caps)) (bL false A (gL f (args.map (af A)) caps)) dst rest A
  | .raw v=>.kY v (args.map (af A)) dst rest A
  |_=>.fail
 | .gE f args=>.gE f (args.map (af A)) dst rest A
 | .kp=>match dst with
  |some d=>match A.o d with
   |none=>k ((A.aS d (.cg [] [])).put d (.mref d))
   |some _=>.fail
  |none=>.fail
 | .jt _ bytes z n=>match dst with
  |some d=>match A.o d with
   |none=>match af A n with
    | .int _ n=>if 0≤n∧n.toNat*bytes≤281474976710656∧n.toNat≤maxLen then k ((A.aS d (.box (.agg (List.replicate n.toNat z)))).put d (.view d [] 1 0 n.toNat)) else .fail
    |_=>.fail
   |some _=>.fail
  |none=>.fail
 | .jR ty m key v=>match dst with
  |none=>match af A m with
   | .mref n=>match A.o n with
    |some (.cg ks vs)=>match pY ty (af A key) (af A v) ks vs with
     |some (ks',vs')=>k (A.aS n (.cg ks' vs'))
     |none=>.fail
    |_=>.fail
   |_=>.fail
  |some _=>.fail
 | .lq ty m key=>match dst with
  |none=>match af A m with
   | .mref n=>match A.o n with
    |some (.cg ks vs)=>match vv ty (af A key) ks vs with
     |some (ks',vs')=>k (A.aS n (.cg ks' vs'))
     |none=>.fail
    |_=>.fail
   |_=>.fail
  |some _=>.fail
 | .jZ x=>match dst with
  |some d=>match A.o d with
   |none=>match af A x with
    | .cY ks vs=>k ((A.aS d (.it ks vs (List.range ks.length) none)).put d (.cU d))
    |_=>.fail
   |some _=>.fail
  |none=>.fail
 | .jS x=>match af A x with
  | .cU n=>match A.o n with
   |some (.it ks vs left cur)=>if left=[] then k (A.aP dst (.tuple [.bool false])) else
     .any (fun i=>i∈left) fun i=>match ks[i]?,vs[i]? with
      |some kk,some x=>k ((A.aS n (.it ks vs (left.filter (· != i)) (some i))).aP dst (.tuple [.bool true,kk,x]))
      |_,_=>.fail
   |_=>.fail
  |_=>.fail
 |op=>cm (aV A op) fun v=>k (A.aP dst v)
noncomputable def av:List az→ab→b9
 | [],A=>.done A
 |g::rest,A=>match g.guard with
  |none=>aW A g.dst g.op rest (av rest)
  |some (t,b)=>match A.t t with
   | .bool b'=>if b'=b then aW A g.dst g.op rest (av rest) else av rest (A.aP g.dst .undef)
   | .undef=>av rest (A.aP g.dst .undef)
   |_=>.fail
def xF(P:Program)(A:ab)(f:FuncId)(avs:List I)(r:I):Prop :=
 ∀ (c:cn) (a:Act) (w:World) (D:aJ) (E:aN) (vs:List Value),c.P=P→aL c A a w D E→dW (aR w D E) avs vs→∃ v,(callFunc f vs.toArray).run P w=.ok (.value v) w∧aR w D E r v
inductive aZ (P:Program) (Y:Value→List I→List (Nat×ai)→cd→Prop) (dr:Bool) (K:ab→Prop):b9→Prop where
 |done {A:ab} : K A→aZ P Y dr K (.done A)
 |flat {f:FuncId} {avs cargs:List I} {a2:Option (List I)} {dst:Option Nat} {rest:List az} {A:ab} (r:I):aQ P f cargs r→r.flat=true→aZ P Y dr K (av rest (A.aP dst r))→aZ P Y dr K (.call f avs (some cargs) a2 dst rest A)
 |lead {f:FuncId} {avs cargs:List I} {a1:Option (List I)} {dst:Option Nat} {rest:List az} {A:ab} (r:I):aQ P f cargs r→aZ P Y dr K (av rest (A.aP dst r))→aZ P Y dr K (.call f avs a1 (some cargs) dst rest A)
 |jI {f:FuncId} {avs cargs:List I} {a1 a2:Option (List I)} {dst:Option Nat} {rest:List az} {ts:List (Nat×I)} {os0:List (Nat×ai)} (ns:List Nat) (r:I):dr=false→aQ P f cargs r→bL true (aq ts (jO ns os0)) avs=some cargs →
   bA (fun n => !ns.contains n) (c7 ns os0)→aZ P Y dr K (av rest ((aq (fO ns ts) (c7 ns os0)).aP dst r))→aZ P Y dr K (.call f avs a1 a2 dst rest (aq ts os0))
 |bB {f:FuncId} {avs:List I} {a1 a2:Option (List I)} {dst:Option Nat} {rest:List az} {ts:List (Nat×I)} {os0:List (Nat×ai)} (aI:Bool) (ρ:List (Nat×Nat)) (os:List (Nat×ai)) (cargs:List I) (post:cd):dr=false→eT P f cargs os post →
   eP ρ os os0→fU aI (aq ts (c7 (iB ρ os) os0)) ρ os avs cargs→(∀ r os',post r os'→df aI ρ os os0 r os') →
   (∀ r os',post r os'→aZ P Y dr K (av rest ((aq ts (cL ρ os'++os0)).aP dst (r.aO (bg ρ)))))→aZ P Y dr K (.call f avs a1 a2 dst rest (aq ts os0))
 |tC {v:Value} {avs:List I} {dst:Option Nat} {rest:List az} {ts:List (Nat×I)} {os0:List (Nat×ai)} (os:List (Nat×ai)) (cargs:List I) (post:cd):dr=false→Y v cargs os post →
   eP [] os os0→fU false (aq ts (c7 (iB [] os) os0)) [] os avs cargs→(∀ r os',post r os'→df false [] os os0 r os') →
   (∀ r os',post r os'→aZ P Y dr K (av rest ((aq ts (cL [] os'++os0)).aP dst (r.aO (bg [])))))→aZ P Y dr K (.kY v avs dst rest (aq ts os0))
 |ext {f:FuncId} {avs:List I} {dst:Option Nat} {rest:List az} {A:ab} (r:I):dr=false→xF P A f avs r→aZ P Y dr K (av rest (A.aP dst r))→aZ P Y dr K (.gE f avs dst rest A)
 |any {p:Nat→Prop} {k:Nat→b9} : dr=false→(∀ m,p m→aZ P Y dr K (k m))→aZ P Y dr K (.any p k)
def z6(n:Nat):Option Nat→Bool
 |some d=>decide (d<n)
 |none=>true
def kX(P:Program)(n:Nat)(bf:Array Oper)(o:Oper):Option az :=
 match cB P o with
 |none=>none
 |some g=>if z6 n o.dst=true then
   match o.guard with
   |none=>some ⟨o.dst,g,none⟩
   |some (j,b)=>match (bf[j]?).bind (·.dst) with
    |some t=>some ⟨o.dst,g,some (t,b)⟩
    |none=>none
  else none
def fA(P:Program)(n:Nat)(bf:Array Oper):List Oper→Option (List az)
 | []=>some []
 |o::l=>match kX P n bf o,fA P n bf l with
  |some g,some gs=>some (g::gs)
  |_,_=>none
end Go.Abs
namespace Go.Abs
open Go Go.RowKit
section
variable {c:cn} {A:ab} {o:Oper} {x:I}
theorem CH{g:bw}(hg:cB c.P o=some g)(h:aV A g=some x):cI c A o x:=by
 unfold cB at hg;split at hg
 -- move
 ·rename_i y ho;simp only[t7] at hg;obtain ⟨z,hz,rfl⟩:=hg;simp only[aV,v6] at h;subst h;exact Bb (.inl ho) hz
 ·rename_i y ho;simp only[t7] at hg;obtain ⟨z,hz,rfl⟩:=hg;simp only[aV,v6] at h;subst h;exact Bb (.inr ho) hz
 -- pick
 ·rename_i q y z ho;split at hg
  ·rename_i q' y' z' h1 h2 h3;simp only[v6] at hg;subst hg;simp only[aV] at h;split at h
   ·rename_i t ht;simp only[v6] at h;subst h;exact VC ho h1 h2 h3 ht
   ·cases h
  ·cases hg
 -- binOp
 ·rename_i op t y z yt ho;split at hg
  ·rename_i k y' z' hu h1 h2;simp only[v6] at hg;subst hg;exact A9 ho h1 h2 h
  ·rename_i y' z' hu h1 h2;simp only[v6] at hg;subst hg;exact A9 ho h1 h2 h
  ·rename_i e y' z' hu h1 h2;split at hg
   ·rename_i s;split at hg
    ·rename_i hop;simp only[v6] at hg;subst hg;have ho':o.op=.binOp (if (op==.neq)=true then .neq else .eql) t y z yt:=by
      rcases hop with rfl | rfl <;>simpa using ho
     simp only[aV] at h;split at h
     ·rename_i s' hs';simp only[v6] at h;subst h;have:=u7 (r:=true) ho' hu h1 h2 (.inl ⟨s',hs',rfl⟩);rw[show (if (op==BinOp.neq)=true then !true else true) = !(op==BinOp.neq) from by cases (op==BinOp.neq) <;>rfl] at this;exact this
     ·rename_i s' es hs';split at h
      ·cases h
      ·rename_i hne;simp only[v6] at h;subst h;have:=u7 (r:=false) ho' hu h1 h2 (.inr (.inl ⟨s',es,hs',by simpa using hne,rfl⟩));rw[show (if (op==BinOp.neq)=true then !false else false)=(op==BinOp.neq) from by cases (op==BinOp.neq) <;>rfl] at this;exact this
     ·rename_i n p s' lo k hs';simp only[v6] at h;subst h;have:=u7 (r:=false) ho' hu h1 h2 (.inr (.inr ⟨n,p,s',lo,k,hs',rfl⟩));rw[show (if (op==BinOp.neq)=true then !false else false)=(op==BinOp.neq) from by cases (op==BinOp.neq) <;>rfl] at this;exact this
     ·cases h
    ·cases hg
   ·cases hg
  ·rename_i e y' z' hu h1 h2;split at hg
   ·rename_i hop;simp only[v6] at hg;subst hg;have ho':o.op=.binOp (if (op==.neq)=true then .neq else .eql) t y z yt:=by
     rcases hop with rfl | rfl <;>simpa using ho
    simp only[aV] at h;cases hb1:hG (af A y') with
    |none=>rw[hb1] at h;cases h
    |some b1=>cases hb2:hG (af A z') with
     |none=>rw[hb1,hb2] at h;cases h
     |some b2 =>
      rw[hb1,hb2] at h;simp only[l8] at h;split at h
      ·rename_i hor;simp only[v6] at h;subst h;exact VD ho' hu h1 h2 hb1 hb2 (by simpa using hor)
      ·cases h
   ·cases hg
  ·rename_i ms y' z' hu h1 h2;split at hg
   ·split at hg
    ·rename_i hop;simp only[v6] at hg;subst hg;have ho':o.op=.binOp (if (op==.neq)=true then .neq else .eql) t y z yt:=by
      rcases hop with rfl | rfl <;>simpa using ho
     exact VA ho' hu h1 h2 (by simpa only[aV,Z3,zz6] using h)
    ·cases hg
   ·cases hg
  ·rename_i d y' z' _ _ _ _ _ hu h1 h2;split at hg
   ·rename_i hop;simp only[t7] at hg;obtain ⟨ty,hty,rfl⟩:=hg;have ho':o.op=.binOp (if (op==.neq)=true then .neq else .eql) t y z yt:=by
     rcases hop.1 with rfl | rfl <;>simpa using ho
    simp only[aV,t7] at h;obtain ⟨r,hr,rfl⟩:=h;exact Vh ho' h1 h2 hop.2 hty hr
   ·cases hg
  ·cases hg
 -- unOp
 ·rename_i op t y ho;simp only[t7] at hg;obtain ⟨z,hz,rfl⟩:=hg;simp only[aV] at h;split at h
  ·rename_i b hb;simp only[v6] at h;subst h;exact VB ho hz hb
  ·rename_i k n hb;simp only[v6] at h;subst h;exact Vz ho hz hb
  ·rename_i k n hb;simp only[v6] at h;subst h;exact Vf ho hz hb
  ·cases h
 -- nilCheck
 ·rename_i y ho;simp only[t7] at hg;obtain ⟨z,hz,rfl⟩:=hg;simp only[aV] at h;cases hy:af A z <;>rw[hy] at h <;>simp only[mM,v6] at h <;>try (cases h;done)
  ·subst h;rw[←hy];exact Bc ho hz (.inr ⟨_,hy⟩)
  ·subst h;rw[←hy];exact Bc ho hz (.inl ⟨_,_,hy⟩)
 -- makeMap
 ·simp only[v6] at hg;subst hg;simp[aV] at h
 -- lookup
 ·rename_i t m k ok ho;split at hg
  ·rename_i kt et m' k' hu h1 h2;split at hg
   ·rename_i ty z hk hz;split at hg
    ·rename_i hp;simp only[v6] at hg;subst hg;simp only[aV] at h;cases hm:fQ A (af A m') with
     |none=>rw[hm] at h;cases h
     |some q =>
      obtain ⟨ks,vs⟩:=q;rw[hm] at h;simp only[pS] at h;cases hl:pU ty z (af A k') ks vs with
      |none=>rw[hl] at h;cases h
      |some q =>
       obtain ⟨v,b⟩:=q;rw[hl] at h;simp only[pT,v6] at h;subst h;exact Vt ho hu hk hz hp h1 h2 hm hl
    ·cases hg
   ·cases hg
  ·cases hg
 -- mapUpdate,insert
 iterate 2
  ·split at hg
   ·split at hg
    ·simp only[v6] at hg;subst hg;simp[aV] at h
    ·cases hg
   ·cases hg
 -- makeSlice
 ·split at hg
  ·split at hg
   ·split at hg
    ·simp only[v6] at hg;subst hg;simp[aV] at h
    ·cases hg
   ·cases hg
  ·cases hg
 -- range
 ·split at hg
  ·simp only[t7] at hg;obtain ⟨z,_,rfl⟩:=hg;simp[aV] at h
  ·cases hg
 -- next
 ·simp only[t7] at hg;obtain ⟨z,_,rfl⟩:=hg;simp[aV] at h
 -- entry
 ·rename_i y ho;simp only[t7] at hg;obtain ⟨z,hz,rfl⟩:=hg;simp only[aV] at h;split at h
  ·rename_i n hn;split at h
   ·rename_i ks vs left cur hob;cases cur with
    |none=>cases h
    |some i =>
     simp only[rv] at h;split at h
     ·rename_i kk xx hk hx;simp only[v6] at h;subst h;exact Vg ho hz hn hob hk hx
     ·cases h
   ·cases h
  ·cases h
 -- convert
 ·rename_i lI dst y ho;split at hg
  ·rename_i k0 k y' h1 h2 h3;simp only[v6] at hg;subst hg;simp only[aV] at h;split at h
   ·rename_i k1 n hn;simp only[v6] at h;subst h;exact Ve ho h1 h2 h3 hn
   ·cases h
  ·rename_i e y' h1 h2 h3;split at hg
   ·rename_i he;simp only[v6] at hg;subst hg;exact Vb ho h1 he h2 h3 (by simpa only[aV] using h)
   ·cases hg
  ·rename_i e y' h1 h2 h3;split at hg
   ·rename_i he;simp only[v6] at hg;subst hg;simp only[aV] at h;cases h
   ·cases hg
  ·cases hg
 -- load
 ·rename_i t y ho;split at hg
  ·rename_i s y' h1 h2;simp only[v6] at hg;subst hg;simp only[aV] at h;split at h
   ·rename_i v hv;split at h
    ·rename_i hok;simp only[v6] at h;subst h;exact Vs ho h1 h2 hv hok
    ·cases h
   ·cases h
  ·cases hg
 -- fieldAddr
 ·rename_i t y f ho;split at hg
  ·rename_i fs y' hu h1;split at hg
   ·rename_i fd hf;split at hg
    ·cases hg
    ·rename_i hz;simp only[v6] at hg;subst hg;simp only[aV] at h;split at h
     ·rename_i gs hgs;split at h
      ·rename_i v hv;split at h
       ·rename_i hoff;simp only[v6] at h;subst h;exact Vk ho hu hf hz h1 hgs hv hoff
       ·cases h
      ·cases h
     ·rename_i n p hp;split at h
      ·rename_i gs hgs;split at h
       ·rename_i hoff;simp only[v6] at h;subst h;exact Vj ho hu hf hz h1 hp hgs hoff.1 hoff.2
       ·cases h
      ·cases h
     ·cases h
   ·cases hg
  ·cases hg
 -- field
 ·rename_i t y f ho;split at hg
  ·rename_i fs y' hu h1;split at hg
   ·rename_i fd hf;simp only[t7] at hg;obtain ⟨s,hs,rfl⟩:=hg;simp only[aV] at h;split at h
    ·rename_i gs hgs;split at h
     ·rename_i v hv;split at h
      ·rename_i hoff;simp only[v6] at h;subst h;exact Vl ho hu hf hs h1 hgs hv hoff.1 hoff.2
      ·cases h
     ·cases h
    ·cases h
   ·cases hg
  ·cases hg
 -- indexAddr
 ·rename_i t y i ho;split at hg
  ·rename_i n e y' i' hu h1 h2;split at hg
   ·rename_i hinfo;obtain ⟨ti,hti⟩:=zz7.1 hinfo;simp only[v6] at hg;subst hg;simp only[aV] at h;split at h
    ·rename_i kk k hk;split at h
     ·rename_i hb;split at h
      ·rename_i gs hgs;split at h
       ·rename_i hev;simp only[t7] at h;obtain ⟨v,hv,rfl⟩:=h;exact Vn ho hu hti h1 h2 hgs hk hb hev hv
       ·cases h
      ·rename_i m p hp;split at h
       ·rename_i gs hgs;split at h
        ·rename_i hev;simp only[v6] at h;subst h;exact Vm ho hu hti h1 h2 hp hk hb hgs hev
        ·cases h
       ·cases h
      ·cases h
     ·cases h
    ·cases h
   ·cases hg
  ·rename_i e y' i' hu h1 h2;split at hg
   ·rename_i hinfo;obtain ⟨ti,hti⟩:=zz7.1 hinfo;simp only[v6] at hg;subst hg;simp only[aV] at h;split at h
    ·rename_i kk k hk;split at h
     ·rename_i sz es hes;split at h
      ·rename_i hb;obtain ⟨rfl,hb⟩:=hb;simp only[t7] at h;obtain ⟨v,hv,rfl⟩:=h;exact Vo ho hu hti h1 h2 hes hk hb hv
      ·cases h
     ·rename_i m l hm;split at h
      ·rename_i T sz es hes;split at h
       ·rename_i hb;obtain ⟨rfl,rfl,hb⟩:=hb;simp only[t7] at h;obtain ⟨v,hv,rfl⟩:=h;exact Vp ho hu hti h1 h2 hm hes hk hb hv
       ·cases h
      ·cases h
     ·rename_i m p sz lo l hm;split at h
      ·rename_i fs hfs;split at h
       ·rename_i hb;simp only[v6] at h;subst h;exact Vq ho hu hti h1 h2 hb.1 hm hfs hk hb.2
       ·cases h
      ·cases h
     ·cases h
    ·cases h
   ·cases hg
  ·cases hg
 -- index
 ·rename_i t y i ho;split at hg
  ·rename_i n e y' i' hu h1 h2;simp only[t7] at hg;obtain ⟨s,hs,rfl⟩:=hg;simp only[aV] at h;split at h
   ·rename_i kk k hk;split at h
    ·rename_i hb;split at h
     ·rename_i gs hgs;split at h
      ·rename_i hev;split at h
       ·rename_i v hv;split at h
        ·rename_i hok;simp only[v6] at h;subst h;exact Vr ho hu hs h1 h2 hgs hk hb hev hv hok
        ·cases h
       ·cases h
      ·cases h
     ·cases h
    ·cases h
   ·cases h
  ·rename_i y' i' hu h1 h2;simp only[v6] at hg;subst hg;exact VE ho hu h1 h2 (by simpa only[aV,Z3,zz6] using h)
  ·cases hg
 -- slice
 ·rename_i t y lo hi mx ho;split at hg
  ·rename_i n e y' hu h1;split at hg
   ·split at hg
    ·rename_i hinfo;obtain ⟨ti,hti⟩:=zz7.1 hinfo;simp only[v6] at hg;subst hg;simp only[aV] at h;split at h
     ·rename_i m p hp;split at h
      ·rename_i gs hgs;split at h
       ·rename_i hev;simp only[v6] at h;subst h;exact VJ ho hu hti h1 hp hgs hev.1 hev.2.1 hev.2.2
       ·cases h
      ·cases h
     ·rename_i gs hgs;split at h
      ·rename_i hev;simp only[v6] at h;subst h;exact VK ho hu hti h1 hgs hev.1 hev.2.1
      ·cases h
     ·cases h
    ·cases hg
   ·cases hg
  ·rename_i e y' hu h1;split at hg
   ·rename_i lo' hi' mx' q1 q2 q3;split at hg
    ·rename_i hc;obtain ⟨ti,hti⟩:=zz7.1 hc.2;simp only[v6] at hg;subst hg;simp only[aV] at h;split at h
     ·rename_i sz es hes;split at h
      ·rename_i hsz;subst hsz;exact u9 ho hu hti h1 q1 q2 q3 hc.1 (.inl hes) h
      ·cases h
     ·rename_i sz hes;split at h
      ·rename_i hsz;subst hsz;exact u9 ho hu hti h1 q1 q2 q3 hc.1 (.inr (.inl ⟨hes,rfl⟩)) h
      ·cases h
     ·rename_i sz hes;split at h
      ·rename_i hsz;subst hsz;exact u9 ho hu hti h1 q1 q2 q3 hc.1 (.inr (.inr ⟨hes,rfl⟩)) h
      ·cases h
     ·rename_i n p sz l0 k hv;split at h
      ·rename_i fs hfs;split at h
       ·rename_i hsz;exact VF ho hu hti h1 q1 q2 q3 hc.1 hsz hv hfs h
       ·cases h
      ·cases h
     ·cases h
    ·cases hg
   ·cases hg
  ·rename_i y' hu h1;split at hg
   ·rename_i hi;simp only[t7] at hg;obtain ⟨hi',h2,rfl⟩:=hg;exact VH ho hu h1 h2 (by simpa only[aV,Z3,zz6] using h)
   ·rename_i lo;simp only[t7] at hg;obtain ⟨lo',h2,rfl⟩:=hg;exact VI ho hu h1 h2 (by simpa only[aV,Z3,zz6] using h)
   ·split at hg
    ·rename_i lo' hi' h2 h3;simp only[v6] at hg;subst hg;exact VG ho hu h1 h2 h3 (by simpa only[aV,Z3,zz6] using h)
    ·cases hg
   ·cases hg
  ·cases hg
 -- build
 ·rename_i t parts ho;split at hg
  ·rename_i zs ps hz hp;split at hg
   ·rename_i fs hu;split at hg
    ·rename_i hc;simp only[v6] at hg;subst hg;simp only[aV,t7] at h;obtain ⟨zs',h,rfl⟩:=h;exact Ba ho hz hp (.inl ⟨fs,hu,hc.1,hc.2⟩) h
    ·cases hg
   ·rename_i n e hu;split at hg
    ·rename_i hc;simp only[v6] at hg;subst hg;simp only[aV,t7] at h;obtain ⟨zs',h,rfl⟩:=h;exact Ba ho hz hp (.inr ⟨n,e,hu,hc.1,hc.2.1,hc.2.2⟩) h
    ·cases hg
   ·cases hg
  ·cases hg
 -- buildSlice
 ·rename_i t len parts ho;split at hg
  ·rename_i e hu;split at hg
   ·rename_i ps hp;split at hg
    ·rename_i h0;obtain ⟨rfl,rfl,h0⟩:=h0;obtain ⟨ti,hti⟩:=zz7.1 h0;simp only[v6] at hg;subst hg;simp only[aV,v6] at h;subst h;exact Vd ho hu hti
    split at hg
    ·rename_i hc;obtain ⟨c1,c2,c3,c4,c5⟩:=hc;simp only[v6] at hg;subst hg;simp only[aV] at h;split at h
     ·rename_i es hes;split at h
      ·rename_i hev;simp only[v6] at h;subst h;refine Vc ho hu hp c1 c2 c3 c4 c5 hes (fun y hy =>?_) hev.2;have:=zy6.1 hev.1 y hy;simpa using this
      ·cases h
     ·cases h
    ·cases hg
   ·cases hg
  ·cases hg
 -- extract
 ·rename_i y i ho;simp only[t7] at hg;obtain ⟨z,hz,rfl⟩:=hg;simp only[aV] at h;split at h
  ·rename_i fs hfs;exact Vi ho hz hfs h
  ·cases h
 -- makeFunc
 ·rename_i f first caps ho
  split at hg
  case isFalse=>cases hg
  rename_i hlt;split at hg
  ·rename_i hfirst;simp only[t7] at hg;obtain ⟨ys,hys,rfl⟩:=hg;simp only[aV] at h;split at h
   ·rename_i hv;simp only[v6] at h;subst h;have hf:first = #[]:=by simpa using hfirst
    rw[hf] at ho;refine Vu hlt ho hys (fun y hy =>?_);have:=zy6.1 hv (af A y) (zy3.2 ⟨y,hy,rfl⟩);exact this
   ·cases h
  ·split at hg
   case isFalse=>cases hg
   rename_i hcaps;simp only[t7] at hg;obtain ⟨ys,hys,rfl⟩:=hg;simp only[aV] at h;split at h
   ·rename_i hv;simp only[v6] at h;subst h;have hf:caps = #[]:=by simpa using hcaps
    rw[hf] at ho;refine Vw ho hys (fun y hy =>?_);have:=zy6.1 hv (af A y) (zy3.2 ⟨y,hy,rfl⟩);exact this
   ·cases h
 -- alloc
 ·simp only[t7] at hg;obtain ⟨z,_,rfl⟩:=hg;simp[aV] at h
 -- box
 ·simp only[t7] at hg;obtain ⟨z,_,rfl⟩:=hg;simp[aV] at h
 -- store
 ·split at hg
  ·split at hg
   ·simp only[v6] at hg;subst hg;simp[aV] at h
   ·cases hg
  ·cases hg
 -- call
 ·split at hg
  ·simp only[t7] at hg;obtain ⟨z,_,rfl⟩:=hg;simp[aV] at h
  ·simp only[t7] at hg;obtain ⟨z,_,rfl⟩:=hg;simp[aV] at h
 ·split at hg
  ·simp only[v6] at hg;subst hg;simp[aV] at h
  ·cases hg
 -- len
 ·rename_i args tys ho;split at hg
  ·rename_i y ty hargs htys;have ho':o.op=.call { callee:=.builtin .len,args := #[y],argTypes := #[ty] } :=by
    rw[ho];have e1:args = #[y]:=by apply Array.ext';simpa using hargs
    have e2:tys = #[ty]:=by apply Array.ext';simpa using htys
    rw[e1,e2]
   split at hg
   ·rename_i e hu;simp only[t7] at hg;obtain ⟨y',hy,rfl⟩:=hg;simp only[aV] at h;split at h
    ·rename_i sz es hes;simp only[v6] at h;subst h;refine nZ ho' hu (.inl ⟨e,rfl⟩) hy (fun a w D E hs v hv =>?_);rw[hes] at hv;obtain ⟨ad,cap,e1,e2,e3,_⟩:=kH hv;exact ⟨Nat.le_trans e2 e3,fun _=>⟨ad,cap,e1⟩,fun e=>by cases e⟩
    ·rename_i sz hes;simp only[v6] at h;subst h;refine nZ (n:=0) ho' hu (.inl ⟨e,rfl⟩) hy (fun a w D E hs v hv =>?_);rw[hes] at hv;obtain ⟨cs,q1,q2⟩:=hv;simp only[ae] at q2;exact ⟨by simp[maxLen],fun _=>⟨none,0,by simpa[ba,I.isAgg,q2] using q1.symm⟩,fun e=>by cases e⟩
    ·rename_i sz hes;simp only[v6] at h;subst h;refine nZ (n:=0) ho' hu (.inl ⟨e,rfl⟩) hy (fun a w D E hs v hv =>?_);rw[hes] at hv;obtain ⟨cs,q1,q2⟩:=hv;simp only[ae] at q2;obtain ⟨ad,q2⟩:=q2;exact ⟨by simp[maxLen],fun _=>⟨ad,0,by simpa[ba,I.isAgg,q2] using q1.symm⟩,fun e=>by cases e⟩
    ·rename_i m l hm;split at h
     ·rename_i T sz es hes;split at h
      ·rename_i hl;subst hl;simp only[v6] at h;subst h;refine nZ ho' hu (.inl ⟨e,rfl⟩) hy (fun a w D E hs v hv =>?_);rw[hm] at hv;rcases hs.own hes hv with ⟨rfl,_,rfl⟩ | ⟨b,cap,cs,pre,rest,_,rfl,_,_,_,_,_,k8,k9,_⟩
       ·exact ⟨by simp[maxLen],fun _=>⟨none,0,rfl⟩,fun e=>by cases e⟩
       ·exact ⟨Nat.le_trans k8 k9,fun _=>⟨_,_,rfl⟩,fun e=>by cases e⟩
      ·cases h
     ·cases h
    ·rename_i n p sz lo k hm;simp only[v6] at h;subst h;refine nZ ho' hu (.inl ⟨e,rfl⟩) hy (fun a w D E hs v hv =>?_);rw[hm] at hv;obtain ⟨cs,q1,q2⟩:=hv;simp only[ae] at q2;obtain ⟨b,aK,off,l,_,_,_,q2,q3,q4,_⟩:=q2;exact ⟨by omega,fun _=>⟨_,_,by simpa[ba,I.isAgg,q2] using q1.symm⟩,fun e=>by cases e⟩
    ·cases h
   ·rename_i hu;simp only[t7] at hg;obtain ⟨y',hy,rfl⟩:=hg;simp only[aV] at h;split at h
    ·rename_i s hs';simp only[v6] at h;subst h;refine nZ ho' hu (.inr rfl) hy (fun a w D E hs v hv =>?_);rw[hs'] at hv;obtain ⟨e1,e2⟩:=fS hv;exact ⟨e2,(fun e=>by obtain ⟨_,e⟩:=e;cases e),fun _=>⟨s,e1,rfl⟩⟩
    ·cases h
   ·cases hg
  ·cases hg
 -- append
 ·split at hg
  ·split at hg
   ·split at hg
    ·simp only[t7] at hg;obtain ⟨z,_,rfl⟩:=hg;simp[aV] at h
    ·split at hg
     ·simp only[t7] at hg;obtain ⟨z,_,rfl⟩:=hg;simp[aV] at h
     ·cases hg
   ·cases hg
  ·cases hg
 -- cap
 ·rename_i args tys ho;split at hg
  ·rename_i y ty hargs htys;have ho':o.op=.call { callee:=.builtin .cap,args := #[y],argTypes := #[ty] } :=by
    rw[ho];have e1:args = #[y]:=by apply Array.ext';simpa using hargs
    have e2:tys = #[ty]:=by apply Array.ext';simpa using htys
    rw[e1,e2]
   split at hg
   ·rename_i e hu;simp only[t7] at hg;obtain ⟨y',hy,rfl⟩:=hg;simp only[aV] at h;split at h
    ·rename_i sz hes;simp only[v6] at h;subst h;refine u6 ho' hu hy (fun a w D E hs v hv =>?_);rw[hes] at hv;obtain ⟨cs,q1,q2⟩:=hv;simp only[ae] at q2;exact ⟨by simp[maxLen],_,_,by simpa[ba,I.isAgg,q2] using q1.symm⟩
    ·rename_i sz hes;simp only[v6] at h;subst h;refine u6 ho' hu hy (fun a w D E hs v hv =>?_);rw[hes] at hv;obtain ⟨cs,q1,q2⟩:=hv;simp only[ae] at q2;obtain ⟨ad,q2⟩:=q2;exact ⟨by simp[maxLen],_,_,by simpa[ba,I.isAgg,q2] using q1.symm⟩
    ·rename_i n p sz lo k hm;split at h
     ·rename_i fs hfs;simp only[v6] at h;subst h;refine u6 ho' hu hy (fun a w D E hs v hv =>?_);rw[hm] at hv;obtain ⟨_,b,cs,T,off,c1,c2,c3,_,_,_,_,_,_,_,_,_,_,_,q1,q2⟩:=hs.view hv hfs;exact ⟨by omega,_,_,q2⟩
     ·cases h
    ·cases h
   ·cases hg
  ·cases hg
 -- clear
 ·split at hg
  ·split at hg
   ·simp only[t7] at hg;obtain ⟨z,_,rfl⟩:=hg;simp[aV] at h
   ·cases hg
  ·cases hg
 -- copy
 ·split at hg
  ·split at hg
   ·split at hg
    ·simp only[v6] at hg;subst hg;simp[aV] at h
    ·cases hg
   ·cases hg
  ·cases hg
 -- delete
 ·split at hg
  ·split at hg
   ·simp only[t7] at hg;obtain ⟨z,_,rfl⟩:=hg;simp[aV] at h
   ·cases hg
  ·cases hg
 -- max
 ·rename_i args _ ho;split at hg
  ·rename_i x y hargs;split at hg
   ·rename_i x' y' h1 h2;simp only[v6] at hg;subst hg;simp only[aV] at h;have e1:args = #[x,y]:=by apply Array.ext';simpa using hargs
    rw[e1] at ho;exact Vy ho h1 h2 h
   ·cases hg
  ·cases hg
 -- min
 ·rename_i args tys ho;split at hg
  ·rename_i x y hargs;split at hg
   ·rename_i x' y' h1 h2;simp only[v6] at hg;subst hg;have e1:args = #[x,y]:=by apply Array.ext';simpa using hargs
    rw[e1] at ho;exact Vx ho h1 h2 (by simpa only[aV,Z3,zz6] using h)
   ·cases hg
  ·cases hg
 -- makeInterface
 ·rename_i t y ho;split at hg
  ·rename_i hu;simp only[t7] at hg;obtain ⟨y',h1,rfl⟩:=hg;exact Vv ho hu h1 (by simpa only[aV,Z3,zz6] using h)
  ·cases hg
 -- panic
 ·simp only[t7] at hg;obtain ⟨y',_,rfl⟩:=hg;simp[aV,ep] at h
 ·cases hg
theorem dW.append{α β:Type}{R:α→β→Prop} : ∀ {xs:List α} {ys:List β} {xs':List α} {ys':List β},dW R xs ys→dW R xs' ys'→dW R (xs++xs') (ys++ys')
 |_,_,_,_,.nil,h=>h
 |_,_,_,_,.cons h1 h2,h=>.cons h1 (h2.append h)
theorem oH{w:World}{D:aJ}{E:aN} : ∀ {xs:List I} {vs:List Value},ar w D E xs vs→dW (aR w D E) xs vs
 | [],vs,h=>by simp only[ar] at h;subst h;exact .nil
 |x::xs,vs,h=>by
  simp only[ar] at h;obtain ⟨v,rest,cs,rfl,h1,h2,h3⟩:=h;exact .cons (fB h1 h2) (oH h3)
theorem IF {P : Program} {f : FuncId} (h : dR P f = true) : ∃ fn, P.funcs[f]? = some fn ∧ ¬ fn.name = "runtime.NumGoroutine" ∧ ¬ fn.body = none := by
 unfold dR at h;rw[Z0] at h
 replace h:=h.2
 cases hf:P.funcs[f]? with
 |none=>simp[hf] at h
 |some fn =>
  simp only[hf,Option.any_some,Z0,bne_iff_ne,ne_eq] at h;refine ⟨fn,rfl,by simpa using h.1,?_⟩;cases hb:fn.body <;>simp_all
theorem zy{P:Program}{f:FuncId}(h:dR P f=true):f<1000000:=by
 unfold dR at h;rw[Z0] at h;simpa[Nat.blt_eq] using h.1
theorem ma{P:Program}{w:World}{f:FuncId}{args:Array Value}(h:dR P f=true):(callFunc f args).run P w=.ok (.enter f args) w:=by
 obtain ⟨fn,h1,h2,h3⟩:=IF h;simp[callFunc,h1,h2,h3]
theorem aL.jr{A:ab}{a:Act}{w:World}{D:aJ}{E:aN}(h:aL c A a w D E){n:Nat}{e:bx}{b:Nat}(he:E n=some e)(hb:e.aG=some b):c.ef b:=by
 have:=h.bB n;unfold cJ at this;split at this
 ·simp[this] at he
 ·obtain ⟨b',cs,T,h1,h2,_⟩:=this;rw[h1,v6] at he;subst he;simp only[bx.aG,v6] at hb;exact hb▸h2
 ·obtain ⟨aG,h1,h2,h3⟩:=this;rw[h1,v6] at he;subst he;split at h3
  ·cases hb
  ·obtain ⟨cs,pre,rest,h4,_⟩:=h3;simp only[bx.aG,v6] at hb;exact hb▸h4
 ·obtain ⟨b',h1,h2,_⟩:=this;rw[h1,v6] at he;subst he;simp only[bx.aG,v6] at hb;exact hb▸h2
 ·obtain ⟨b',es,ck,h1,h2,_⟩:=this;rw[h1,v6] at he;subst he;simp only[bx.aG,v6] at hb;exact hb▸h2
 ·obtain ⟨b',bb,es,ck,dK,se,la,h1,h2,_⟩:=this;rw[h1,v6] at he;subst he;simp only[bx.aG,v6] at hb;exact hb▸h2
 ·obtain ⟨aG,h1,h2,h3⟩:=this;rw[h1,v6] at he;subst he;split at h3
  ·cases hb
  ·obtain ⟨cs,m,h4,_⟩:=h3;simp only[bx.aG,v6] at hb;exact hb▸h4
theorem aL.pQ{A:ab}{a:Act}{w:World}{D:aJ}{E:aN}(h:aL c A a w D E):eH c.P w (bY E) :=
 h.eS.1.BA h.de (fun _ hb=>hb) fun _ ⟨_,_,h1,h2⟩=>h.jr h1 h2
theorem aL.vk{A:ab}{a:Act}{w:World}{D:aJ}{E:aN}(h:aL c A a w D E):eH c.P w (fun _=>False):=h.pQ.r8 fun _ h=>h.elim
theorem aL.oh{A:ab}{a:Act}{w:World}{D:aJ}{E:aN}(h:aL c A a w D E){ρ:List (Nat×Nat)}{os:List (Nat×ai)} : eH c.P w (bY (ao ρ os E)):=h.pQ.r8 fun b ⟨n,e,h1,h2⟩=>by
 simp only[ao] at h1;split at h1
 ·exact ⟨_,e,h1,h2⟩
 ·cases h1
theorem aQ.ZG{f:FuncId}{avs cargs:List I}{r:I}{vs:List Value}{a:Act}{w:World}{D:aJ}{E:aN}(hs:aL c A a w D E)(h:aQ c.P f cargs r)(hf:r.flat=true)(hc:bL true A avs=some cargs)(hv:dW (aR w D E) avs vs) :
  Calls c.P f vs.toArray w fun e w'=>∃ v D',e=.returned v∧aL c A a w' D' E∧aR w' D' E r v:=by
 have hw:gF true A D E (fun b _=>b<w.heap.size):=by
  refine ⟨fun b o hd=>hs.cO b o hd,fun n T sz es b cap hn ao o _=>hs.fi ao rfl,fun _ n x b aK hn ao o _=>hs.fi ao rfl,fun _ n ks vs b hn ao=>hs.fi ao rfl⟩
 have hrv:=lg (E':=cu) hs (fun _ _ h=>h) hw avs cargs vs (kI _ _ hv (pB hc)) hc;refine (h.2 w _ vs hs.vk (fun _ _ hd=>hd) hrv).mono fun e w' ⟨v,D',he,h1,h2,h3,h4⟩=>⟨v,D,he,?_,aR.flat hf h1⟩
 exact hs.grow h2 (fun _ _ hd=>hd) (fun _ _ hd _=>hd) (fun b o hd=>zx8 (hs.cO b o hd) h2.size)
theorem aQ.ZI{f:FuncId}{avs cargs:List I}{r:I}{vs:List Value}{a:Act}{w:World}{D:aJ}{E:aN}(hs:aL c A a w D E)(h:aQ c.P f cargs r)(hc:bL false A avs=some cargs)(hv:dW (aR w D E) avs vs) :
  Calls c.P f vs.toArray w fun e w'=>∃ v D',e=.returned v∧aL c A a w' D' E∧aR w' D' E r v:=by
 obtain ⟨hs1,hw⟩:=hs.nm;have hrv:=lg (E':=cu) hs (fun _ _ h=>h) hw avs cargs vs (kI _ _ hv (pB hc)) hc;refine (h.2 w _ vs hs.vk hs1.cO hrv).mono fun e w' ⟨v,D',he,h1,h2,h3,h4⟩=>⟨v,fun b o=>nj A D E b o∨(w.heap.size≤b∧D' b o),he,?_,?_⟩
 ·refine hs1.grow h2 (fun _ _ hd=>.inl hd) ?_ ?_
  ·rintro b o (hd | ⟨hle,_⟩) hlt
   ·exact hd
   ·omega
  ·rintro b o (hd | ⟨_,hd⟩)
   ·exact zx8 (hs1.cO b o hd) h2.size
   ·exact h3 b o hd
 ·refine aR.later (E:=cu) ⟨fun b o hd =>?_,fun _ _ _ _ h=>h,fun n b aK hn=>by simp[cu] at hn,fun n aG l hn=>by simp[cu] at hn,fun n b hn=>by simp[cu] at hn,fun n b hn=>by simp[cu] at hn,fun _ _ _ _ h=>h⟩ h1;rcases Nat.lt_or_ge b w.heap.size with hlt | hge
  ·exact .inl (h4 b o hd hlt)
  ·exact .inr ⟨hge,hd⟩
theorem BS(p:Nat→Bool)(os:List (Nat×ai))(n:Nat):aE (os.filter fun q=>p q.1) n=if p n then aE os n else none:=by
 induction os with
 |nil=>simp[aE]
 |cons q os ih =>
  obtain ⟨k,v⟩:=q;simp only[List.filter_cons];by_cases hk:p k=true
  ·simp only[hk,if_true,aE,ih];by_cases hn:n=k
   ·subst hn;simp only[hk,if_true]
   ·simp only[if_neg hn]
  ·simp only[hk,Z4,if_false,ih,aE];by_cases hn:n=k
   ·subst hn;simp[hk]
   ·simp only[if_neg hn]
theorem sf(ns:List Nat)(os:List (Nat×ai))(n:Nat):aE (c7 ns os) n=if ns.contains n then none else aE os n:=by
 rw[c7,BS (fun n => !ns.contains n)];cases ns.contains n <;>rfl
theorem pV(ns:List Nat)(os:List (Nat×ai))(n:Nat):aE (jO ns os) n=if ns.contains n then aE os n else none:=BS _ _ _
theorem Cq{p:Nat→Bool} : ∀ {os:List (Nat×ai)},bA p os→∀ k x,aE os k=some x→x.only p=true
 | [],_,k,x,hx=>by simp[aE] at hx
 |(j,v)::r,h,k,x,hx=>by
  simp only[bA] at h;simp only[aE] at hx;split at hx
  ·simp only[v6] at hx;subst hx;exact h.1
  ·exact Cq h.2 k x hx
theorem BT(ns:List Nat):∀ (ts:List (Nat×I)) (t:Nat),bP (fO ns ts) t=if (bP ts t).only (fun n => !ns.contains n) then bP ts t else .cV
 | [],t=>by simp[fO,bP,I.only]
 |(k,v)::r,t=>by
  simp only[fO,Z3,bP];by_cases h:t=k
  ·simp only[if_pos h]
  ·simp only[if_neg h];exact BT ns r t
theorem aL.freeze{a:Act}{w:World}{D:aJ}{E:aN}{ts:List (Nat×I)}{os0:List (Nat×ai)}(h:aL c (aq ts os0) a w D E)(ns:List Nat)(ho:bA (fun n => !ns.contains n) (c7 ns os0)) :
  ∃ D' E',aL c (aq (fO ns ts) (c7 ns os0)) a w D' E'∧gF true (aq ts (jO ns os0)) D E D':=by
 have h1:=h.nm.1;have hw1:=h.nm.2;obtain ⟨D1,hD1⟩:∃ D1,D1=nj (aq ts os0) D E:=⟨_,rfl⟩
 rw[←hD1] at h1 hw1;obtain ⟨D2,hD2⟩:∃ D2:aJ,D2=fun b o=>D1 b o∨(∃ n x aK,ns.contains n=true∧aE os0 n=some (.box x)∧E n=some (.aI b aK)∧o<x.size)∨∃ n ks vs,ns.contains n=true∧aE os0 n=some (.cg ks vs)∧E n=some (.cg b)∧o=0:=⟨_,rfl⟩
 obtain ⟨E2,hE2⟩:∃ E2:aN,E2=fun n=>if ns.contains n then none else E n:=⟨_,rfl⟩
 have e2:∀ n,(!ns.contains n)=true→E2 n=E n:=fun n hn=>by rw[hE2];simp at hn;simp[hn]
 have hl:dm w D1 E2 w D2 E2:=⟨fun b o hd=>by rw[hD2];exact .inl hd,fun _ _ _ _ h=>h,fun _ _ _ h=>h,fun _ aG l h=>⟨aG,l,h,Z7 _,fun _=>rfl⟩,fun _ _ h=>h,fun _ _ h=>h,fun _ _ _ _ h=>h⟩
 have oq:∀ b o,D2 b o→D1 b o∨∃ n e q,ns.contains n=true∧E n=some e∧e.aG=some b∧c.ef b∧w.heap[b]?=some q:=fun b o hd=>by
  rw[hD2] at hd;rcases hd with hd | ⟨n,x,aK,k1,k2,k3,k4⟩ | ⟨n,ks,vs,k1,k2,k3,_⟩
  ·exact .inl hd
  ·obtain ⟨b',cs,T,q1,q2,q3,_⟩:=h.box (n:=n) (x:=x) (by simpa[aq] using k2);rw[k3] at q1;simp only[v6,bx.aI.injEq] at q1;obtain ⟨rfl,rfl⟩:=q1;obtain ⟨_,q3,_⟩:=q3.bB;exact .inr ⟨n,_,_,k1,k3,rfl,q2,q3⟩
  ·obtain ⟨b',es,ck,q1,q2,q3,_⟩:=h.map (n:=n) (ks:=ks) (vs:=vs) (by simpa[aq] using k2);rw[k3] at q1;cases q1;exact .inr ⟨n,_,_,k1,k3,rfl,q2,q3⟩
 refine ⟨D2,E2,⟨h1.sz,h1.eb,fun t =>?_,h1.de,fun b o hd hm =>?_,fun b o hd =>?_,fun n =>?_,fun n m e e' b g1 g2 g3 g4 =>?_,fun n e hn =>?_,h1.eD,fun b o hd=>hl.cK b o (h1.cA b o hd),h1.eS,h1.ft⟩,?_⟩
 ·simp only[aq,BT];have ht:=h1.dF t;simp only[aq] at ht;split
  ·rename_i hp;exact aR.later hl (aR.dD e2 hp ht)
  ·simp[aR]
 ·rcases oq b o hd with hd | ⟨n,e,q,_,_,_,k,_⟩
  ·exact h1.cK b o hd hm
  ·exact absurd k hm
 ·rcases oq b o hd with hd | ⟨n,e,q,_,_,_,_,k⟩
  ·exact h1.cO b o hd
  ·exact eQ k
 ·simp only[aq,sf];by_cases hn:ns.contains n=true
  ·simp only[hn,if_true,cJ];rw[hE2];simp only[hn,if_true]
  ·have hnb:(!ns.contains n)=true:=by simpa using hn
   simp only[hn,Z4,if_false];have hob:=h1.bB n;simp only[aq] at hob;cases hx:aE os0 n with
   |none=>rw[hx] at hob;simp only[cJ] at hob ⊢;rw[e2 n hnb];exact hob
   |some x =>
    have hon:=Cq ho n x (by rw[sf,if_neg hn];exact hx);have nD:∀ e b,E n=some e→e.aG=some b→∀ o,D2 b o→D1 b o:=fun e b he hb o hd=>by
     rcases oq b o hd with hd | ⟨m,e',q,k1,k3,k2,_⟩
     ·exact hd
     ·have:=h.cz n m e _ b he k3 hb k2;subst this;exact absurd k1 hn
    rw[hx] at hob;cases x with
    |box x =>
     obtain ⟨b,cs,T,k1,k2,k3,k4,k5⟩:=hob;exact ⟨b,cs,T,(e2 n hnb).trans k1,k2,k3,ae.later hl _ _ (ae.dD e2 _ _ (by simpa[ai.only] using hon) k4),fun o hd=>k5 o (nD _ b k1 rfl o hd)⟩
    |bQ T sz es =>
     obtain ⟨aG,k1,k2,k3⟩:=hob;refine ⟨aG,(e2 n hnb).trans k1,k2,?_⟩;cases aG with
     |none=>exact k3
     |some bc =>
      obtain ⟨b,cap⟩:=bc;obtain ⟨cs,pre,rest,q1,q2,q3,q4,q5,q6,q7,q8⟩:=k3;exact ⟨cs,pre,rest,q1,q2,q3,aH.later hl _ _ (aH.dD e2 _ _ (by simpa[ai.only] using hon) q4),q5,q6,q7,fun o hd=>q8 o (nD _ b k1 rfl o hd)⟩
    |dL T xs =>
     obtain ⟨aG,k1,k2,k3⟩:=hob;refine ⟨aG,(e2 n hnb).trans k1,k2,?_⟩;cases aG with
     |none=>exact k3
     |some bc =>
      obtain ⟨b,cap⟩:=bc;obtain ⟨cs,r,q1,q2,q3,q4,q5,q6,q7⟩:=k3;exact ⟨cs,r,q1,q2,q3,q4,q5,q6,fun o hd=>q7 o (nD _ b k1 rfl o hd)⟩
    |c6 x =>
     obtain ⟨b,k1,k2,k3,k4,k5⟩:=hob;exact ⟨b,(e2 n hnb).trans k1,k2,k3,k4,fun o hd=>k5 o (nD _ b k1 rfl o hd)⟩
    |cg ks vs =>
     obtain ⟨b,es,ck,k1,k2,k3,k4,k5,k6,k7⟩:=hob;simp only[ai.only,Z0] at hon;exact ⟨b,es,ck,(e2 n hnb).trans k1,k2,k3,k4,ar.later hl _ _ (ar.dD e2 _ _ hon.1 k5),ar.later hl _ _ (ar.dD e2 _ _ hon.2 k6),fun o hd=>k7 o (nD _ b k1 rfl o hd)⟩
    |it ks vs left cur =>
     obtain ⟨r,b,es,ck,dK,se,la,k1,k2,k3,k4,k5,k6,k7,k8,k9,k9',k10⟩:=hob;simp only[ai.only,Z0] at hon;exact ⟨r,b,es,ck,dK,se,la,(e2 n hnb).trans k1,k2,k3,k4.later hl,ar.later hl _ _ (ar.dD e2 _ _ hon.1 k5),ar.later hl _ _ (ar.dD e2 _ _ hon.2 k6),k7,k8,k9,k9',fun o hd=>k10 o (nD _ r k1 rfl o hd)⟩
 ·have nS:∀ n e,E2 n=some e→E n=some e:=fun n e he=>by
   rw[hE2] at he;simp only at he;split at he
   ·cases he
   ·exact he
  exact h.cz n m e e' b (nS n e g1) (nS m e' g2) g3 g4
 ·by_cases hm:ns.contains n=true
  ·left;rw[hE2];simp only[hm,if_true]
  ·rw[e2 n (by simpa using hm)];exact h.dw n e hn
 ·refine ⟨fun b o hd=>by rw[hD2];exact .inl (hw1.cK b o hd),fun n T sz es b cap hn ao o hlt =>?_,fun _ n x b aK hn ao o hlt =>?_,fun _ n ks vs b hn ao =>?_⟩
  ·simp only[aq,pV] at hn;split at hn
   ·rw[hD2];exact .inl (hw1.bQ n T sz es b cap hn ao o hlt)
   ·cases hn
  ·simp only[aq,pV] at hn;split at hn
   ·rename_i hk;rw[hD2];exact .inr (.inl ⟨n,x,aK,hk,hn,ao,hlt⟩)
   ·cases hn
  ·simp only[aq,pV] at hn;split at hn
   ·rename_i hk;rw[hD2];exact .inr (.inr ⟨n,ks,vs,hk,hn,ao,rfl⟩)
   ·cases hn
theorem aQ.ZH{f:FuncId}{avs cargs:List I}{r:I}{vs:List Value}{a:Act}{w:World}{D:aJ}{E:aN}{ts:List (Nat×I)}{os0:List (Nat×ai)}(hs:aL c (aq ts os0) a w D E)(ns:List Nat)(ho:bA (fun n => !ns.contains n) (c7 ns os0))
  (h:aQ c.P f cargs r) (hc:bL true (aq ts (jO ns os0)) avs=some cargs) (hv:dW (aR w D E) avs vs) :
  Calls c.P f vs.toArray w fun e w'=>∃ v D' E',e=.returned v∧aL c (aq (fO ns ts) (c7 ns os0)) a w' D' E'∧aR w' D' E' r v:=by
 obtain ⟨D1,E1,hs1,hw⟩:=hs.freeze ns ho;have hu:du (aq ts (jO ns os0)) (aq ts os0):=fun n x hx=>by
  simp only[aq,pV] at hx ⊢;split at hx
  ·exact hx
  ·cases hx
 have hrv:=lg (E':=cu) hs hu hw avs cargs vs (kI _ _ hv (pB hc)) hc;refine (h.2 w _ vs hs.vk hs1.cO hrv).mono fun e w' ⟨v,D',he,h1,h2,h3,h4⟩=>⟨v,fun b o=>D1 b o∨(w.heap.size≤b∧D' b o),E1,he,?_,?_⟩
 ·refine hs1.grow h2 (fun _ _ hd=>.inl hd) ?_ ?_
  ·rintro b o (hd | ⟨hle,_⟩) hlt
   ·exact hd
   ·omega
  ·rintro b o (hd | ⟨_,hd⟩)
   ·exact zx8 (hs1.cO b o hd) h2.size
   ·exact h3 b o hd
 ·refine aR.later (E:=cu) ⟨fun b o hd =>?_,fun _ _ _ _ h=>h,fun n b aK hn=>by simp[cu] at hn,fun n aG l hn=>by simp[cu] at hn,fun n b hn=>by simp[cu] at hn,fun n b hn=>by simp[cu] at hn,fun _ _ _ _ h=>h⟩ h1;rcases Nat.lt_or_ge b w.heap.size with hlt | hge
  ·exact .inl (h4 b o hd hlt)
  ·exact .inr ⟨hge,hd⟩
theorem tX{a:Act}{w:World}{D D1:aJ}{E:aN}{ts:List (Nat×I)}{os0 os:List (Nat×ai)}{ρ:List (Nat×Nat)}{aI:Bool}{A0:ab}(hs:aL c (aq ts os0) a w D E)(hu:du A0 (aq ts os0))(hD:∀ b o,D b o→D1 b o)(hw:gF aI A0 D E D1) :
  ∀ (avs cargs:List I) (vs:List Value),fU aI A0 ρ os avs cargs→dW (aR w D E) avs vs→ar w D1 (ao ρ os E) cargs vs
 | [],[],vs,_,hv=>by cases hv;simp[ar]
 | [],_::_,_,h,_=>by simp[fU] at h
 |_::_,[],_,h,_=>by simp[fU] at h
 |x::xs,y::ys,vs,h,hv=>by
  cases hv with
  |cons hv hvs =>
  rename_i v vs;simp only[fU] at h;have ih:=tX hs hu hD hw xs ys vs h.2 hvs;have hl:dm w D (ao ρ os E) w D1 (ao ρ os E):=⟨hD,fun _ _ _ _ h=>h,fun _ _ _ h=>h,fun _ aG l h=>⟨aG,l,h,Z7 _,fun _=>rfl⟩,fun _ _ h=>h,fun _ _ h=>h,fun _ _ _ _ h=>h⟩
  have h1:∃ cs,ba y v cs∧ae w D1 (ao ρ os E) y cs:=by
   rcases h.1 with ⟨k1,k2,k3⟩ | k
   ·rw[k1] at hv;have h2:=aR.later hl ((aR.aO (w:=w) (D:=D) (p:=al os) (ρ:=bg ρ) (E:=ao ρ os E) (E':=E) (fun n hn=>by simp only[ao,hn,if_true]) k2).1 hv);cases y <;>simp only[aR] at h2 <;>first | (simp[I.cD] at k3;done) | exact h2
   ·have h2:ar w D E [x] [v]:=kI [x] [v] (.cons hv .nil) (by
     intro z hz;simp only[zx4] at hz;subst hz;cases z <;>simp_all[bd,I.cD])
    have h3:=lg (E':=ao ρ os E) hs hu hw [x] [y] [v] h2 (by simp[bL,k]);simp only[ar] at h3;obtain ⟨v',rest,cs,e,k1,k2,_⟩:=h3;simp only[zz9] at e;obtain ⟨rfl,_⟩:=e;exact ⟨cs,k1,k2⟩
  obtain ⟨cs,k1,k2⟩:=h1;simp only[ar];exact ⟨v,vs,cs,rfl,k1,k2,ih⟩
theorem du.drop(ts:List (Nat×I))(ns:List Nat)(os0:List (Nat×ai)):du (aq ts (c7 ns os0)) (aq ts os0):=fun n x hx=>by
 simp only[aq,sf] at hx ⊢;split at hx
 ·cases hx
 ·exact hx
theorem mi.use{run:Array Value→World→(Ending→World→Prop)→Prop}{since:World→aJ→aN→Prop}{avs cargs:List I}{post:cd}{vs:List Value}{a:Act}{w:World}{D:aJ}{E:aN}{ts:List (Nat×I)}{os0 os:List (Nat×ai)}{ρ:List (Nat×Nat)}
  (hs:aL c (aq ts os0) a w D E) (h:mi run since cargs os post) (aI:Bool) (hmono:∀ {vs w R R'},run vs w R→(∀ e w,R e w→R' e w)→run vs w R') (hsince:(aI=true→∀ D,since w D (ao ρ os E))∧(aI=false→since w (nj (aq ts os0) D E) (ao ρ os E)))
  (hg:eP ρ os os0) (ha:fU aI (aq ts (c7 (iB ρ os) os0)) ρ os avs cargs) (hb:∀ r os',post r os'→df aI ρ os os0 r os') (hv:dW (aR w D E) avs vs) :
  run vs.toArray w fun e w'=>∃ v r os' D2 E2,e=.returned v∧post r os'∧aL c (aq ts (cL ρ os'++os0)) a w' D2 E2∧aR w' D2 E2 (r.aO (bg ρ)) v∧∀ m e,ao ρ os E m=some e→al os' m=true→∃ e',E2 (bg ρ m)=some e'∧e.fk e':=by
 have notName:∀ n,(iB ρ os).contains n=false→∀ m,al os m=true→bg ρ m≠n:=fun n hn m hm he=>by
  obtain ⟨q,hq,rfl⟩:=vg.1 hm;have:(iB ρ os).contains n=true:=by simp only[iB,List.contains_iff_mem,zy3];exact ⟨q,hq,he⟩
  rw[this] at hn;cases hn
 have other:∀ {D:aJ},aL c (aq ts os0) a w D E→∀ n e b x,aE (c7 (iB ρ os) os0) n=some x→E n=some e→e.aG=some b→¬ bY (ao ρ os E) b:=fun hs n e b x hx he hb ho=>by
  obtain ⟨m,e',h1,h2,hb',_⟩:=hs.rO hg ho;rw[sf] at hx;split at hx
  ·cases hx
  ·rename_i hc;have:=hs.cz n (bg ρ m) e _ b he h2 hb hb';exact notName n (by simpa using hc) m h1 this.symm
 cases aI with
 |true =>
  obtain ⟨D1,hD1⟩:∃ D1:aJ,D1=fun b o=>D b o∨(b<w.heap.size∧¬ bY (ao ρ os E) b):=⟨_,rfl⟩
  have hD:∀ b o,D b o→D1 b o:=fun b o hd=>by rw[hD1];exact .inl hd
  have hw:gF true (aq ts (c7 (iB ρ os) os0)) D E D1:=by
   refine ⟨hD,fun n T sz es b cap hn ao o _ =>?_,fun _ n x b aK hn ao o _ =>?_,fun _ n ks vs b hn ao =>?_⟩
   ·rw[hD1];exact .inr ⟨hs.fi ao rfl,other hs n _ b _ hn ao rfl⟩
   ·rw[hD1];exact .inr ⟨hs.fi ao rfl,other hs n _ b _ hn ao rfl⟩
   ·rw[hD1];exact .inr ⟨hs.fi ao rfl,other hs n _ b _ hn ao rfl⟩
  have hrv:=tX hs (du.drop ts _ os0) hD hw avs cargs vs ha hv;refine hmono (h w D1 (ao ρ os E) vs (hsince.1 rfl _) (fun b o hd=>by
   rw[hD1] at hd;rcases hd with hd | hd
   ·exact hs.cO b o hd
   ·exact hd.1) (hs.Bi hg hD fun b o hd ho=>by
    rw[hD1] at hd;rcases hd with hd | hd
    ·exact hd
    ·exact absurd ho hd.2) hrv) ?_
  rintro e w' ⟨v,D',E',r,os',he,hp,h1,h2,h3,h4,h5,h6,h7,h8⟩;obtain ⟨D2,E2,k1,k2⟩:=hs.kU hg hD (fun h=>by cases h) (hb r os' hp) h1 h2 h3 h5 h4 h8 h6 h7;exact ⟨v,r,os',D2,E2,he,hp,k1,k2⟩
 |false =>
  obtain ⟨hs1,hw⟩:=hs.nm;have hw':gF false (aq ts (c7 (iB ρ os) os0)) D E (nj (aq ts os0) D E):=⟨hw.cK,fun n T sz es b cap hn ao o hlt=>hw.bQ n T sz es b cap (du.drop ts _ os0 n _ hn) ao o hlt,(fun hb=>by cases hb),fun hb=>by cases hb⟩
  have hrv:=tX hs (du.drop ts _ os0) hw.cK hw' avs cargs vs ha hv;refine hmono (h w _ (ao ρ os E) vs (hsince.2 rfl) hs1.cO (hs1.Bi hg (fun _ _ h=>h) fun b o hd _=>hd) hrv) ?_;rintro e w' ⟨v,D',E',r,os',he,hp,h1,h2,h3,h4,h5,h6,h7,h8⟩;obtain ⟨D2,E2,k1,k2⟩:=hs1.kU hg (fun _ _ h=>h) (fun _ _ _ h=>h) (hb r os' hp) h1 h2 h3 h5 h4 h8 h6 h7;exact ⟨v,r,os',D2,E2,he,hp,k1,k2⟩
theorem aL.since{A:ab}{a:Act}{w:World}{D:aJ}{E E':aN}(h:aL c A a w D E)(ao:∀ n,E' n=E n∨E' n=none):xD c w D E' :=
 ⟨h.de,h.cA,h.cK,fun n e hn=>by
  rcases ao n with k | k
  ·rw[k];exact h.dw n e hn
  ·exact .inl k,h.ft,h.pQ.r8 fun b ⟨n,e,h1,h2⟩=>by
   rcases ao n with k | k
   ·rw[k] at h1;exact ⟨n,e,h1,h2⟩
   ·rw[k] at h1;cases h1⟩
theorem lh(c:cn)(f:FuncId):c.bo.fn f:=by unfold cn.bo;split <;>trivial
theorem uy(c:cn):c.bo.depth.isSome=true→1≤9:=fun _=>by omega
theorem jf{a:Act}{w:World} : ∀ f,o.about c.P w a.eval=some f→c.bo.fn f:=fun f _=>lh c f
theorem jy{g:bw}(hg:cB c.P o=some g)(r:Option Nat)(ρ:Operand→Value):o.semAt r ρ=execOp ρ o:=by
 cases r with
 |none=>rfl
 |some l =>
  refine Oper.semAt_some l ρ o fun cl h =>?_;unfold cB at hg;rw[h] at hg;simp at hg
theorem zA{f:FuncId}{args:Array Value}{w:World}{R:Ending→World→Prop}(h:Calls c.P f args w R):CallsIn c.bo (9-1) c.P f args w R:=by
 have h1:CallsIn Fence.wide (9-1) c.P f args w R:=callsIn_wide.2 h;unfold cn.bo;split
 ·exact h1
 ·exact h1
theorem qP.mono{P:Program}{v:Value}{vs:Array Value}{w:World}{R R':Ending→World→Prop}(h:qP P v vs w R)(hr:∀ e w,R e w→R' e w):qP P v vs w R':=by
 obtain ⟨l,h1,fn,tmps,assign,body,h2,h3⟩:=h;exact ⟨l,h1,fn,tmps,assign,body,h2,h3.mono hr⟩
theorem YV{l:Nat}{f:FuncId}{tmps:Array Value}{assign body:Code}{w:World}{R:Ending→World→Prop}(h:RoundIn Fence.wide 9 c.P l f tmps assign body w R):RoundIn c.bo (9-1) c.P l f tmps assign body w R:=by
 have h1:RoundIn Fence.wide (9-1) c.P l f tmps assign body w R:=⟨h.1,fun cc cs _=>h.2 cc cs (room_wide _)⟩
 unfold cn.bo;split
 ·exact h1
 ·exact h1
theorem gn.wp{B:ab}{g:bw}(hg:cB c.P o=some g)(h:gn c A o B){a:Act}{w:World}{K:Act→World→Prop}{Q:Exit→Act→World→Prop}(hs:bC c A a w)(hK:∀ a w,bC c B a w→K a w):o.wpIn c.bo 9 c.P a w K Q:=by
 obtain ⟨D,E,hs⟩:=hs;obtain ⟨w',h⟩:=h a w D E hs;refine ⟨jf,?_⟩;rw[jy hg];rcases h with ⟨v,h1,h2⟩ | ⟨h1,h2⟩
 ·rw[h1];exact hK _ _ h2
 ·rw[h1];exact hK _ _ h2
theorem uj{dr:Bool}{K:ab→Prop}{f:FuncId}{avs:List I}{a1 a2:Option (List I)}{vs:List Value}{dst:Option Nat}{rest:List az}{a:Act}{w:World}{Kw:Act→World→Prop}{Q:Exit→Act→World→Prop}{g:bw}(hg:cB c.P o=some g)(h1:bL true A avs=a1)(h2:bL false A avs=a2)
  (hs:∀ D E,aL c A a w D E→dW (aR w D E) avs vs) (hsim:bC c A a w) (hwp:aZ c.P c.Y dr K (.call f avs a1 a2 dst rest A)) (hd:o.dst=dst) (hdn:∀ k,dst=some k→k<c.n)
  (hrun:dR c.P f=true→(execOp a.eval o).run c.P w=.ok (.enter f vs.toArray) w)
  (hK:∀ B a' w',aZ c.P c.Y dr K (av rest B)→bC c B a' w'→Kw a' w'):o.wpIn c.bo 9 c.P a w Kw Q:=by
 obtain ⟨D,E,hsw⟩:=hsim;have nu:∀ {R:Ending→World→Prop},dR c.P f=true→Calls c.P f vs.toArray w R→(∀ e w',R e w'→∃ v,e=.returned v∧Kw (a.put o.dst v) w')→o.wpIn c.bo 9 c.P a w Kw Q:=fun {R} hc hcl hR=>by
  refine ⟨jf,?_⟩;rw[jy hg,hrun hc,Oper.uponIn_enter];refine ⟨uy c,zA (hcl.mono fun e w' he =>?_)⟩;obtain ⟨v,rfl,hv⟩:=hR e w' he;exact hv
 cases hwp with
 |flat r hspec hflat hrest =>
  refine nu hspec.1 (hspec.ZG hsw hflat h1 (hs D E hsw)) ?_;rintro e w' ⟨v,D',he,hs',hv⟩;refine ⟨v,he,?_⟩;rw[hd];exact hK _ _ _ hrest ⟨D',E,hs'.aP hdn hv⟩
 |lead r hspec hrest =>
  refine nu hspec.1 (hspec.ZI hsw h2 (hs D E hsw)) ?_;rintro e w' ⟨v,D',he,hs',hv⟩;refine ⟨v,he,?_⟩;rw[hd];exact hK _ _ _ hrest ⟨D',E,hs'.aP hdn hv⟩
 |jI ns r hdr hspec hf ho hrest =>
  refine nu hspec.1 (hspec.ZH hsw ns ho hf (hs D E hsw)) ?_;rintro e w' ⟨v,D',E',he,hs',hv⟩;refine ⟨v,he,?_⟩;rw[hd];exact hK _ _ _ hrest ⟨D',E',hs'.aP hdn hv⟩
 |bB aI ρ os cargs post hdr hspec hgv ha hb hrest =>
  refine nu hspec.1 (hspec.2.use hsw aI (fun h=>h.mono) ⟨fun _ _=>hsw.oh,fun _=>hsw.oh⟩ hgv ha hb (hs D E hsw)) ?_;rintro e w' ⟨v,r,os',D2,E2,he,hp,hs',hv,_⟩;refine ⟨v,he,?_⟩;rw[hd];exact hK _ _ _ (hrest r os' hp) ⟨D2,E2,hs'.aP hdn hv⟩
theorem IH{dr:Bool}{K:ab→Prop}{v:Value}{avs:List I}{vs:List Value}{dst:Option Nat}{rest:List az}{a:Act}{w:World}{Kw:Act→World→Prop}{Q:Exit→Act→World→Prop}{g:bw}(hg:cB c.P o=some g)
  (hs:∀ D E,aL c A a w D E→dW (aR w D E) avs vs) (hsim:bC c A a w) (hwp:aZ c.P c.Y dr K (.kY v avs dst rest A)) (hd:o.dst=dst) (hdn:∀ k,dst=some k→k<c.n)
  (hrun:∀ l,v=.func (.yield l) #[] #[]→(execOp a.eval o).run c.P w=(Instr.yield l vs.toArray).run c.P w)
  (hK:∀ B a' w',aZ c.P c.Y dr K (av rest B)→bC c B a' w'→Kw a' w'):o.wpIn c.bo 9 c.P a w Kw Q:=by
 obtain ⟨D,E,hsw⟩:=hsim;cases hwp with
 |tC os cargs post hdr hY hgv ha hb hrest =>
  have hyr:=(hsw.eS.2 _ _ _ _ hY).use (ρ:=[]) hsw false (fun h=>h.mono) ⟨(fun h=>by cases h),fun _=>hsw.nm.1.since (fun n=>by simp only[ao,bg];split <;>simp)⟩ hgv ha hb (hs D E hsw);obtain ⟨l,rfl,fn,tmps,assign,body,h2,h3⟩:=hyr;refine ⟨jf,?_⟩;rw[jy hg,hrun l rfl,h2,Oper.uponIn_round];refine ⟨uy c,YV (h3.mono fun e w' he =>?_)⟩;obtain ⟨v,r,os',D2,E2,rfl,hp,hs',hv,_⟩:=he;rw[hd];exact hK _ _ _ (hrest r os' hp) ⟨D2,E2,hs'.aP hdn hv⟩
end
section
variable {c:cn} {A:ab} {o:Oper}
theorem nN{P:Program}{n:Nat}{bf:Array Oper}{g:az}(h:kX P n bf o=some g):cB P o=some g.op∧g.dst=o.dst∧(∀ k,o.dst=some k→k<n) ∧
  ((o.guard=none∧g.guard=none)∨∃ j b t,o.guard=some (j,b)∧(bf[j]?).bind (·.dst)=some t∧g.guard=some (t,b)):=by
 unfold kX at h;split at h
 ·cases h
 rename_i g' hg';split at h
 case isFalse=>cases h
 rename_i hd;have hdst:∀ k,o.dst=some k→k<n:=by
  intro k hk;rw[hk] at hd;simpa[z6] using hd
 split at h
 ·rename_i hgd;simp only[v6] at h;subst h;exact ⟨hg',rfl,hdst,.inl ⟨hgd,rfl⟩⟩
 ·rename_i j b hgd;split at h
  ·rename_i t ht;simp only[v6] at h;subst h;exact ⟨hg',rfl,hdst,.inr ⟨j,b,t,hgd,ht,rfl⟩⟩
  ·cases h
theorem A7{dr:Bool}{K:ab→Prop}{op:bw}{dst:Option Nat}{rest:List az}{a:Act}{w:World}{Kw:Act→World→Prop}{Q:Exit→Act→World→Prop}(hop:cB c.P o=some op)(hd:o.dst=dst)(hdn:∀ k,dst=some k→k<c.n)
  (hsim:bC c A a w) (hK:∀ B a' w',aZ c.P c.Y dr K (av rest B)→bC c B a' w'→Kw a' w') (h:aZ c.P c.Y dr K (cm (aV A op) fun v=>av rest (A.aP dst v))):o.wpIn c.bo 9 c.P a w Kw Q:=by
 cases hv:aV A op with
 |some v =>
  rw[hv] at h;exact ((CH hop hv).does (by rw[hd];exact hdn)).wp hop hsim (fun a' w' hs=>by rw[hd] at hs;exact hK _ a' w' h hs)
 |none=>rw[hv] at h;cases h
theorem UI{dr:Bool}{K:ab→Prop}{dst:Option Nat}{rest:List az}{a:Act}{w:World}{Kw:Act→World→Prop}{Q:Exit→Act→World→Prop}{z:I}(hop:cB c.P o=some (.alloc z))(hd:o.dst=dst)(hdn:∀ k,dst=some k→k<c.n)
  (hwp:aZ c.P c.Y dr K (aW A dst (.alloc z) rest (av rest))) (hsim:bC c A a w) (hK:∀ B a' w',aZ c.P c.Y dr K (av rest B)→bC c B a' w'→Kw a' w'):o.wpIn c.bo 9 c.P a w Kw Q:=by
 have hop0:=hop;simp only[aW] at hwp;split at hwp
 case h_2=>cases hwp
 rename_i d;split at hwp
 case h_2=>cases hwp
 rename_i hf;unfold cB at hop;split at hop <;>try (first | (simp at hop;done) | ((repeat' split at hop) <;>simp at hop;done))
 rename_i t ho;simp only[t7,bw.alloc.injEq] at hop;obtain ⟨z',hz,rfl⟩:=hop;exact (LX ho hz hd (hdn d rfl) hf).wp hop0 hsim (fun a' w' hs=>hK _ a' w' hwp hs)
theorem UL{dr:Bool}{K:ab→Prop}{dst:Option Nat}{rest:List az}{a:Act}{w:World}{Kw:Act→World→Prop}{Q:Exit→Act→World→Prop}{x:aF}(hop:cB c.P o=some (.box x))(hd:o.dst=dst)(hdn:∀ k,dst=some k→k<c.n)
  (hwp:aZ c.P c.Y dr K (aW A dst (.box x) rest (av rest))) (hsim:bC c A a w) (hK:∀ B a' w',aZ c.P c.Y dr K (av rest B)→bC c B a' w'→Kw a' w'):o.wpIn c.bo 9 c.P a w Kw Q:=by
 have hop0:=hop;simp only[aW] at hwp;split at hwp
 case h_2=>cases hwp
 rename_i d;split at hwp
 case h_2=>cases hwp
 rename_i hf;split at hwp
 case isFalse=>cases hwp
 rename_i hv;unfold cB at hop;split at hop <;>try (first | (simp at hop;done) | ((repeat' split at hop) <;>simp at hop;done))
 rename_i t y ho;simp only[t7,bw.box.injEq] at hop;obtain ⟨z',hz,rfl⟩:=hop;exact (L2 ho hz hv hd (hdn d rfl) hf).wp hop0 hsim (fun a' w' hs=>hK _ a' w' hwp hs)
theorem UZ{dr:Bool}{K:ab→Prop}{dst:Option Nat}{rest:List az}{a:Act}{w:World}{Kw:Act→World→Prop}{Q:Exit→Act→World→Prop}{s:Option Nat}{x v:aF}(hop:cB c.P o=some (.aT s x v))(hd:o.dst=dst)(hdn:∀ k,dst=some k→k<c.n)
  (hwp:aZ c.P c.Y dr K (aW A dst (.aT s x v) rest (av rest))) (hsim:bC c A a w) (hK:∀ B a' w',aZ c.P c.Y dr K (av rest B)→bC c B a' w'→Kw a' w'):o.wpIn c.bo 9 c.P a w Kw Q:=by
 have hop0:=hop;simp only[aW] at hwp;split at hwp
 case h_2=>cases hwp
 split at hwp
 case h_2=>cases hwp
 rename_i n p hp;split at hwp
 case h_2=>cases hwp
 rename_i b hb;split at hwp
 case h_2=>cases hwp
 rename_i old hat;split at hwp
 case isFalse=>cases hwp
 rename_i hok;unfold cB at hop;split at hop <;>try (first | (simp at hop;done) | ((repeat' split at hop) <;>simp at hop;done))
 rename_i t y z ho;split at hop
 case h_2=>cases hop
 rename_i s' x' v' h1 h2 h3;split at hop
 case isFalse=>cases hop
 rename_i hk;simp only[v6,bw.aT.injEq] at hop;obtain ⟨rfl,rfl,rfl⟩:=hop;exact (Ma ho h1 hk h2 h3 hp hb hat hok.1 hok.2.1 hok.2.2 hd).wp hop0 hsim (fun a' w' hs=>hK _ a' w' hwp hs)
theorem UM{dr:Bool}{K:ab→Prop}{dst:Option Nat}{rest:List az}{a:Act}{w:World}{Kw:Act→World→Prop}{Q:Exit→Act→World→Prop}{f:FuncId}{args:List aF}(hop:cB c.P o=some (.call f args))(hd:o.dst=dst)(hdn:∀ k,dst=some k→k<c.n)
  (hwp:aZ c.P c.Y dr K (aW A dst (.call f args) rest (av rest))) (hsim:bC c A a w) (hK:∀ B a' w',aZ c.P c.Y dr K (av rest B)→bC c B a' w'→Kw a' w'):o.wpIn c.bo 9 c.P a w Kw Q:=by
 have hop0:=hop;simp only[aW] at hwp;unfold cB at hop;split at hop <;>try (first | (simp at hop;done) | ((repeat' split at hop) <;>simp at hop;done))
 rename_i f' xs ts ho;split at hop
 case isFalse=>simp at hop
 simp only[t7,bw.call.injEq] at hop;obtain ⟨ys,hys,rfl,rfl⟩:=hop;refine uj (vs:=xs.toList.map a.eval) hop0 rfl rfl (fun D E hs=>j7 hs xs.toList ts.toList ys hys) hsim hwp hd hdn (fun hc =>?_) hK;have e:xs.map a.eval=(xs.toList.map a.eval).toArray:=by apply Array.ext';simp
 simp only[execOp,ho,resolve,Act.eval,Deferred.ofValue,Sem.run_bind,Sem.run_pure,Result.andThen_ok,invoke,Array.append_empty,Array.empty_append,ma hc];rw[←e]
theorem U0{dr:Bool}{K:ab→Prop}{dst:Option Nat}{rest:List az}{a:Act}{w:World}{Kw:Act→World→Prop}{Q:Exit→Act→World→Prop}{f:FuncId}{args:List aF}(hop:cB c.P o=some (.gE f args))(hd:o.dst=dst)(hdn:∀ k,dst=some k→k<c.n)
  (hwp:aZ c.P c.Y dr K (aW A dst (.gE f args) rest (av rest))) (hsim:bC c A a w) (hK:∀ B a' w',aZ c.P c.Y dr K (av rest B)→bC c B a' w'→Kw a' w'):o.wpIn c.bo 9 c.P a w Kw Q:=by
 have hop0:=hop;simp only[aW] at hwp;unfold cB at hop;split at hop <;>try (first | (simp at hop;done) | ((repeat' split at hop) <;>simp at hop;done))
 rename_i f' xs ts ho;split at hop
 case isTrue=>simp at hop
 simp only[t7,bw.gE.injEq] at hop;obtain ⟨ys,hys,rfl,rfl⟩:=hop;obtain ⟨D,E,hs⟩:=hsim;cases hwp with
 |ext r hdr hx hw =>
  obtain ⟨v,g1,g2⟩:=hx c a w D E (xs.toList.map a.eval) rfl hs (j7 hs xs.toList ts.toList ys hys);have e:xs.map a.eval=(xs.toList.map a.eval).toArray:=by apply Array.ext';simp
  have hrun:(execOp a.eval o).run c.P w=.ok (.value v) w:=by
   simp only[execOp,ho,resolve,Act.eval,Deferred.ofValue,Sem.run_bind,Sem.run_pure,Result.andThen_ok,invoke,Array.append_empty,Array.empty_append];rw[←e] at g1;exact g1
  refine ⟨jf,?_⟩;rw[jy hop0,hrun,Oper.uponIn_value];exact hK _ _ _ hw ⟨D,E,by rw[hd];exact hs.aP hdn g2⟩
theorem UR{dr:Bool}{K:ab→Prop}{dst:Option Nat}{rest:List az}{a:Act}{w:World}{Kw:Act→World→Prop}{Q:Exit→Act→World→Prop} (hop:cB c.P o=some (.kp))(hd:o.dst=dst)(hdn:∀ k,dst=some k→k<c.n)
  (hwp:aZ c.P c.Y dr K (aW A dst (.kp) rest (av rest))) (hsim:bC c A a w) (hK:∀ B a' w',aZ c.P c.Y dr K (av rest B)→bC c B a' w'→Kw a' w'):o.wpIn c.bo 9 c.P a w Kw Q:=by
 have hop0:=hop;simp only[aW] at hwp;split at hwp
 case h_2=>cases hwp
 rename_i d;split at hwp
 case h_2=>cases hwp
 rename_i hf;unfold cB at hop;split at hop <;>try (first | (simp at hop;done) | ((repeat' split at hop) <;>simp at hop;done))
 rename_i t ho;exact (L7 ho hd (hdn d rfl) hf).wp hop0 hsim (fun a' w' hs=>hK _ a' w' hwp hs)
theorem US{dr:Bool}{K:ab→Prop}{dst:Option Nat}{rest:List az}{a:Act}{w:World}{Kw:Act→World→Prop}{Q:Exit→Act→World→Prop}{e:TypeId}{bytes:Nat}{z:I}{n:aF}(hop:cB c.P o=some (.jt e bytes z n))(hd:o.dst=dst)(hdn:∀ k,dst=some k→k<c.n)
  (hwp:aZ c.P c.Y dr K (aW A dst (.jt e bytes z n) rest (av rest))) (hsim:bC c A a w) (hK:∀ B a' w',aZ c.P c.Y dr K (av rest B)→bC c B a' w'→Kw a' w'):o.wpIn c.bo 9 c.P a w Kw Q:=by
 have hop0:=hop;simp only[aW] at hwp;split at hwp
 case h_2=>cases hwp
 rename_i d;split at hwp
 case h_2=>cases hwp
 rename_i hf;split at hwp
 case h_2=>cases hwp
 rename_i k m hn;split at hwp
 case isFalse=>cases hwp
 rename_i hc;unfold cB at hop;split at hop <;>try (first | (simp at hop;done) | ((repeat' split at hop) <;>simp at hop;done))
 rename_i t l l' ho;split at hop
 case h_2=>cases hop
 rename_i e' n' hu hl;split at hop
 case h_2=>cases hop
 rename_i z' hz;split at hop
 case isFalse=>cases hop
 rename_i hc2;simp only[v6,bw.jt.injEq] at hop;obtain ⟨rfl,rfl,rfl,rfl⟩:=hop;obtain ⟨j,rfl⟩:=zy1 hc.1;simp only[Int.toNat_natCast] at hc hwp;exact (L8 ho (Y3 hc2.1) hu hl hn hz hc2.2.1 hc2.2.2 hc.2.1 hc.2.2 hd (hdn d rfl) hf).wp hop0 hsim (fun a' w' hs=>hK _ a' w' hwp hs)
theorem UT{dr:Bool}{K:ab→Prop}{dst:Option Nat}{rest:List az}{a:Act}{w:World}{Kw:Act→World→Prop}{Q:Exit→Act→World→Prop}{ty:cj}{m k v:aF}(hop:cB c.P o=some (.jR ty m k v))(hd:o.dst=dst)(hdn:∀ k,dst=some k→k<c.n)
  (hwp:aZ c.P c.Y dr K (aW A dst (.jR ty m k v) rest (av rest))) (hsim:bC c A a w) (hK:∀ B a' w',aZ c.P c.Y dr K (av rest B)→bC c B a' w'→Kw a' w'):o.wpIn c.bo 9 c.P a w Kw Q:=by
 have hop0:=hop;simp only[aW] at hwp;split at hwp
 case h_2=>cases hwp
 split at hwp
 case h_2=>cases hwp
 rename_i n hm;split at hwp
 case h_2=>cases hwp
 rename_i ks vs hn;split at hwp
 case h_2=>cases hwp
 rename_i ks' vs' hl;unfold cB at hop;split at hop <;>try (first | (simp at hop;done) | ((repeat' split at hop) <;>simp at hop;done))
 all_goals
  rename_i t mo ko vo ho;split at hop
  case h_2=>cases hop
  rename_i kt et m' k' hu h1 h2;split at hop
  case h_2=>cases hop
  rename_i ty' v' hk h3;simp only[v6,bw.jR.injEq] at hop;obtain ⟨rfl,rfl,rfl,rfl⟩:=hop
 ·exact (zZ (.inl ho) hu hk h1 h2 h3 hm hn hl hd).wp hop0 hsim (fun a' w' hs=>hK _ a' w' hwp hs)
 ·exact (zZ (.inr ho) hu hk h1 h2 h3 hm hn hl hd).wp hop0 hsim (fun a' w' hs=>hK _ a' w' hwp hs)
theorem UQ{dr:Bool}{K:ab→Prop}{dst:Option Nat}{rest:List az}{a:Act}{w:World}{Kw:Act→World→Prop}{Q:Exit→Act→World→Prop}{ty:cj}{m k:aF}(hop:cB c.P o=some (.lq ty m k))(hd:o.dst=dst)(hdn:∀ k,dst=some k→k<c.n)
  (hwp:aZ c.P c.Y dr K (aW A dst (.lq ty m k) rest (av rest))) (hsim:bC c A a w) (hK:∀ B a' w',aZ c.P c.Y dr K (av rest B)→bC c B a' w'→Kw a' w'):o.wpIn c.bo 9 c.P a w Kw Q:=by
 have hop0:=hop;simp only[aW] at hwp;split at hwp
 case h_2=>cases hwp
 split at hwp
 case h_2=>cases hwp
 rename_i n hm;split at hwp
 case h_2=>cases hwp
 rename_i ks vs hn;split at hwp
 case h_2=>cases hwp
 rename_i ks' vs' hl;unfold cB at hop;split at hop <;>try (first | (simp at hop;done) | ((repeat' split at hop) <;>simp at hop;done))
 rename_i args tys ho;split at hop
 case h_2=>cases hop
 rename_i mo ko t t' ha ht;split at hop
 case h_2=>cases hop
 rename_i kt et m' k' hu h1 h2;simp only[t7,bw.lq.injEq] at hop;obtain ⟨ty',hk,rfl,rfl,rfl⟩:=hop;have ha':args = #[mo,ko]:=by apply Array.ext';simpa using ha
 have ht':tys = #[t,t']:=by apply Array.ext';simpa using ht
 subst ha' ht';exact (L6 ho hu hk h1 h2 hm hn hl hd).wp hop0 hsim (fun a' w' hs=>hK _ a' w' hwp hs)
theorem UX{dr:Bool}{K:ab→Prop}{dst:Option Nat}{rest:List az}{a:Act}{w:World}{Kw:Act→World→Prop}{Q:Exit→Act→World→Prop}{x:aF}(hop:cB c.P o=some (.jZ x))(hd:o.dst=dst)(hdn:∀ k,dst=some k→k<c.n)
  (hwp:aZ c.P c.Y dr K (aW A dst (.jZ x) rest (av rest))) (hsim:bC c A a w) (hK:∀ B a' w',aZ c.P c.Y dr K (av rest B)→bC c B a' w'→Kw a' w'):o.wpIn c.bo 9 c.P a w Kw Q:=by
 have hop0:=hop;simp only[aW] at hwp;split at hwp
 case h_2=>cases hwp
 rename_i d;split at hwp
 case h_2=>cases hwp
 rename_i hf;split at hwp
 case h_2=>cases hwp
 rename_i ks vs hx;unfold cB at hop;split at hop <;>try (first | (simp at hop;done) | ((repeat' split at hop) <;>simp at hop;done))
 rename_i t y ho;split at hop
 case h_2=>cases hop
 rename_i kt et hu;simp only[t7,bw.jZ.injEq] at hop;obtain ⟨z,hz,rfl⟩:=hop;exact (L9 ho hu hz hx hd (hdn d rfl) hf).wp hop0 hsim (fun a' w' hs=>hK _ a' w' hwp hs)
theorem UW{dr:Bool}{K:ab→Prop}{dst:Option Nat}{rest:List az}{a:Act}{w:World}{Kw:Act→World→Prop}{Q:Exit→Act→World→Prop}{x:aF}(hop:cB c.P o=some (.jS x))(hd:o.dst=dst)(hdn:∀ k,dst=some k→k<c.n)
  (hwp:aZ c.P c.Y dr K (aW A dst (.jS x) rest (av rest))) (hsim:bC c A a w) (hK:∀ B a' w',aZ c.P c.Y dr K (av rest B)→bC c B a' w'→Kw a' w'):o.wpIn c.bo 9 c.P a w Kw Q:=by
 have hop0:=hop;simp only[aW] at hwp;split at hwp
 case h_2=>cases hwp
 rename_i n hx;split at hwp
 case h_2=>cases hwp
 rename_i ks vs left cur hn;unfold cB at hop;split at hop <;>try (first | (simp at hop;done) | ((repeat' split at hop) <;>simp at hop;done))
 rename_i y ho;simp only[t7,bw.jS.injEq] at hop;obtain ⟨z,hz,rfl⟩:=hop;obtain ⟨D,E,hs⟩:=hsim;obtain ⟨w',v,hrun,hor⟩:=WU ho hz hx hn (by rw[hd];exact hdn) hs;refine ⟨jf,?_⟩;rw[jy hop0,hrun,Oper.uponIn_value];rw[hd] at hor;split at hwp
 ·rename_i hl;rcases hor with ⟨_,hor⟩ | ⟨i,k,x,hi,_⟩
  ·exact hK _ _ _ hwp (by rw[hd];exact hor)
  ·rw[hl] at hi;cases hi
 ·rename_i hl;rcases hor with ⟨h,_⟩ | ⟨i,k,x,hi,hk,hx,hor⟩
  ·exact absurd h hl
  ·cases hwp with
   |any hdr hall =>
    have:=hall i hi;simp only[hk,hx] at this;exact hK _ _ _ this (by rw[hd];exact hor)
theorem UN{dr:Bool}{K:ab→Prop}{dst:Option Nat}{rest:List az}{a:Act}{w:World}{Kw:Act→World→Prop}{Q:Exit→Act→World→Prop}{x:aF}{args:List aF}(hop:cB c.P o=some (.fj x args))(hd:o.dst=dst)(hdn:∀ k,dst=some k→k<c.n)
  (hwp:aZ c.P c.Y dr K (aW A dst (.fj x args) rest (av rest))) (hsim:bC c A a w) (hK:∀ B a' w',aZ c.P c.Y dr K (av rest B)→bC c B a' w'→Kw a' w'):o.wpIn c.bo 9 c.P a w Kw Q:=by
 have hop0:=hop;simp only[aW] at hwp;unfold cB at hop;split at hop <;>try (first | (simp at hop;done) | ((repeat' split at hop) <;>simp at hop;done))
 rename_i y xs ts _ ho;split at hop
 case h_2=>cases hop
 rename_i y' ys h1 h2;simp only[v6,bw.fj.injEq] at hop;obtain ⟨rfl,rfl⟩:=hop;obtain ⟨D,E,hs⟩:=hsim;have hv:=br hs h1;split at hwp
 ·rename_i f caps hx;rw[hx] at hv;obtain ⟨cs,q1,q2⟩:=hv;simp only[ae] at q2;obtain ⟨vs,q3,q4⟩:=q2;have hval:a.eval y=iT f vs:=by simpa[ba,I.isAgg,q3] using q1.symm
  have caps_ok:∀ D' E',aL c A a w D' E'→dW (aR w D' E') caps vs:=fun D' E' hs'=>by
   have hv':=br hs' h1;rw[hx] at hv';obtain ⟨cs',q1',q2'⟩:=hv';simp only[ae] at q2';obtain ⟨vs',q3',q4'⟩:=q2';have hval':a.eval y=iT f vs':=by simpa[ba,I.isAgg,q3'] using q1'.symm
   rw[hval] at hval';have:=MV hval';subst this;exact oH q4'
  have e:xs.map a.eval=(xs.toList.map a.eval).toArray:=by apply Array.ext';simp
  rcases Nat.lt_or_ge f 1000000 with hf | hf
  ·rw[uO hf,uN hf] at hwp;rw[lQ hf] at hval;refine uj (vs:=xs.toList.map a.eval++vs) hop0 rfl rfl (fun D' E' hs'=>(j7 hs' xs.toList ts.toList ys h2).append (caps_ok D' E' hs')) ⟨D,E,hs⟩ hwp hd hdn (fun hc =>?_) hK;simp only[execOp,ho,resolve,hval,Deferred.ofValue,Sem.run_bind,Sem.run_pure,Result.andThen_ok,invoke,Array.empty_append,ma hc];rw[e];simp
  ·obtain ⟨g,rfl⟩:∃ g:Nat,f=g+1000000:=⟨Nat.sub f 1000000,(Nat.sub_add_cancel hf).symm⟩
   rw[Ao,An] at hwp;rw[pC] at hval;refine uj (vs:=vs++xs.toList.map a.eval) hop0 rfl rfl (fun D' E' hs'=>(caps_ok D' E' hs').append (j7 hs' xs.toList ts.toList ys h2)) ⟨D,E,hs⟩ hwp hd hdn (fun hc =>?_) hK;simp only[execOp,ho,resolve,hval,Deferred.ofValue,Sem.run_bind,Sem.run_pure,Result.andThen_ok,invoke,Array.append_empty,ma hc];rw[e];simp
 ·rename_i u hx;rw[hx] at hv;obtain ⟨cs,q1,q2⟩:=hv;simp only[ae] at q2;have hval:a.eval y=u:=by simpa[ba,I.isAgg,q2.1] using q1.symm
  refine IH (vs:=xs.toList.map a.eval) hop0 (fun D' E' hs'=>j7 hs' xs.toList ts.toList ys h2) ⟨D,E,hs⟩ hwp hd hdn (fun l hl =>?_) hK;subst hl;have e:xs.map a.eval=(xs.toList.map a.eval).toArray:=by apply Array.ext';simp
  simp only[execOp,ho,resolve,hval,Deferred.ofValue,Sem.run_bind,Sem.run_pure,Result.andThen_ok,invoke,Array.empty_append];rw[e]
 ·cases hwp
theorem UU{dr:Bool}{K:ab→Prop}{dst:Option Nat}{rest:List az}{a:Act}{w:World}{Kw:Act→World→Prop}{Q:Exit→Act→World→Prop}{neg:Bool}{x:aF}(hop:cB c.P o=some (.nilS neg x))(hd:o.dst=dst)(hdn:∀ k,dst=some k→k<c.n)
  (hwp:aZ c.P c.Y dr K (aW A dst (.nilS neg x) rest (av rest))) (hsim:bC c A a w) (hK:∀ B a' w',aZ c.P c.Y dr K (av rest B)→bC c B a' w'→Kw a' w'):o.wpIn c.bo 9 c.P a w Kw Q:=by
 have hop0:=hop;simp only[aW] at hwp;split at hwp
 case isFalse=>exact A7 hop hd hdn hsim hK hwp
 rename_i hu;cases hwp with
 |any hdr hall =>
 unfold cB at hop;split at hop <;>try (first | (simp at hop;done) | ((repeat' split at hop) <;>simp at hop;done))
 rename_i bop t y z yt ho;split at hop
 ·simp at hop
 ·simp at hop
 ·rename_i e y' z' hut h1 h2;split at hop
  ·rename_i s;split at hop
   ·rename_i hopp;simp only[v6,bw.nilS.injEq] at hop;obtain ⟨rfl,rfl⟩:=hop;have ho':o.op=.binOp (if (bop==.neq)=true then .neq else .eql) t y z yt:=by
     rcases hopp with rfl | rfl <;>simpa using ho
    obtain ⟨D,E,hs⟩:=hsim;have hund:∃ sz,af A y'=.slice sz []∨af A y'=.c0 sz:=by
     generalize af A y'=q at hu;cases q <;>simp only[ja,Z4,List.isEmpty_iff] at hu
     ·rename_i sz;exact ⟨sz,.inr rfl⟩
     ·rename_i sz es;subst hu;exact ⟨sz,.inl rfl⟩
    obtain ⟨b,hrun⟩:=WV ho' hut h1 h2 hund hs;refine ⟨jf,?_⟩;rw[jy hop0,hrun,Oper.uponIn_value];have hb:=hall (if b then 0 else 1) (by cases b <;>simp);refine hK _ _ _ hb ⟨D,E,?_⟩;rw[hd];have e:((if b=true then (0:Nat) else 1)==0)=b:=by cases b <;>rfl
    rw[e];exact hs.aP hdn (km b)
   ·cases hop
  ·cases hop
 ·split at hop <;>simp at hop
 ·(repeat' split at hop) <;>simp at hop
 ·split at hop <;>simp at hop
 ·cases hop
theorem UJ{dr:Bool}{K:ab→Prop}{dst:Option Nat}{rest:List az}{a:Act}{w:World}{Kw:Act→World→Prop}{Q:Exit→Act→World→Prop}{e:TypeId}{esz bytes:Nat}{z:I}{s x:aF}(hop:cB c.P o=some (.dv e esz bytes z s x))(hd:o.dst=dst)(hdn:∀ k,dst=some k→k<c.n)
  (hwp:aZ c.P c.Y dr K (aW A dst (.dv e esz bytes z s x) rest (av rest))) (hsim:bC c A a w) (hK:∀ B a' w',aZ c.P c.Y dr K (av rest B)→bC c B a' w'→Kw a' w'):o.wpIn c.bo 9 c.P a w Kw Q:=by
 have hop0:=hop;simp only[aW] at hwp;unfold cB at hop;split at hop <;>try (first | (simp at hop;done) | ((repeat' split at hop) <;>simp at hop;done))
 rename_i args tys ho;split at hop
 case h_2=>cases hop
 rename_i y q t t' ha ht;split at hop
 case h_2=>cases hop
 rename_i e' s' x' k1 k2 k3;split at hop
 case isFalse=>split at hop <;>simp at hop
 rename_i hk;simp only[t7,bw.dv.injEq] at hop;obtain ⟨zz,hz1,rfl,rfl,rfl,rfl,rfl,rfl⟩:=hop;obtain ⟨rfl,hk2,hk3⟩:=hk;have ha':args = #[y,q]:=by apply Array.ext';simpa using ha
 have ht':tys = #[t,t]:=by apply Array.ext';simpa using ht
 subst ha' ht';rw[hz1] at hk3;simp only[Z8,v6] at hk3;have hinfo:(c.P.info? e').isSome=true:=by
  obtain ⟨ti,_,hti,_⟩:=kN hz1;rw[hti];rfl
 have grow:∀ es ys,cT A (c.P.cellsOf e') (af A s')=some es→cT A (c.P.cellsOf e') (af A x')=some ys→ys≠[]→(∀ a w D E,aL c A a w D E→∀ ad l cp,a.eval y=.slice ad l cp→cp<l+ys.length) →
   aZ c.P c.Y dr K (eZ A dst (c.P.cellsOf e') (c.P.bytesOf e') zz es ys (av rest))→o.wpIn c.bo 9 c.P a w Kw Q:=fun es ys hse hsx hne hfull h=>by
  simp only[eZ] at h;split at h
  case h_2=>cases h
  rename_i d;split at h
  case h_2=>cases h
  rename_i hf;split at h
  case isFalse=>cases h
  rename_i hb;cases h with
  |any hdr hall =>
   obtain ⟨D,E,hs⟩:=hsim;obtain ⟨v,w',m,g1,g2,g3⟩:=GH ho k1 k2 k3 hz1 hk3 hse hsx hb.1 hd (hdn d rfl) hf hne hs (hfull a w D E hs) hb.2;refine ⟨jf,?_⟩;rw[jy hop0,g1,Oper.uponIn_value,hd];rw[hd] at g3;exact hK _ _ _ (hall m g2) g3
 split at hwp
 ·rename_i n l hs';split at hwp
  case h_2=>cases hwp
  rename_i sz ys hx';split at hwp
  case h_3=>cases hwp
  case h_2 =>
   rename_i T xs hn;split at hwp
   case isFalse=>cases hwp
   rename_i hok;obtain ⟨h1,h2,h3,h4,h5,h6,h7,h8⟩:=hok;subst h3 h4;have hl5:ys.length=(pJ ys).length:=(congrArg List.length h5).trans (by simp);rw[hl5] at h7 h8 hwp;rw[h5] at hx';have hd':=LZ (o:=o) ho k1 k2 k3 hz1 h2 hs' hn h1 hx' (fun e=>h6 (by rw[h5,e];rfl)) h7 h8 (by rw[hd];exact hdn);exact hd'.wp hop0 hsim (fun a' w' hs=>by rw[hd] at hs;exact hK _ a' w' hwp hs)
  rename_i T sz' es hn;split at hwp
  case isFalse=>cases hwp
  rename_i hok;obtain ⟨h1,h2,h3,h4,h5,h6,h7⟩:=hok;subst h2 h3 h4;have hd':=LY (o:=o) ho k1 k2 k3 hz1 hk3 hk2 hs' hn h1 hx' rfl h5 h6 h7 (by rw[hd];exact hdn);exact hd'.wp hop0 hsim (fun a' w' hs=>by rw[hd] at hs;exact hK _ a' w' hwp hs)
 ·simp only[dZ] at hwp;split at hwp
  case h_2=>cases hwp
  rename_i es ys hse hsx;split at hwp
  ·rename_i hne;subst hne;exact ((L1 ho k1 hinfo k2 k3 hse hsx).does (by rw[hd];exact hdn)).wp hop0 hsim (fun a' w' hs=>by rw[hd] at hs;exact hK _ a' w' hwp hs)
  ·rename_i hne;have hpos:0<ys.length:=List.length_pos_iff.2 hne;split at hwp
   ·rename_i z0 hsv;refine grow es ys hse hsx hne (fun a w D E hs ad l cp hv =>?_) hwp;have h0:=br hs k2;rw[hsv] at h0;obtain ⟨cs,q1,q2⟩:=h0;simp only[ae] at q2;have:a.eval y=.slice none 0 0:=by simpa[ba,I.isAgg,q2] using q1.symm
    rw[this] at hv;simp only[Value.slice.injEq] at hv;omega
   ·rename_i z0 hsv;refine grow es ys hse hsx hne (fun a w D E hs ad l cp hv =>?_) hwp;have h0:=br hs k2;rw[hsv] at h0;obtain ⟨cs,q1,q2⟩:=h0;simp only[ae] at q2;obtain ⟨ad',q2⟩:=q2;have:a.eval y=.slice ad' 0 0:=by simpa[ba,I.isAgg,q2] using q1.symm
    rw[this] at hv;simp only[Value.slice.injEq] at hv;omega
   ·rename_i n p sz lo l hsv;split at hwp
    case h_2=>cases hwp
    rename_i b hn;split at hwp
    case h_2=>cases hwp
    rename_i fs hat;split at hwp
    ·rename_i hroom;split at hwp
     case isFalse=>cases hwp
     rename_i hok;obtain ⟨rfl,hsh⟩:=hok;exact (L0 ho k1 hinfo k2 k3 hsv hn hat hsx hroom hsh (by rw[hd];exact hdn)).wp hop0 hsim (fun a' w' hs=>by rw[hd] at hs;exact hK _ a' w' hwp hs)
    ·rename_i hroom;refine grow es ys hse hsx hne (fun a w D E hs ad l' cp hv =>?_) hwp;have h0:=br hs k2;rw[hsv] at h0;obtain ⟨_,bb,cs,T,off,c1,c2,c3,_,_,_,_,_,_,_,_,_,_,r1,iF,sQ⟩:=hs.view (fs:=fs) h0 (by simp only[bZ,hn,hat]);rw[sQ] at hv;simp only[Value.slice.injEq] at hv;omega
   ·cases hwp
theorem UK{dr:Bool}{K:ab→Prop}{dst:Option Nat}{rest:List az}{a:Act}{w:World}{Kw:Act→World→Prop}{Q:Exit→Act→World→Prop}{e:TypeId}{esz bytes:Nat}{z:I}{s n:aF}(hop:cB c.P o=some (.jA e esz bytes z s n))(hd:o.dst=dst)(hdn:∀ k,dst=some k→k<c.n)
  (hwp:aZ c.P c.Y dr K (aW A dst (.jA e esz bytes z s n) rest (av rest))) (hsim:bC c A a w) (hK:∀ B a' w',aZ c.P c.Y dr K (av rest B)→bC c B a' w'→Kw a' w'):o.wpIn c.bo 9 c.P a w Kw Q:=by
 have hop0:=hop;simp only[aW] at hwp;unfold cB at hop;split at hop <;>try (first | (simp at hop;done) | ((repeat' split at hop) <;>simp at hop;done))
 rename_i args tys ho;split at hop
 case h_2=>cases hop
 rename_i y q t t' ha ht;split at hop
 case h_2=>cases hop
 rename_i e' s' x' k1 k2 k3;split at hop
 case isTrue=>simp at hop
 split at hop
 case isFalse=>cases hop
 rename_i hk;simp only[t7,bw.jA.injEq] at hop;obtain ⟨zz,hz1,rfl,rfl,rfl,rfl,rfl,rfl⟩:=hop;obtain ⟨hint,hk2,hk3⟩:=hk;have ha':args = #[y,q]:=by apply Array.ext';simpa using ha
 have ht':tys = #[t,t']:=by apply Array.ext';simpa using ht
 subst ha' ht';rw[hz1] at hk3;simp only[Z8,v6] at hk3;obtain ⟨kt,hkt⟩:∃ kt,c.P.underlying t'=some (.int kt):=by
  cases hu:c.P.underlying t' with
  |none=>rw[hu] at hint;cases hint
  |some dsc=>cases dsc <;>rw[hu] at hint <;>first | exact ⟨_,rfl⟩ | cases hint
 split at hwp
 case h_2=>cases hwp
 rename_i kx bn hx';simp only[pc] at hwp;split at hwp
 case h_2=>cases hwp
 rename_i es hse;split at hwp
 case h_2=>cases hwp
 rename_i nn p sz lo l hsv;split at hwp
 case h_2=>cases hwp
 rename_i bb hn;split at hwp
 case h_2=>cases hwp
 rename_i fs hat;split at hwp
 case isFalse=>cases hwp
 rename_i hroom;simp only[eZ] at hwp;split at hwp
 case h_2=>cases hwp
 rename_i d;split at hwp
 case h_2=>cases hwp
 rename_i hf;split at hwp
 case isFalse=>cases hwp
 rename_i hb;rw[List.length_replicate] at hb;cases hwp with
 |any hdr hall =>
  obtain ⟨D,E,hs⟩:=hsim;obtain ⟨v,w',m,g1,g2,g3⟩:=GJ ho k1 k2 k3 hkt hx' rfl hroom.1 hk2 hz1 hk3 hse hb.1 hd (hdn d rfl) hf hs (fun ad l' cp hv=>by
   have h0:=br hs k2;rw[hsv] at h0;have hsv':=hse;obtain ⟨_,b1,cs,T,off,c1,c2,c3,_,_,_,_,_,_,_,_,_,_,r1,iF,sQ⟩:=hs.view (fs:=fs) h0 (by simp only[bZ,hn,hat]);rw[sQ] at hv;simp only[Value.slice.injEq] at hv;have hel:es.length=l:=by
    rw[hsv] at hse;simp only[cT,bZ,hn,hat] at hse;split at hse
    ·simp only[v6] at hse;rw[←hse,Z9,List.length_drop];omega
    ·cases hse
   omega) hb.2
  refine ⟨jf,?_⟩;rw[jy hop0,g1,Oper.uponIn_value,hd];rw[hd] at g3;have:=hall m (by rw[List.length_replicate];exact g2);rw[List.length_replicate] at this;exact hK _ _ _ this g3
theorem UO{dr:Bool}{K:ab→Prop}{dst:Option Nat}{rest:List az}{a:Act}{w:World}{Kw:Act→World→Prop}{Q:Exit→Act→World→Prop}{esz:Nat}{z:I}{x:aF}(hop:cB c.P o=some (.ji esz z x))(hd:o.dst=dst)(hdn:∀ k,dst=some k→k<c.n)
  (hwp:aZ c.P c.Y dr K (aW A dst (.ji esz z x) rest (av rest))) (hsim:bC c A a w) (hK:∀ B a' w',aZ c.P c.Y dr K (av rest B)→bC c B a' w'→Kw a' w'):o.wpIn c.bo 9 c.P a w Kw Q:=by
 have hop0:=hop;simp only[aW] at hwp;split at hwp
 case h_2=>cases hwp
 unfold cB at hop;split at hop <;>try (first | (simp at hop;done) | ((repeat' split at hop) <;>simp at hop;done))
 rename_i args tys ho;split at hop
 case h_2=>cases hop
 rename_i y t ha ht;split at hop
 case h_2=>cases hop
 rename_i e' x' k1 k2;simp only[t7,bw.ji.injEq] at hop;obtain ⟨zz,hz1,rfl,rfl,rfl⟩:=hop;have ha':args = #[y]:=by apply Array.ext';simpa using ha
 have ht':tys = #[t]:=by apply Array.ext';simpa using ht
 subst ha' ht';have nothing:aZ c.P c.Y dr K (av rest A)→(∀ a w D E,aL c A a w D E→∃ ad cp,a.eval y=.slice ad 0 cp)→o.wpIn c.bo 9 c.P a w Kw Q:=fun h hv=>by
  obtain ⟨D,E,hs⟩:=hsim;obtain ⟨ad,cp,hv⟩:=hv a w D E hs;refine ⟨jf,?_⟩;have hrun:(execOp a.eval o).run c.P w=.ok (.value (.tuple #[])) w:=by
   cases ad <;>simp[execOp,ho,resolve,invoke,builtin,Builtin.clear_,run_underlying k1,hv]
  rw[jy hop0,hrun,Oper.uponIn_value,hd];exact hK _ _ _ h ⟨D,E,hs⟩
 unfold nO at hwp;split at hwp
 ·rename_i n p sz lo l hv;split at hwp
  case h_2=>cases hwp
  rename_i b hn;split at hwp
  case h_2=>cases hwp
  rename_i fs hat;split at hwp
  case isFalse=>cases hwp
  rename_i hok;obtain ⟨rfl,hsh⟩:=hok;exact (L3 ho k1 k2 hz1 hv hn hat hsh hd).wp hop0 hsim (fun a' w' hs=>hK _ a' w' hwp hs)
 ·rename_i z0 hv;refine nothing hwp fun a w D E hs =>?_;have h0:=br hs k2;rw[hv] at h0;obtain ⟨cs,q1,q2⟩:=h0;simp only[ae] at q2;exact ⟨none,0,by simpa[ba,I.isAgg,q2] using q1.symm⟩
 ·rename_i z0 hv;refine nothing hwp fun a w D E hs =>?_;have h0:=br hs k2;rw[hv] at h0;obtain ⟨cs,q1,q2⟩:=h0;simp only[ae] at q2;obtain ⟨ad,q2⟩:=q2;exact ⟨ad,0,by simpa[ba,I.isAgg,q2] using q1.symm⟩
 ·cases hwp
theorem UP{dr:Bool}{K:ab→Prop}{dst:Option Nat}{rest:List az}{a:Act}{w:World}{Kw:Act→World→Prop}{Q:Exit→Act→World→Prop}{esz:Nat}{x y:aF}(hop:cB c.P o=some (.fW esz x y))(hd:o.dst=dst)(hdn:∀ k,dst=some k→k<c.n)
  (hwp:aZ c.P c.Y dr K (aW A dst (.fW esz x y) rest (av rest))) (hsim:bC c A a w) (hK:∀ B a' w',aZ c.P c.Y dr K (av rest B)→bC c B a' w'→Kw a' w'):o.wpIn c.bo 9 c.P a w Kw Q:=by
 have hop0:=hop;simp only[aW] at hwp;unfold cB at hop;split at hop <;>try (first | (simp at hop;done) | ((repeat' split at hop) <;>simp at hop;done))
 rename_i args tys ho;split at hop
 case h_2=>cases hop
 rename_i u v t t' ha ht;split at hop
 case h_2=>cases hop
 rename_i e' x' y' k1 k2 k3;split at hop
 case isFalse=>cases hop
 rename_i hk;simp only[v6,bw.fW.injEq] at hop;obtain ⟨rfl,rfl,rfl⟩:=hop;obtain ⟨_,hinfo⟩:=hk;have ha':args = #[u,v]:=by apply Array.ext';simpa using ha
 have ht':tys = #[t,t']:=by apply Array.ext';simpa using ht
 subst ha' ht';unfold kb at hwp;split at hwp
 ·rename_i n p sz lo l ys hv hsx;split at hwp
  case h_2=>cases hwp
  rename_i b hn;split at hwp
  case h_2=>cases hwp
  rename_i fs hat;split at hwp
  case isFalse=>cases hwp
  rename_i hok;obtain ⟨rfl,hsh⟩:=hok;exact (L4 ho k1 hinfo k2 k3 hv hn hat hsx rfl hsh (by rw[hd];exact hdn)).wp hop0 hsim (fun a' w' hs=>by rw[hd] at hs;exact hK _ a' w' hwp hs)
 ·rename_i z0 ys hv hsx;exact (L5 ho k1 hinfo k2 k3 hv hsx (by rw[hd];exact hdn)).wp hop0 hsim (fun a' w' hs=>by rw[hd] at hs;exact hK _ a' w' hwp hs)
 ·cases hwp
theorem UY{dr:Bool}{K:ab→Prop}{dst:Option Nat}{rest:List az}{a:Act}{w:World}{Kw:Act→World→Prop}{Q:Exit→Act→World→Prop}{x:aF}(hop:cB c.P o=some (.eN x))(hd:o.dst=dst)(hdn:∀ k,dst=some k→k<c.n)
  (hwp:aZ c.P c.Y dr K (aW A dst (.eN x) rest (av rest))) (hsim:bC c A a w) (hK:∀ B a' w',aZ c.P c.Y dr K (av rest B)→bC c B a' w'→Kw a' w'):o.wpIn c.bo 9 c.P a w Kw Q:=by
 have hop0:=hop;simp only[aW] at hwp;unfold cB at hop;split at hop <;>try (first | (simp at hop;done) | ((repeat' split at hop) <;>simp at hop;done))
 rename_i t t' y ho;split at hop
 case h_1=>simp at hop
 case h_2=>(repeat' split at hop) <;>simp at hop
 case h_4=>cases hop
 rename_i e y' k1 k2 k3;split at hop
 case h_2=>cases hop
 rename_i k4;simp only[v6,bw.eN.injEq] at hop;subst hop;cases hse:lB (af A y') with
 |none=>rw[hse] at hwp;simp only[ig] at hwp;cases hwp
 |some ys =>
  rw[hse] at hwp;simp only[ig] at hwp;split at hwp
  case h_2=>cases hwp
  rename_i d;split at hwp
  case h_2=>cases hwp
  rename_i hf;cases hwp with
  |any hdr hall =>
   obtain ⟨D,E,hs⟩:=hsim;obtain ⟨v,w',m,g1,g2,g3⟩:=Y1 ho k1 k2 k4 k3 hse hd (hdn d rfl) hf hs;refine ⟨jf,?_⟩;rw[jy hop0,g1,Oper.uponIn_value,hd];rw[hd] at g3;exact hK _ _ _ (hall m g2) g3
theorem rM{dr:Bool}{K:ab→Prop}{op:bw}{dst:Option Nat}{rest:List az}{a:Act}{w:World}{Kw:Act→World→Prop}{Q:Exit→Act→World→Prop}(hop:cB c.P o=some op)(hd:o.dst=dst)(hdn:∀ k,dst=some k→k<c.n)
  (hwp:aZ c.P c.Y dr K (aW A dst op rest (av rest))) (hsim:bC c A a w) (hK:∀ B a' w',aZ c.P c.Y dr K (av rest B)→bC c B a' w'→Kw a' w'):o.wpIn c.bo 9 c.P a w Kw Q:=by
 cases op with
 |alloc z=>exact UI hop hd hdn hwp hsim hK
 |box x=>exact UL hop hd hdn hwp hsim hK
 |aT s x v=>exact UZ hop hd hdn hwp hsim hK
 |call f args=>exact UM hop hd hdn hwp hsim hK
 |gE f args=>exact U0 hop hd hdn hwp hsim hK
 |kp=>exact UR hop hd hdn hwp hsim hK
 |jt e bytes z n=>exact US hop hd hdn hwp hsim hK
 |jR ty m k v=>exact UT hop hd hdn hwp hsim hK
 |lq ty m k=>exact UQ hop hd hdn hwp hsim hK
 |jZ x=>exact UX hop hd hdn hwp hsim hK
 |jS x=>exact UW hop hd hdn hwp hsim hK
 |fj x args=>exact UN hop hd hdn hwp hsim hK
 |nilS neg x=>exact UU hop hd hdn hwp hsim hK
 |dv e esz bytes z s x=>exact UJ hop hd hdn hwp hsim hK
 |jA e esz bytes z s n=>exact UK hop hd hdn hwp hsim hK
 |ji esz z x=>exact UO hop hd hdn hwp hsim hK
 |fW esz x y=>exact UP hop hd hdn hwp hsim hK
 |eN x=>exact UY hop hd hdn hwp hsim hK
 |_=>exact A7 hop hd hdn hsim hK (by simpa only[aW] using hwp)
theorem rR{j t:Nat}{bf:Array Oper}{a:Act}{w:World}{b b':Bool}(hs:bC c A a w)(hg:o.guard=some (j,b))(ht:(bf[j]?).bind (·.dst)=some t)(hv:A.t t=.bool b'):Region.wanted o (yielded bf a.tmps)=(b'==b):=by
 obtain ⟨D,E,hs⟩:=hs;have h:=hs.dF t;rw[hv] at h;have h:=kF h;have hy:yielded bf a.tmps j=some b':=by
  unfold yielded;rw[ht];simp only[Option.bind_some];simp only[Array.getD_eq_getD_getElem?] at h;cases hh:a.tmps[t]? with
  |none=>simp[hh,undef] at h
  |some v=>simp only[hh,Option.getD_some] at h;subst h;rfl
 unfold Region.wanted;rw[hg];simp only[hy];cases b <;>cases b' <;>rfl
theorem rS{j t:Nat}{bf:Array Oper}{a:Act}{w:World}{b:Bool}(hs:bC c A a w)(hg:o.guard=some (j,b))(ht:(bf[j]?).bind (·.dst)=some t)(hv:A.t t=.undef):Region.wanted o (yielded bf a.tmps)=false:=by
 obtain ⟨D,E,hs⟩:=hs;have h:=hs.dF t;rw[hv] at h;simp only[aR] at h;have hy:yielded bf a.tmps j=none:=by
  unfold yielded;rw[ht];simp only[Option.bind_some];simp only[Array.getD_eq_getD_getElem?] at h;cases hh:a.tmps[t]? with
  |none=>rfl
  |some v=>simp only[hh,Option.getD_some] at h;subst h;rfl
 unfold Region.wanted;rw[hg];simp only[hy];rfl
theorem bC.l9{a:Act}{w:World}(h:bC c A a w){d:Option Nat}(hd:∀ k,d=some k→k<c.n):bC c (A.aP d .undef) (a.put d undef) w:=by
 obtain ⟨D,E,h⟩:=h;exact ⟨D,E,h.aP hd (by simp[aR])⟩
theorem rQ{dr:Bool}{K:ab→Prop}{bf:Array Oper}{Q:Exit→Act→World→Prop}(hQ:∀ B a w,K B→bC c B a w→Q .normal a w):∀ (l:List Oper) (gs:List az) (A:ab) (a:Act) (w:World),fA c.P c.n bf l=some gs→aZ c.P c.Y dr K (av gs A) →
  bC c A a w→wpListIn c.bo 9 c.P bf Q l a w
 | [],gs,A,a,w,hc,hwp,hs=>by
  simp only[fA,v6] at hc;subst hc;simp only[av] at hwp;cases hwp with
  |done hk=>exact hQ A a w hk hs
 |o::l,gs,A,a,w,hc,hwp,hs=>by
  simp only[fA] at hc;split at hc
  case h_2=>cases hc
  rename_i g gs' hg hgs;simp only[v6] at hc;subst hc;obtain ⟨h1,h2,h3,h4⟩:=nN hg;have step:aZ c.P c.Y dr K (aW A g.dst g.op gs' (av gs'))→o.wpIn c.bo 9 c.P a w (wpListIn c.bo 9 c.P bf Q l) Q:=fun h =>
   rM h1 h2.symm (by rw[h2];exact h3) h hs (fun B a' w' hw hs'=>rQ hQ l gs' B a' w' hgs hw hs')
  simp only[wpListIn];simp only[av] at hwp;rcases h4 with ⟨h5,h6⟩ | ⟨j,b,t,h5,h6,h7⟩
  ·rw[h6] at hwp;have hw:Region.wanted o (yielded bf a.tmps)=true:=by simp[Region.wanted,h5]
   rw[hw,if_pos rfl];exact step hwp
  ·rw[h7] at hwp;simp only at hwp;split at hwp
   ·rename_i b' hb';rw[rR hs h5 h6 hb'];split at hwp
    ·rename_i hbb;subst hbb;simp only[BEq.rfl,if_true];exact step hwp
    ·rename_i hbb;have:(b'==b)=false:=by simpa using hbb
     rw[this];simp only[Z4,if_false];exact ⟨fun f _=>lh c f,rQ hQ l gs' _ _ w hgs hwp (by rw[h2];exact hs.l9 h3)⟩
   ·rename_i hb';rw[rS hs h5 h6 hb'];simp only[Z4,if_false];exact ⟨fun f _=>lh c f,rQ hQ l gs' _ _ w hgs hwp (by rw[h2];exact hs.l9 h3)⟩
   ·cases hwp
end
def aF.sl:aF→List Nat
 | .t n=>[n]
 | .c _=>[]
def sB:Option aF→List Nat
 |some x=>x.sl
 |none=>[]
def iK(l:List aF):List Nat:=l.flatMap aF.sl
def bw.cv:bw→List Nat
 | .mv x=>x.sl
 | .pick c a b=>c.sl++(a.sl++b.sl)
 | .bin _ x y=>x.sl++y.sl
 | .eqv _ _ x y=>x.sl++y.sl
 | .nilS _ x=>x.sl
 | .conv _ x=>x.sl
 | .un _ x=>x.sl
 | .ld _ x=>x.sl
 | .fa _ _ x=>x.sl
 | .fl _ _ _ x=>x.sl
 | .ia _ _ x i=>x.sl++i.sl
 | .is _ x i=>x.sl++i.sl
 | .ix _ _ _ x i=>x.sl++i.sl
 | .len x=>x.sl
 | .lenT x=>x.sl
 | .va _ _ x=>x.sl
 | .sl _ x lo hi mx=>x.sl++(sB lo++(sB hi++sB mx))
 | .bld _ ps=>iK (ps.map (·.2))
 | .bs _ _ ps=>iK ps
 | .ext x _=>x.sl
 | .mk _ caps=>iK caps
 | .alloc _=>[]
 | .box x=>x.sl
 | .aT _ x v=>x.sl++v.sl
 | .dv _ _ _ _ s x=>s.sl++x.sl
 | .jA _ _ _ _ s x=>s.sl++x.sl
 | .cap x=>x.sl
 | .bs0 _=>[]
 | .ji _ _ x=>x.sl
 | .fW _ x y=>x.sl++y.sl
 | .call _ args=>iK args
 | .fj x args=>x.sl++iK args
 | .gE _ args=>iK args
 | .nilC x=>x.sl
 | .ptrE _ x y=>x.sl++y.sl
 | .max2 x y=>x.sl++y.sl
 | .prim _ xs=>iK xs
 | .b2s x=>x.sl
 | .eN x=>x.sl
 | .jt _ _ _ n=>n.sl
 | .kp=>[]
 | .lk _ _ _ m k=>m.sl++k.sl
 | .jR _ m k v=>m.sl++(k.sl++v.sl)
 | .lq _ m k=>m.sl++k.sl
 | .jZ x=>x.sl
 | .jS x=>x.sl
 | .ent x=>x.sl
def az.cv(g:az):List Nat:=g.op.cv++(match g.guard with | some (t,_)=>[t] | none=>[])
def bw.fM:bw→Nat
 | .mv _ | .pick .. | .bin .. | .eqv .. | .nilS .. | .conv .. | .un .. | .fl .. | .ix .. | .lenT _ | .bld .. | .ext .. | .mk .. | .nilC _ | .ptrE .. | .max2 .. | .prim .. =>0
 | .ld .. | .fa .. | .ia .. | .is .. | .len _ | .va .. | .bs .. | .sl .. | .cap _ | .bs0 _ | .lk .. | .ent _ | .b2s _=>1
 | .call .. | .fj .. =>2
 | .alloc _ | .box _=>3
 | .aT .. =>4
 | .dv .. | .jA .. | .ji .. | .fW .. | .gE .. | .jt .. | .kp | .jR .. | .lq .. | .jZ _ | .jS _ | .eN _=>5
def uu(a b:Nat):Bool:=(decide (a≤2)&&decide (b≤3))||(a==0&&b==4)
def lS(g h:az):Bool:=uu g.op.fM h.op.fM&&(match g.dst with
  |some d => !h.cv.contains d&&h.dst != some d
  |none=>true)&&(match h.dst with
  |some d => !g.cv.contains d
  |none=>true)
def dq(A A':ab)(l:List Nat):Prop:=∀ k∈l,A'.t k=A.t k
section
variable {A A':ab}
theorem cC{x:aF}(h:dq A A' x.sl):af A' x=af A x:=by
 cases x with
 |t n=>exact h n (by simp[aF.sl])
 |c x=>rfl
theorem dq.l{l m:List Nat}(h:dq A A' (l++m)):dq A A' l:=fun k hk=>h k (List.mem_append_left _ hk)
theorem dq.r{l m:List Nat}(h:dq A A' (l++m)):dq A A' m:=fun k hk=>h k (List.mem_append_right _ hk)
theorem ke:∀ {l:List aF},dq A A' (iK l)→l.map (af A')=l.map (af A)
 | [],_=>rfl
 |x::l,h=>by
  simp only[iK,List.flatMap_cons] at h;simp only[Z3,cC h.l,ke (l:=l) h.r]
theorem nW{x:Option aF}(h:dq A A' (sB x)):x.map (af A')=x.map (af A):=by
 cases x with
 |none=>rfl
 |some x=>simp only[Z8,cC (x:=x) h]
theorem Ak:∀ {l:List (Nat×aF)},dq A A' (iK (l.map (·.2)))→(l.map fun p=>(p.1,af A' p.2))=l.map fun p=>(p.1,af A p.2)
 | [],_=>rfl
 |x::l,h=>by
  simp only[iK,Z3,List.flatMap_cons] at h;simp only[Z3,cC h.l,Ak (l:=l) h.r]
theorem pX{f g:I→Option I}(h:∀ x v,f x=some v→g x=some v):∀ {xs vs:List I},gO f xs=some vs→gO g xs=some vs
 | [],vs,hx=>by simpa only[gO] using hx
 |x::xs,vs,hx=>by
  simp only[gO] at hx ⊢;cases h1:f x with
  |none=>rw[h1] at hx;cases hx
  |some y=>cases h2:gO f xs with
   |none=>rw[h1,h2] at hx;cases hx
   |some ys=>rw[h1,h2] at hx;rw[h x y h1,pX h h2];exact hx
theorem uS(hu:du A A'):∀ (k:Nat) (x v:I),fY A k x=some v→fY A' k x=some v
 |0,_,_,h=>by simp[fY] at h
 |k+1,x,v,h=>by
  have ih:=uS hu k;simp only[fY] at h ⊢;split at h
  ·rename_i hc;rw[if_pos hc];exact h
  ·rename_i hc;rw[if_neg hc];cases x <;>simp only[] at h ⊢ <;>try (cases h;done)
   case agg fs =>
    simp only[t7] at h ⊢;obtain ⟨a,h1,h2⟩:=h;exact ⟨a,pX ih h1,h2⟩
   case func f fs =>
    split at h
    case isFalse hf=>rw[if_neg hf];exact h
    rename_i hf;rw[if_pos hf];simp only[t7] at h ⊢;obtain ⟨a,h1,h2⟩:=h;exact ⟨a,pX ih h1,h2⟩
   case ptr n p =>
    cases hd:bZ A (.ptr n p) with
    |none=>rw[hd] at h;cases h
    |some y =>
     rw[hd] at h;rw[iv hu hd];simp only[t7] at h ⊢;obtain ⟨a,h1,h2⟩:=h;exact ⟨a,ih _ _ h1,h2⟩
   case view n p sz lo l =>
    cases hd:bZ A (.ptr n p) with
    |none=>rw[hd] at h;cases h
    |some y=>rw[hd] at h;rw[iv hu hd];exact h
   case mref n =>
    cases ho:A.o n with
    |none=>rw[ho] at h;cases h
    |some y =>
     rw[ho] at h;rw[hu n y ho];cases y <;>try (cases h;done)
     simp only at h ⊢;split at h
     ·rename_i hk;rw[if_pos hk];simp only[t7] at h ⊢;obtain ⟨a,h1,h2⟩:=h;exact ⟨a,pX ih h1,h2⟩
     ·cases h
   case own n l =>
    cases ho:A.o n with
    |none=>rw[ho] at h;cases h
    |some y=>rw[ho] at h;rw[hu n y ho];exact h
mutual
theorem Aw(hu:du A A'){aI:Bool} : ∀ {x v:I},bd aI A x=some v→bd aI A' x=some v
 | .ptr n p,v,h=>by
  simp only[bd] at h ⊢;cases aI <;>simp only[Z4,if_false,if_true] at h ⊢
  ·exact h
  ·cases hd:bZ A (.ptr n p) with
   |none=>rw[hd] at h;cases h
   |some y =>
    rw[hd] at h;rw[iv hu hd];simp only at h ⊢;split at h
    ·rename_i hc;rw[if_pos hc];exact h
    ·rename_i hc;rw[if_neg hc];simp only[t7] at h ⊢;obtain ⟨a,h1,h2⟩:=h;exact ⟨a,uS hu 9 _ _ h1,h2⟩
 | .mref n,v,h=>by
  simp only[bd] at h ⊢;cases aI <;>simp only[Z4,if_false,if_true] at h ⊢
  ·exact h
  ·cases ho:A.o n with
   |none=>rw[ho] at h;cases h
   |some y =>
    rw[ho] at h;rw[hu n y ho];cases y <;>try (cases h;done)
    simp only at h ⊢;split at h
    ·rename_i hk;rw[if_pos hk];simp only[t7] at h ⊢;obtain ⟨a,h1,h2⟩:=h;exact ⟨a,pX (uS hu 9) h1,h2⟩
    ·cases h
 | .cU _,_,h=>by simp[bd] at h
 | .cY _ _,_,h=>by simpa only[bd] using h
 | .own n k,v,h=>by
  simp only[bd] at h ⊢;cases ho:A.o n with
  |none=>rw[ho] at h;cases h
  |some y=>rw[ho] at h;rw[hu n y ho];exact h
 | .view n p sz lo k,v,h=>by
  simp only[bd] at h ⊢;cases aI <;>simp only[Z4,if_false,if_true] at h ⊢
  ·exact h
  ·cases hd:bZ A (.ptr n p) with
   |none=>rw[hd] at h;cases h
   |some y=>rw[hd] at h;rw[iv hu hd];exact h
 | .func f caps,v,h=>by
  simp only[bd] at h ⊢;split at h
  case isFalse hf=>rw[if_neg hf];exact h
  rename_i hf;rw[if_pos hf];simp only[t7] at h ⊢;obtain ⟨a,h1,h2⟩:=h;exact ⟨a,ki hu h1,h2⟩
 | .agg fs,v,h=>by
  simp only[bd,t7] at h ⊢;obtain ⟨a,h1,h2⟩:=h;exact ⟨a,ki hu h1,h2⟩
 | .nils _,_,h | .c0 _,_,h | .tuple _,_,h | .undef,_,h | .cV,_,h | .bool _,_,h | .int _ _,_,h | .ak _,_,h | .nilp,_,h | .c8,_,h | .cQ,_,h | .any,_,h | .raw _,_,h | .slice _ _,_,h | .ref _,_,h | .iface _ _,_,h=>by simpa only[bd] using h
theorem ki(hu:du A A'){aI:Bool} : ∀ {xs vs:List I},bL aI A xs=some vs→bL aI A' xs=some vs
 | [],vs,h=>by simpa only[bL] using h
 |x::xs,vs,h=>by
  simp only[bL] at h ⊢;cases h1:bd aI A x with
  |none=>rw[h1] at h;cases h
  |some y=>cases h2:bL aI A xs with
   |none=>rw[h1,h2] at h;cases h
   |some ys=>rw[h1,h2] at h;rw[Aw hu h1,ki hu h2];exact h
end
theorem vW{op:bw}(hc:op.fM=0)(h:dq A A' op.cv):aV A' op=aV A op:=by
 cases op <;>simp only[bw.fM] at hc <;>try (cases hc;done)
 all_goals simp only[bw.cv] at h
 case mv x=>simp only[aV,cC h]
 case pick c a b=>simp only[aV,cC h.l,cC h.r.l,cC h.r.r]
 case bin _ x y=>simp only[aV,cC h.l,cC h.r]
 case eqv _ _ x y=>simp only[aV,cC h.l,cC h.r]
 case nilS x=>simp only[aV,cC h]
 case conv x=>simp only[aV,cC h]
 case un x=>simp only[aV,cC h]
 case fl x=>simp only[aV,cC h]
 case ix x i=>simp only[aV,cC h.l,cC h.r]
 case lenT x=>simp only[aV,cC h]
 case bld zs ps=>simp only[aV,Ak h]
 case ext x i=>simp only[aV,cC h]
 case mk f caps=>simp only[aV,ke h]
 case nilC x=>simp only[aV,cC h]
 case ptrE neg x y=>simp only[aV,cC h.l,cC h.r]
 case max2 x y=>simp only[aV,cC h.l,cC h.r]
 case prim p xs=>simp only[aV,ke h]
theorem WI(hu:du A A'){m:I}{q:List I×List I}(h:fQ A m=some q):fQ A' m=some q:=by
 cases m with
 |mref n =>
  simp only[fQ] at h ⊢;cases hd:A.o n with
  |none=>simp only[hd] at h;cases h
  |some y=>simp only[hd] at h;simp only[hu n y hd];exact h
 |raw v=>cases v <;>first | (cases h;done) | (rename_i m;cases m <;>first | exact h | cases h)
 |cY ks vs=>exact h
 |_=>simp only[fQ] at h;cases h
theorem Zm(hu:du A A'){sz:Nat}{x:I}{es:List I}(h:cT A sz x=some es):cT A' sz x=some es:=by
 cases x <;>simp only[cT] at h ⊢ <;>try (exact h)
 ·rename_i n l;cases hd:A.o n with
  |none=>rw[hd] at h;cases h
  |some y=>rw[hd] at h;rw[hu n y hd];exact h
 ·rename_i n p z lo k;cases hd:bZ A (.ptr n p) with
  |none=>rw[hd] at h;cases h
  |some y=>rw[hd] at h;rw[iv hu hd];exact h
theorem CG{op:bw}(hu:du A A')(h:dq A A' op.cv){v:I}(hv:aV A op=some v):aV A' op=some v:=by
 by_cases hc:op.fM=0
 ·rw[vW hc h];exact hv
 cases op <;>try (exact absurd rfl hc)
 all_goals simp only[bw.cv] at h
 case ld s x =>
  simp only[aV,cC h] at hv ⊢;cases hd:bZ A (af A x) with
  |none=>rw[hd] at hv;cases hv
  |some y=>rw[hd] at hv;rw[iv hu hd];exact hv
 case fa f off x =>
  simp only[aV,cC h] at hv ⊢;generalize af A x=z at *;cases z <;>try (first | exact hv | (rename_i y;cases y <;>exact hv))
  rename_i n p;cases hd:bZ A (.ptr n p) with
  |none=>simp only[hd] at hv;cases hv
  |some y=>simp only[hd] at hv;simp only[iv hu hd];exact hv
 case ia n esz x i =>
  simp only[aV,cC h.l,cC h.r] at hv ⊢;generalize af A x=z at *;cases z <;>try (first | exact hv | (rename_i y;cases y <;>exact hv))
  rename_i n p;cases hd:bZ A (.ptr n p) with
  |none=>simp only[hd] at hv;(repeat' split at hv) <;>cases hv
  |some y=>simp only[hd] at hv;simp only[iv hu hd];exact hv
 case is esz x i =>
  simp only[aV,cC h.l,cC h.r] at hv ⊢;generalize af A i=q at *;cases q <;>try (exact hv)
  simp only at hv ⊢;generalize af A x=z at *;cases z <;>try (first | exact hv | (rename_i y;cases y <;>exact hv))
  ·rename_i n p;cases hd:A.o n with
   |none=>simp only[hd] at hv;cases hv
   |some y=>simp only[hd] at hv;simp only[hu n y hd];exact hv
  ·rename_i n p sz lo k;simp only at hv ⊢;cases hd:bZ A (.ptr n p) with
   |none=>simp only[hd] at hv;cases hv
   |some y=>simp only[hd] at hv;simp only[iv hu hd];exact hv
 case len x =>
  simp only[aV,cC h] at hv ⊢;generalize af A x=z at *;cases z <;>try (first | exact hv | (rename_i y;cases y <;>exact hv))
  rename_i n p;cases hd:A.o n with
  |none=>simp only[hd] at hv;cases hv
  |some y=>simp only[hd] at hv;simp only[hu n y hd];exact hv
 case cap x =>
  simp only[aV,cC h] at hv ⊢;generalize af A x=z at *;cases z <;>try (first | exact hv | (rename_i y;cases y <;>exact hv))
  rename_i n p sz lo k;simp only at hv ⊢;cases hd:bZ A (.ptr n p) with
  |none=>simp only[hd] at hv;cases hv
  |some y=>simp only[hd] at hv;simp only[iv hu hd];exact hv
 case bs0 esz=>exact hv
 case sl esz x lo hi mx =>
  simp only[aV,cC h.l,nW h.r.l,nW h.r.r.l,nW h.r.r.r] at hv ⊢;generalize af A x=z at *;cases z <;>try (first | exact hv | (rename_i y;cases y <;>exact hv))
  rename_i n p sz l0 k;simp only at hv ⊢;cases hd:bZ A (.ptr n p) with
  |none=>simp only[hd] at hv;cases hv
  |some y=>simp only[hd] at hv;simp only[iv hu hd];exact hv
 case va n esz x =>
  simp only[aV,cC h] at hv ⊢;generalize af A x=z at *;cases z <;>try (first | exact hv | (rename_i y;cases y <;>exact hv))
  rename_i n p;cases hd:bZ A (.ptr n p) with
  |none=>simp only[hd] at hv;cases hv
  |some y=>simp only[hd] at hv;simp only[iv hu hd];exact hv
 case lk ty z ok m k =>
  simp only[aV,cC h.l,cC h.r] at hv ⊢;cases hd:fQ A (af A m) with
  |none=>rw[hd] at hv;cases hv
  |some y=>rw[hd] at hv;rw[WI hu hd];exact hv
 case ent x =>
  simp only[aV,cC h] at hv ⊢;generalize af A x=z at *;cases z <;>try (exact hv)
  rename_i n;simp only at hv ⊢;cases hd:A.o n with
  |none=>simp only[hd] at hv;cases hv
  |some y=>simp only[hd] at hv;simp only[hu n y hd];exact hv
 case b2s x =>
  simp only[aV,cC h] at hv ⊢;cases hd:cT A 1 (af A x) with
  |none=>rw[hd] at hv;cases hv
  |some y=>rw[hd] at hv;rw[Zm hu hd];exact hv
 case bs esz ps =>
  simp only[aV,ke h] at hv ⊢;cases hd:bL false A (ps.map (af A)) with
  |none=>rw[hd] at hv;cases hv
  |some y=>rw[hd] at hv;rw[ki hu hd];exact hv
 all_goals (simp only[aV] at hv;cases hv)
end
def pass(A:ab)(g:az):Prop:=match g.guard with | none=>True | some (t,b)=>A.t t=.bool b
def fG(A:ab)(g:az):Prop:=match g.guard with | none=>False | some (t,b)=>A.t t=.bool (!b)∨A.t t=.undef
inductive iM (P:Program) (A:ab):bw→I→Prop where
 |pure {op:bw} {v:I} : aV A op=some v→iM P A op v
 |flat {f:FuncId} {args:List aF} {cargs:List I} {r:I} : bL true A (args.map (af A))=some cargs→aQ P f cargs r→r.flat=true→iM P A (.call f args) r
 |lead {f:FuncId} {args:List aF} {cargs:List I} {r:I} : bL false A (args.map (af A))=some cargs→aQ P f cargs r→iM P A (.call f args) r
 |tv {x:aF} {f:FuncId} {caps:List I} {args:List aF} {cargs:List I} {r:I} : af A x=.func f caps→bL true A (gL f (args.map (af A)) caps)=some cargs→aQ P (kg f) cargs r→r.flat=true→iM P A (.fj x args) r
 |tw {x:aF} {f:FuncId} {caps:List I} {args:List aF} {cargs:List I} {r:I} : af A x=.func f caps→bL false A (gL f (args.map (af A)) caps)=some cargs→aQ P (kg f) cargs r→iM P A (.fj x args) r
def qM(A:ab)(op:bw)(x:I):Prop:=op=.alloc x∨∃ y,op=.box y∧(af A y).cD=true∧x=af A y
def qN(A:ab)(op:bw)(n:Nat)(z:ai):Prop:=∃ s x v p b old,op=.aT s x v∧af A x=.ptr n p∧A.o n=some (.box b)∧b.at p=some old∧vL s (af A v) old∧z=.box (b.dy p (af A v))
def Gd(A:ab)(dst:Option Nat)(op:bw)(B:ab):Prop:=op.fM=5∧∀ (rest:List az) (k:ab→b9),aW A dst op rest k=k B
theorem ZF{A:ab}{neg:Bool}{x:aF}{v:I}(h:aV A (.nilS neg x)=some v):ja (af A x)=false:=by
 simp only[aV] at h;generalize af A x=q at *;cases q <;>simp only[ja] <;>simp only at h <;>try (cases h;done)
 rename_i sz es;cases es with
 |nil=>simp at h
 |cons=>rfl
inductive eI (P:Program) (g:az) (A:ab):ab→Prop where
 |skip:fG A g→eI P g A (A.aP g.dst .undef)
 |val {v:I} : pass A g→iM P A g.op v→eI P g A (A.aP g.dst v)
 |iA {d:Nat} {x:I} : pass A g→g.dst=some d→qM A g.op x→A.o d=none→eI P g A ((A.aS d (.box x)).put d (.ptr d []))
 |aT {n:Nat} {z:ai} : pass A g→g.dst=none→qN A g.op n z→eI P g A (A.aS n z)
 |fX {B:ab} : pass A g→Gd A g.dst g.op B→eI P g A B
theorem ue{b' b:Bool}(h:b'≠b):b' = !b:=by cases b <;>cases b' <;>simp_all
section
variable {P:Program} {Y:Value→List I→List (Nat×ai)→cd→Prop} {K:ab→Prop}
theorem eI.Cd{A:ab}{g:az}{rest:List az}(hp:pass A g)(h:aZ P Y true K (aW A g.dst g.op rest (av rest))):∃ B,eI P g A B∧aZ P Y true K (av rest B):=by
 have pure:aZ P Y true K (cm (aV A g.op) fun v=>av rest (A.aP g.dst v))→∃ B,eI P g A B∧aZ P Y true K (av rest B):=by
  intro h;cases hv:aV A g.op with
  |none=>rw[hv] at h;cases h
  |some v=>rw[hv] at h;exact ⟨_,.val hp (.pure hv),h⟩
 obtain ⟨dst,op,gd⟩:=g;cases op with
 |alloc z =>
  simp only[aW] at h;split at h
  case h_2=>cases h
  split at h
  case h_2=>cases h
  rename_i hd _ ho;exact ⟨_,.iA hp rfl (.inl rfl) ho,h⟩
 |box x =>
  simp only[aW] at h;split at h
  case h_2=>cases h
  split at h
  case h_2=>cases h
  rename_i hd _ ho;split at h
  case isFalse=>cases h
  rename_i hv;exact ⟨_,.iA hp rfl (.inr ⟨x,rfl,hv,rfl⟩) ho,h⟩
 |aT s x v =>
  simp only[aW] at h;split at h
  case h_2=>cases h
  split at h
  case h_2=>cases h
  rename_i n p hx;split at h
  case h_2=>cases h
  rename_i b hb;split at h
  case h_2=>cases h
  rename_i old hat;split at h
  case isFalse=>cases h
  rename_i hok;exact ⟨_,.aT hp rfl ⟨s,x,v,p,b,old,rfl,hx,hb,hat,hok,rfl⟩,h⟩
 |nilS neg x =>
  simp only[aW] at h;split at h
  ·cases h with | any hdr=>cases hdr
  ·exact pure h
 |dv e esz bytes z s x =>
  simp only[aW] at h;split at h
  ·rename_i n l hs';split at h
   case h_2=>cases h
   rename_i sz ys hx';split at h
   case h_3=>cases h
   case h_2 =>
    rename_i T xs hn;split at h
    case isFalse=>cases h
    rename_i hok;exact ⟨_,.fX hp ⟨rfl,fun rest k=>by simp only[aW,hs',hx',hn,if_pos hok]⟩,h⟩
   rename_i T sz' es hn;split at h
   case isFalse=>cases h
   rename_i hok;exact ⟨_,.fX hp ⟨rfl,fun rest k=>by simp only[aW,hs',hx',hn,if_pos hok]⟩,h⟩
  ·rename_i hno;have hg:∀ (rest:List az) (k:ab→b9),aW A dst (.dv e esz bytes z s x) rest k=dZ A dst esz bytes z (af A s) (cT A esz (af A s)) (cT A esz (af A x)) k:=fun rest k=>by
    simp only[aW]
   simp only[dZ] at h hg;split at h
   case h_2=>cases h
   rename_i es ys hse hsx;simp only[hse,hsx] at hg;have grow:¬ aZ P Y true K (eZ A dst esz bytes z es ys (av rest)):=fun h=>by
    simp only[eZ] at h;split at h
    case h_2=>cases h
    split at h
    case h_2=>cases h
    split at h
    case isFalse=>cases h
    cases h with | any hdr=>cases hdr
   split at h
   ·rename_i hne;simp only[if_pos hne] at hg;exact ⟨_,.fX hp ⟨rfl,hg⟩,h⟩
   ·rename_i hne;simp only[if_neg hne] at hg;split at h
    ·exact absurd h grow
    ·exact absurd h grow
    ·rename_i n p sz lo l hsv;split at h
     case h_2=>cases h
     rename_i b hn;split at h
     case h_2=>cases h
     rename_i fs hat;split at h
     ·rename_i hroom;split at h
      case isFalse=>cases h
      rename_i hok;simp only[hsv,hn,hat,if_pos hroom,if_pos hok] at hg;exact ⟨_,.fX hp ⟨rfl,hg⟩,h⟩
     ·exact absurd h grow
    ·cases h
 |gE f args =>
  simp only[aW] at h;cases h with | ext r hdr=>cases hdr
 |jA e esz bytes z s n =>
  exfalso
  simp only[aW] at h;split at h
  case h_2=>cases h
  simp only[pc] at h;split at h
  case h_2=>cases h
  split at h
  case h_2=>cases h
  split at h
  case h_2=>cases h
  split at h
  case h_2=>cases h
  split at h
  case isFalse=>cases h
  simp only[eZ] at h;split at h
  case h_2=>cases h
  split at h
  case h_2=>cases h
  split at h
  case isFalse=>cases h
  cases h with | any hdr=>cases hdr
 |kp =>
  simp only[aW] at h;split at h
  case h_2=>cases h
  rename_i d;split at h
  case h_2=>cases h
  rename_i hf;exact ⟨_,.fX hp ⟨rfl,fun rest k=>by simp only[aW,hf]⟩,h⟩
 |jt e bytes z n =>
  simp only[aW] at h;split at h
  case h_2=>cases h
  rename_i d;split at h
  case h_2=>cases h
  rename_i hf;split at h
  case h_2=>cases h
  rename_i k m hn;split at h
  case isFalse=>cases h
  rename_i hc;exact ⟨_,.fX hp ⟨rfl,fun rest k=>by simp only[aW,hf,hn,if_pos hc]⟩,h⟩
 |jR ty m key v =>
  simp only[aW] at h;split at h
  case h_2=>cases h
  split at h
  case h_2=>cases h
  rename_i n hm;split at h
  case h_2=>cases h
  rename_i ks vs hn;split at h
  case h_2=>cases h
  rename_i ks' vs' hl;exact ⟨_,.fX hp ⟨rfl,fun rest k=>by simp only[aW,hm,hn,hl]⟩,h⟩
 |lq ty m key =>
  simp only[aW] at h;split at h
  case h_2=>cases h
  split at h
  case h_2=>cases h
  rename_i n hm;split at h
  case h_2=>cases h
  rename_i ks vs hn;split at h
  case h_2=>cases h
  rename_i ks' vs' hl;exact ⟨_,.fX hp ⟨rfl,fun rest k=>by simp only[aW,hm,hn,hl]⟩,h⟩
 |jZ x =>
  simp only[aW] at h;split at h
  case h_2=>cases h
  rename_i d;split at h
  case h_2=>cases h
  rename_i hf;split at h
  case h_2=>cases h
  rename_i ks vs hx;exact ⟨_,.fX hp ⟨rfl,fun rest k=>by simp only[aW,hf,hx]⟩,h⟩
 |jS x =>
  simp only[aW] at h;split at h
  case h_2=>cases h
  rename_i n hx;split at h
  case h_2=>cases h
  rename_i ks vs left cur hn;split at h
  ·rename_i hl;exact ⟨_,.fX hp ⟨rfl,fun rest k=>by simp only[aW,hx,hn,if_pos hl]⟩,h⟩
  ·cases h with | any hdr=>cases hdr
 |ji esz z x =>
  simp only[aW] at h;split at h
  case h_2=>cases h
  have hg:∀ (rest:List az) (k:ab→b9),aW A none (.ji esz z x) rest k=nO A esz z k (af A x):=fun rest k=>rfl;simp only[nO] at h hg;split at h
  ·rename_i n p sz lo l hv;split at h
   case h_2=>cases h
   rename_i b hn;split at h
   case h_2=>cases h
   rename_i fs hat;split at h
   case isFalse=>cases h
   rename_i hok;simp only[hv,hn,hat,if_pos hok] at hg;exact ⟨_,.fX hp ⟨rfl,hg⟩,h⟩
  ·rename_i z0 hv;simp only[hv] at hg;exact ⟨_,.fX hp ⟨rfl,hg⟩,h⟩
  ·rename_i z0 hv;simp only[hv] at hg;exact ⟨_,.fX hp ⟨rfl,hg⟩,h⟩
  ·cases h
 |fW esz x y =>
  have hg:∀ (rest:List az) (k:ab→b9),aW A dst (.fW esz x y) rest k=kb A dst esz k (af A x) (j2 A esz (af A y)):=fun rest k=>rfl;simp only[aW] at h;simp only[kb] at h hg;split at h
  ·rename_i n p sz lo l ys hv hsx;split at h
   case h_2=>cases h
   rename_i b hn;split at h
   case h_2=>cases h
   rename_i fs hat;split at h
   case isFalse=>cases h
   rename_i hok;simp only[hv,hsx,hn,hat,if_pos hok] at hg;exact ⟨_,.fX hp ⟨rfl,hg⟩,h⟩
  ·rename_i z0 ys hv hsx;simp only[hv,hsx] at hg;exact ⟨_,.fX hp ⟨rfl,hg⟩,h⟩
  ·cases h
 |eN x =>
  simp only[aW] at h;unfold ig at h;split at h
  case h_2=>cases h
  split at h
  case h_2=>cases h
  split at h
  case h_2=>cases h
  cases h with | any hdr=>cases hdr
 |call f args =>
  simp only[aW] at h;generalize h1:bL true A (args.map (af A))=a1 at h;generalize h2:bL false A (args.map (af A))=a2 at h;cases h with
  |flat r hc hf hw=>exact ⟨_,.val hp (.flat h1 hc hf),hw⟩
  |lead r hc hw=>exact ⟨_,.val hp (.lead h2 hc),hw⟩
  |jI ns r hdr=>cases hdr
  |bB aI ρ os cargs post hdr=>cases hdr
 |fj x args =>
  simp only[aW] at h;split at h
  case h_3=>cases h
  case h_2=>cases h with | tC os cargs post hdr=>cases hdr
  rename_i f caps hx;generalize h1:bL true A (gL f (args.map (af A)) caps)=a1 at h;generalize h2:bL false A (gL f (args.map (af A)) caps)=a2 at h;cases h with
  |flat r hc hf hw=>exact ⟨_,.val hp (.tv hx h1 hc hf),hw⟩
  |lead r hc hw=>exact ⟨_,.val hp (.tw hx h2 hc),hw⟩
  |jI ns r hdr=>cases hdr
  |bB aI ρ os cargs post hdr=>cases hdr
 |_=>exact pure (by simpa only[aW] using h)
theorem eI.vG{A:ab}{g:az}{rest:List az}(h:aZ P Y true K (av (g::rest) A)):∃ B,eI P g A B∧aZ P Y true K (av rest B):=by
 simp only[av] at h;split at h
 ·rename_i hg;exact eI.Cd (by simp only[pass,hg]) h
 ·rename_i t b hg;split at h
  ·rename_i b' hb;split at h
   ·rename_i hbb;subst hbb;exact eI.Cd (by simp only[pass,hg];exact hb) h
   ·rename_i hbb;refine ⟨_,.skip (by simp only[fG,hg];exact .inl (by rw[hb,ue hbb])),h⟩
  ·rename_i hb;exact ⟨_,.skip (by simp only[fG,hg];exact .inr hb),h⟩
  ·cases h
theorem mu{A:ab}{g:az}{rest:List az}(hp:pass A g):av (g::rest) A=aW A g.dst g.op rest (av rest):=by
 simp only[av];cases hg:g.guard with
 |none=>rfl
 |some tb =>
  obtain ⟨t,b⟩:=tb;simp only[pass,hg] at hp;simp only[hp,if_true]
theorem eI.wY{A B:ab}{g:az}{rest:List az}(h:eI P g A B)(hw:aZ P Y true K (av rest B)):aZ P Y true K (av (g::rest) A):=by
 cases h with
 |skip hn =>
  simp only[av];cases hg:g.guard with
  |none=>simp only[fG,hg] at hn
  |some tb =>
   obtain ⟨t,b⟩:=tb;simp only[fG,hg] at hn;rcases hn with hn | hn
   ·simp only[hn];rw[if_neg (by cases b <;>simp)];exact hw
   ·simp only[hn];exact hw
 |val hp hv =>
  rw[mu hp];obtain ⟨dst,op,gd⟩:=g;cases hv with
  |pure hv =>
   have hv':aV A op=some _:=hv;cases op <;>try (simp only[aW,hv',cm] <;>first | exact hw | (simp only[aV] at hv';cases hv');done)
   all_goals first
    |(simp only[aV] at hv';cases hv';done)
    |(simp only[aW,ZF hv',Z4,if_false,hv',cm];exact hw)
  |flat h1 h2 h3=>simp only[aW,h1];exact .flat _ h2 h3 hw
  |lead h1 h2=>simp only[aW,h1];exact .lead _ h2 hw
  |tv h0 h1 h2 h3=>simp only[aW,h0,h1];exact .flat _ h2 h3 hw
  |tw h0 h1 h2=>simp only[aW,h0,h1];exact .lead _ h2 hw
 |iA hp hd hm ho =>
  rw[mu hp];obtain ⟨dst,op,gd⟩:=g;simp only at hd;subst hd;rcases hm with hm | ⟨y,hm,hv,rfl⟩ <;>simp only at hm <;>subst hm
  ·simp only[aW,ho];exact hw
  ·simp only[aW,ho,hv,if_true];exact hw
 |aT hp hd hm =>
  rw[mu hp];obtain ⟨dst,op,gd⟩:=g;simp only at hd;subst hd;obtain ⟨s,x,v,p,b,old,h1,h2,h3,h4,h5,rfl⟩:=hm;simp only at h1;subst h1;simp only[aW,h2,h3,h4,if_pos h5];exact hw
 |fX hp hm =>
  rw[mu hp,hm.2];exact hw
theorem iM.cA{A A':ab}{op:bw}{v:I}(h:iM P A op v)(hu:du A A')(ha:dq A A' op.cv):iM P A' op v:=by
 cases h with
 |pure h=>exact .pure (CG hu ha h)
 |flat h1 h2 h3=>exact .flat (by rw[ke ha];exact ki hu h1) h2 h3
 |lead h1 h2=>exact .lead (by rw[ke ha];exact ki hu h1) h2
 |tv h0 h1 h2 h3=>simp only[bw.cv] at ha;exact .tv (by rw[cC ha.l];exact h0) (by rw[ke ha.r];exact ki hu h1) h2 h3
 |tw h0 h1 h2=>simp only[bw.cv] at ha;exact .tw (by rw[cC ha.l];exact h0) (by rw[ke ha.r];exact ki hu h1) h2
theorem iM.jI{A A':ab}{op:bw}{v:I}(h:iM P A op v)(hc:op.fM=0)(ha:dq A A' op.cv):iM P A' op v:=by
 cases h with
 |pure h=>exact .pure (by rw[vW hc ha];exact h)
 |_=>simp[bw.fM] at hc
theorem lZ{A A':ab}{g:az}(ha:dq A A' g.cv)(h:pass A g):pass A' g:=by
 unfold pass at *;cases hg:g.guard with
 |none=>trivial
 |some tb=>simp only[hg] at h ⊢;rw[ha tb.1 (by simp[az.cv,hg])];exact h
theorem ox{A A':ab}{g:az}(ha:dq A A' g.cv)(h:fG A g):fG A' g:=by
 unfold fG at *;cases hg:g.guard with
 |none=>simp only[hg] at h
 |some tb=>simp only[hg] at h ⊢;rw[ha tb.1 (by simp[az.cv,hg])];exact h
theorem az.iV{A A':ab}{g:az}(ha:dq A A' g.cv):dq A A' g.op.cv:=fun k hk=>ha k (List.mem_append_left _ hk)
def j6(P:Program)(g:az)(A:ab)(v:I):Prop:=(fG A g∧v=.undef)∨(pass A g∧iM P A g.op v)
theorem j6.step{A:ab}{g:az}{v:I}(h:j6 P g A v):eI P g A (A.aP g.dst v):=by
 rcases h with ⟨h,rfl⟩ | ⟨h,k⟩
 ·exact .skip h
 ·exact .val h k
theorem j6.cA{A A':ab}{g:az}{v:I}(h:j6 P g A v)(hu:du A A')(ha:dq A A' g.cv):j6 P g A' v:=by
 rcases h with ⟨h,rfl⟩ | ⟨h,k⟩
 ·exact .inl ⟨ox ha h,rfl⟩
 ·exact .inr ⟨lZ ha h,k.cA hu (az.iV ha)⟩
theorem j6.jI{A A':ab}{g:az}{v:I}(h:j6 P g A v)(hc:g.op.fM=0)(ha:dq A A' g.cv):j6 P g A' v:=by
 rcases h with ⟨h,rfl⟩ | ⟨h,k⟩
 ·exact .inl ⟨ox ha h,rfl⟩
 ·exact .inr ⟨lZ ha h,k.jI hc (az.iV ha)⟩
theorem eI.gW{A B:ab}{g:az}(h:eI P g A B)(hc:g.op.fM≤2):∃ v,j6 P g A v∧B=A.aP g.dst v:=by
 cases h with
 |skip h=>exact ⟨_,.inl ⟨h,rfl⟩,rfl⟩
 |val h k=>exact ⟨_,.inr ⟨h,k⟩,rfl⟩
 |iA h1 h2 h3 h4=>rcases h3 with h3 | ⟨y,h3,_⟩ <;>(rw[h3] at hc;simp[bw.fM] at hc)
 |aT h1 h2 h3=>obtain ⟨s,x,v,p,b,old,h4,_⟩:=h3;rw[h4] at hc;simp[bw.fM] at hc
 |fX h1 h3=>rw[h3.1] at hc;omega
theorem oD{A:ab}{a b:Option Nat}{v u:I}(h:∀ d,a=some d→b≠some d):(A.aP a v).aP b u=(A.aP b u).aP a v:=by
 cases a with
 |none=>rfl
 |some d=>cases b with
  |none=>rfl
  |some e =>
   have hne:d≠e:=fun he=>h d rfl (by rw[he]);simp only[ab.aP,ab.put,ab.mk.injEq,and_true]
   funext k
   by_cases h1:k=e <;>by_cases h2:k=d <;>simp_all
theorem gz{A:ab}{d:Option Nat}{v:I} : (A.aP d v).o=A.o:=by cases d <;>rfl
theorem lr{A:ab}{d:Option Nat}{v:I}{l:List Nat}(h:∀ k,d=some k→k∉l):dq A (A.aP d v) l:=by
 cases d with
 |none=>exact fun _ _=>rfl
 |some e =>
  intro k hk;have:k≠e:=fun he=>h e rfl (he▸hk);simp[ab.aP,ab.put,this]
theorem dq.symm{A A':ab}{l:List Nat}(h:dq A A' l):dq A' A l:=fun k hk=>(h k hk).symm
theorem qM.same{A A':ab}{op:bw}{x:I}(h:qM A op x)(ha:dq A A' op.cv):qM A' op x:=by
 rcases h with h | ⟨y,h1,h2,h3⟩
 ·exact .inl h
 ·subst h1;have:=cC (x:=y) ha;exact .inr ⟨y,rfl,by rw[this];exact h2,by rw[this];exact h3⟩
theorem qN.same{A A':ab}{op:bw}{n:Nat}{z:ai}(h:qN A op n z)(ho:A'.o=A.o)(ha:dq A A' op.cv):qN A' op n z:=by
 obtain ⟨s,x,v,p,b,old,h1,h2,h3,h4,h5,h6⟩:=h;subst h1;simp only[bw.cv] at ha;have e1:=cC ha.l;have e2:=cC ha.r;exact ⟨s,x,v,p,b,old,rfl,by rw[e1];exact h2,by rw[ho];exact h3,h4,by rw[e2];exact h5,by rw[e2];exact h6⟩
theorem VR{g h:az}(hi:lS g h=true):uu g.op.fM h.op.fM=true∧(∀ d,g.dst=some d→d∉h.cv)∧(∀ d,g.dst=some d→h.dst≠some d)∧(∀ d,h.dst=some d→d∉g.cv):=by
 simp only[lS,Z0] at hi;obtain ⟨⟨h1,h2⟩,h3⟩:=hi;refine ⟨h1,fun d hd =>?_,fun d hd =>?_,fun d hd =>?_⟩
 ·rw[hd] at h2;simp at h2;exact h2.1
 ·rw[hd] at h2;simp at h2;exact h2.2
 ·rw[hd] at h3;simpa using h3
theorem eI.qz{A B C:ab}{g h:az}(hi:lS g h=true)(h1:eI P g A B)(h2:eI P h B C):∃ B',eI P h A B'∧eI P g B' C:=by
 obtain ⟨hc,i1,i2,i3⟩:=VR hi;simp only[uu,Bool.or_eq_true,Z0,decide_eq_true_eq,beq_iff_eq] at hc;have hg2:g.op.fM≤2:=by rcases hc with hc | hc <;>omega
 obtain ⟨v,hv,rfl⟩:=h1.gW hg2;have ag:dq (A.aP g.dst v) A h.cv:=(lr i1).symm;have cA:du (A.aP g.dst v) A:=fun n x hx=>by rwa [gz] at hx
 cases h2 with
 |skip hn =>
  exact ⟨_,.skip (ox ag hn),by
   rw[oD i2];exact (hv.cA (by intro n x hx;rwa [gz]) (lr i3)).step⟩
 |val hp hu =>
  exact ⟨_,.val (lZ ag hp) (hu.cA cA (az.iV ag)),by
   rw[oD i2];exact (hv.cA (by intro n x hx;rwa [gz]) (lr i3)).step⟩
 |iA hp hd hm ho =>
  rename_i d x;rw[gz] at ho;refine ⟨_,.iA (lZ ag hp) hd (hm.same (az.iV ag)) ho,?_⟩;have e:((A.aP g.dst v).aS d (.box x)).put d (.ptr d [])=((A.aS d (.box x)).put d (.ptr d [])).aP g.dst v:=by
   cases hgd:g.dst with
   |none=>rfl
   |some e =>
    have hne:e≠d:=fun he=>i2 e hgd (by rw[hd,he]);simp only[ab.aP,ab.put,ab.aS,ab.mk.injEq,and_true]
    funext k
    by_cases h1:k=e <;>by_cases h2:k=d <;>simp_all
  rw[e];refine (hv.cA (fun n y hy =>?_) (fun k hk =>?_)).step
  ·have:n≠d:=fun he=>by rw[he,ho] at hy;cases hy
   simp only[ab.put,ab.aS,this,if_false];exact hy
  ·have:k≠d:=fun he=>i3 d hd (he▸hk);simp only[ab.put,ab.aS,this,if_false]
 |aT hp hd hm =>
  rename_i n z;have hc0:g.op.fM=0:=by
   obtain ⟨s,x,v,p,b,old,h4,_⟩:=hm;rcases hc with hc | hc
   ·rw[h4] at hc;exact absurd hc.2 (by simp[bw.fM])
   ·exact hc.1
  refine ⟨_,.aT (lZ ag hp) hd (hm.same gz.symm (az.iV ag)),?_⟩;have e:(A.aP g.dst v).aS n z=(A.aS n z).aP g.dst v:=by cases g.dst <;>rfl
  rw[e];exact (j6.jI (A':=A.aS n z) hv hc0 (fun _ _=>rfl)).step
 |fX hp hm =>
  exfalso
  rw[hm.1] at hc;omega
theorem aZ.qz{A:ab}{g h:az}{rest:List az}(hi:lS g h=true)(hw:aZ P Y true K (av (g::h::rest) A)):aZ P Y true K (av (h::g::rest) A):=by
 obtain ⟨B,h1,h2⟩:=eI.vG hw;obtain ⟨C,h3,h4⟩:=eI.vG h2;obtain ⟨B',h5,h6⟩:=eI.qz hi h1 h3;exact h5.wY (h6.wY h4)
theorem aZ.pk{g:az} : ∀ {l:List az} {r:List az} {A:ab},(∀ j∈l,lS j g=true)→aZ P Y true K (av (l++g::r) A)→aZ P Y true K (av (g::(l++r)) A)
 | [],r,A,_,h=>h
 |j::l,r,A,hi,h=>by
  obtain ⟨B,h1,h2⟩:=eI.vG (g:=j) (rest:=l++g::r) h;have h3:=aZ.pk (l:=l) (r:=r) (fun k hk=>hi k (by simp[hk])) h2;exact aZ.qz (hi j (by simp)) (h1.wY h3)
end
def dN(o:Oper):List Nat:=(o.after.toList.filter fun e=>Region.binds .any e).map (·.on)
def ny(cl:List Nat):List Nat→Nat
 | []=>0
 |k::ks=>(2^k ||| cl.getD k 0) ||| ny cl ks
def ru(on:List (List Nat))(gs:List az)(cl:List Nat):Bool :=
 (List.range gs.length).all fun i=>(on.getD i []).all (fun k=>decide (k<i))&&Nat.beq (cl.getD i 0) (ny cl (on.getD i [])) &&
  (List.range i).all fun j=>(cl.getD i 0).testBit j||lS (gs.getD j default) (gs.getD i default)
theorem w6{cl:List Nat}{j:Nat} : ∀ {l:List Nat},(ny cl l).testBit j=true→j∈l∨∃ k∈l,(cl.getD k 0).testBit j=true
 | [],h=>by simp[ny] at h
 |k::ks,h=>by
  simp only[ny,Nat.testBit_or,Bool.or_eq_true,Nat.testBit_two_pow,decide_eq_true_eq] at h;rcases h with (h | h) | h
  ·exact .inl (by simp[h])
  ·exact .inr ⟨k,by simp,h⟩
  ·rcases w6 h with h | ⟨m,h1,h2⟩
   ·exact .inl (by simp[h])
   ·exact .inr ⟨m,by simp[h1],h2⟩
structure tF (l:List Oper) (gs:List az):Prop where
 kU:∀ i o,l[i]?=some o→∀ k∈dN o,k<i
 vc:∀ (S:Nat→Prop),(∀ i o,l[i]?=some o→S i→∀ k∈dN o,S k)→∀ i o g j,l[i]?=some o→gs[i]?=some g→(∀ k∈dN o,S k)→j<i→¬ S j→lS (gs.getD j default) g=true
theorem Me{l:List Oper}{gs:List az}{cl:List Nat}(hlen:gs.length=l.length)(h:ru (l.map dN) gs cl=true):tF l gs:=by
 simp only[ru,zy6,List.mem_range] at h;have aY:∀ i o,l[i]?=some o→∃ g,gs[i]?=some g∧(∀ k∈dN o,k<i)∧(∀ j,(cl.getD i 0).testBit j=true→j∈dN o∨∃ k∈dN o,(cl.getD k 0).testBit j=true)∧∀ j,j<i→(cl.getD i 0).testBit j=true∨lS (gs.getD j default) g=true:=by
  intro i o ho;have hi:i<l.length:=(Z6.1 ho).1;have h1:=h i (by omega);have hon:(l.map dN).getD i []=dN o:=by simp[zz5,ho]
  have hgi:i<gs.length:=by omega
  have hg:gs[i]?=some gs[i]:=zz0 hgi;have hgd:gs.getD i default=gs[i]:=by simp[zz5,hg]
  rw[hon,hgd] at h1;simp only[Z0,zy6,decide_eq_true_eq,Bool.or_eq_true,List.mem_range] at h1;have hb:=Nat.eq_of_beq_eq_true h1.1.2;exact ⟨_,hg,h1.1.1,fun j hj=>w6 (by rw[←hb];exact hj),h1.2⟩
 refine ⟨fun i o ho=>(aY i o ho).choose_spec.2.1,?_⟩;intro S hS i o g j ho hg hon hj hnj;have key:∀ n i o,i≤n→l[i]?=some o→(∀ k∈dN o,S k)→∀ j,(cl.getD i 0).testBit j=true→S j:=by
  intro n
  induction n with
  |zero =>
   intro i o hi ho hon j hj;obtain ⟨g,_,h1,h2,_⟩:=aY i o ho;rcases h2 j hj with h | ⟨k,hk,_⟩
   ·exact hon j h
   ·have:=h1 k hk;omega
  |succ n ih =>
   intro i o hi ho hon j hj;obtain ⟨g,_,h1,h2,_⟩:=aY i o ho;rcases h2 j hj with h | ⟨k,hk,hjk⟩
   ·exact hon j h
   ·have hki:=h1 k hk;have hkl:k<l.length:=Nat.lt_trans hki (Z6.1 ho).1;obtain ⟨ok,hok⟩:∃ ok,l[k]?=some ok:=⟨l[k],zz0 hkl⟩
    exact ih k ok (by omega) hok (hS k ok hok (hon k hk)) j hjk
 obtain ⟨g',hg',_,_,h3⟩:=aY i o ho;rw[hg,v6] at hg';subst hg';rcases h3 j hj with h | h
 ·exact absurd (key i i o (Z7 _) ho hon j h) hnj
 ·exact h
def ib(listed:Array Bool)(n:Nat):List Nat:=(List.range n).filter fun i => !listed.getD i true
def mW(gs:List az)(listed:Array Bool)(n:Nat):List az:=(ib listed n).map fun i=>gs.getD i default
theorem DU{i n:Nat}(h:i<n):List.range n=List.range i++i::(List.range (n-(i+1))).map (i+1 + ·):=by
 conv=>lhs;rw[show n=(i+1)+(n-(i+1)) by omega,List.range_add]
 rw[List.range_succ];simp
theorem YA{listed:Array Bool}{i n:Nat}(h:i<n)(hs:listed.size=n)(hu:listed.getD i true=false):∃ l1 l2,ib listed n=l1++i::l2∧ib (listed.setIfInBounds i true) n=l1++l2∧∀ j∈l1,j<i∧listed.getD j true=false:=by
 have same:∀ j,j≠i→(listed.setIfInBounds i true).getD j true=listed.getD j true:=fun j hj=>getD_set_ne true (Ne.symm hj);have jM:(listed.setIfInBounds i true).getD i true=true:=by simp[hs,h]
 refine ⟨(List.range i).filter fun j => !listed.getD j true,((List.range (n-(i+1))).map (i+1 + ·)).filter fun j => !listed.getD j true,?_,?_,?_⟩
 ·simp only[ib];rw[DU h,List.filter_append,List.filter_cons];simp only[hu,Bool.not_false,if_true]
 ·simp only[ib];rw[DU h,List.filter_append,List.filter_cons];simp only[jM,Bool.not_true,Z4,if_false]
  congr 1
  ·refine List.filter_congr fun j hj =>?_;rw[same j (by have:=List.mem_range.1 hj;omega)]
  ·refine List.filter_congr fun j hj =>?_;obtain ⟨k,_,rfl⟩:=zy3.1 hj;rw[same _ (by omega)]
 ·intro j hj;simp only[List.mem_filter,List.mem_range,Bool.not_eq_true'] at hj;exact hj
theorem D7{n:Nat} : ib (Array.replicate n false) n=List.range n:=by
 simp only[ib];refine List.filter_eq_self.2 fun i hi =>?_;have:=List.mem_range.1 hi;simp[this]
theorem WJ(gs:List az):((List.range gs.length).map fun i=>gs.getD i default)=gs:=by
 apply List.ext_getElem
 ·simp
 ·intro i h1 h2;simp[zz5,h2]
section
variable {c:cn}
theorem lN{P:Program}{n:Nat}{bf:Array Oper} : ∀ {l:List Oper} {gs:List az},fA P n bf l=some gs→gs.length=l.length∧∀ (i:Nat) (o:Oper),l[i]?=some o→∃ g,gs[i]?=some g∧kX P n bf o=some g
 | [],gs,h=>by simp only[fA,v6] at h;subst h;exact ⟨rfl,fun i o ho=>by simp at ho⟩
 |o::l,gs,h=>by
  simp only[fA] at h;split at h
  case h_2=>cases h
  rename_i g gs' hg hgs;simp only[v6] at h;subst h;obtain ⟨h1,h2⟩:=lN (l:=l) hgs;refine ⟨by simp[h1],fun i o' ho =>?_⟩;cases i with
  |zero=>simp only[List.getElem?_cons_zero,v6] at ho;subst ho;exact ⟨g,rfl,hg⟩
  |succ i=>simpa using h2 i o' (by simpa using ho)
theorem UC{K:ab→Prop}{bf:Array Oper}{Q:Exit→Act→World→Prop}{o:Oper}{g:az}{rest:List az}{A:ab}{a:Act}{w:World}{Kw:Act→World→Prop}(hg:kX c.P c.n bf o=some g)(hwp:aZ c.P c.Y true K (av (g::rest) A))(hs:bC c A a w)
  (hK:∀ B a' w',aZ c.P c.Y true K (av rest B)→bC c B a' w'→Kw a' w'):if Region.wanted o (yielded bf a.tmps) then o.wpIn c.bo 9 c.P a w Kw Q else (∀ f,o.about c.P w a.eval=some f→c.bo.fn f)∧Kw (a.put o.dst undef) w:=by
 obtain ⟨h1,h2,h3,h4⟩:=nN hg;have step:aZ c.P c.Y true K (aW A g.dst g.op rest (av rest))→o.wpIn c.bo 9 c.P a w Kw Q:=fun h =>
  rM h1 h2.symm (by rw[h2];exact h3) h hs (fun B a' w' hw hs'=>hK B a' w' hw hs')
 simp only[av] at hwp;rcases h4 with ⟨h5,h6⟩ | ⟨j,b,t,h5,h6,h7⟩
 ·rw[h6] at hwp;have hw:Region.wanted o (yielded bf a.tmps)=true:=by simp[Region.wanted,h5]
  rw[hw,if_pos rfl];exact step hwp
 ·rw[h7] at hwp;simp only at hwp;split at hwp
  ·rename_i b' hb';rw[rR hs h5 h6 hb'];split at hwp
   ·rename_i hbb;subst hbb;simp only[BEq.rfl,if_true];exact step hwp
   ·rename_i hbb;have:(b'==b)=false:=by simpa using hbb
    rw[this];simp only[Z4,if_false];exact ⟨fun f _=>lh c f,hK _ _ _ hwp (by rw[h2];exact hs.l9 h3)⟩
  ·rename_i hb';rw[rS hs h5 h6 hb'];simp only[Z4,if_false];exact ⟨fun f _=>lh c f,hK _ _ _ hwp (by rw[h2];exact hs.l9 h3)⟩
  ·cases hwp
theorem Gt{K:ab→Prop}{bf:Array Oper}{gs:List az}{Q:Exit→Act→World→Prop}(hQ:∀ B a w,K B→bC c B a w→Q .normal a w)(hgs:fA c.P c.n bf bf.toList=some gs)(hd:tF bf.toList gs) :
  ∀ (fuel:Nat) (listed:Array Bool) (A:ab) (a:Act) (w:World),listed.size=bf.size→(∀ i o,bf.toList[i]?=some o→listed.getD i false=true→∀ k∈dN o,listed.getD k false=true)→(ib listed bf.size).length≤fuel →
   aZ c.P c.Y true K (av (mW gs listed bf.size) A)→bC c A a w→wpAnyIn c.bo 9 c.P .any bf Q fuel listed a w:=by
 obtain ⟨hlen,hat⟩:=lN hgs;have onOf_mem:∀ (o:Oper) (e:Edge),e∈o.after→Region.binds .any e=true→e.on∈dN o:=fun o e he hb=>by
  simp only[dN,zy3,List.mem_filter];exact ⟨e,⟨by simpa using he,hb⟩,rfl⟩
 have of_onOf:∀ (o:Oper) (k:Nat),k∈dN o→∃ e∈o.after,Region.binds .any e=true∧e.on=k:=fun o k hk=>by
  simp only[dN,zy3,List.mem_filter] at hk;obtain ⟨e,⟨h1,h2⟩,h3⟩:=hk;exact ⟨e,by simpa using h1,h2,h3⟩
 have last:∀ (listed:Array Bool) (A:ab) (a:Act) (w:World),listed.size=bf.size→Region.ready .any bf listed=[]→aZ c.P c.Y true K (av (mW gs listed bf.size) A)→bC c A a w→Q .normal a w:=by
  intro listed A a w hsz hr hwp hs;have hnone:ib listed bf.size=[]:=by
   have all:∀ n,∀ i,i<n→i<bf.size→listed.getD i true=true:=by
    intro n
    induction n with
    |zero=>intro i hi;omega
    |succ n ih =>
     intro i hi his;cases hb:listed.getD i true with
     |true=>rfl
     |false =>
      exfalso
      have ho:bf[i]?=some bf[i]:=zx6 his;have:i∈Region.ready .any bf listed:=mem_ready.2 ⟨hb,bf[i],ho,fun e he hbd=>by
       have hlt:=hd.kU i bf[i] (by simp) e.on (onOf_mem _ e he hbd);have h1:=ih e.on (by omega) (by omega);have h2:e.on<listed.size:=by omega
       simpa[Array.getD_eq_getD_getElem?,h2] using h1⟩
      rw[hr] at this;cases this
   simp only[ib];refine List.filter_eq_nil_iff.2 fun i hi =>?_;have:=all (i+1) i (by omega) (List.mem_range.1 hi);simp only[this,Bool.not_true,Z4,not_false_eq_true]
  simp only[mW,hnone,zz6,av] at hwp;cases hwp with
  |done hk=>exact hQ A a w hk hs
 intro fuel
 induction fuel with
 |zero =>
  intro listed A a w hsz hcl hcnt hwp hs;have hnone:ib listed bf.size=[]:=List.length_eq_zero_iff.1 (by omega);have hr:Region.ready .any bf listed=[]:=by
   refine List.eq_nil_iff_forall_not_mem.2 fun i hi =>?_;obtain ⟨h1,o,ho,_⟩:=mem_ready.1 hi;have:i∈ib listed bf.size:=by
    simp only[ib,List.mem_filter,List.mem_range,h1,Bool.not_false,and_true];exact (zz4.1 ho).1
   rw[hnone] at this;cases this
  exact ⟨hr,last listed A a w hsz hr hwp hs⟩
 |succ fuel ih =>
  intro listed A a w hsz hcl hcnt hwp hs;refine ⟨fun hr=>last listed A a w hsz hr hwp hs,fun i hi =>?_⟩;obtain ⟨hun,o,ho,hall⟩:=mem_ready.1 hi;have hin:i<bf.size:=(zz4.1 ho).1;obtain ⟨l1,l2,e1,e2,hl1⟩:=YA hin hsz hun;have hol:bf.toList[i]?=some o:=by simpa using ho
  obtain ⟨g,hgi,hcg⟩:=hat i o hol;have hon:∀ k∈dN o,listed.getD k false=true:=fun k hk=>by
   obtain ⟨e,h1,h2,h3⟩:=of_onOf o k hk;exact h3▸hall e h1 h2
  have hgd:gs.getD i default=g:=by simp[zz5,hgi]
  have hwp':aZ c.P c.Y true K (av (g::mW gs (listed.setIfInBounds i true) bf.size) A):=by
   simp only[mW,e1,zy7,Z3,hgd] at hwp;simp only[mW,e2,zy7];refine aZ.pk (fun j hj =>?_) hwp;obtain ⟨k,hk,rfl⟩:=zy3.1 hj;obtain ⟨hk1,hk2⟩:=hl1 k hk;refine hd.vc (fun k=>listed.getD k false=true) hcl i o g k hol hgi hon hk1 ?_;have hks:k<listed.size:=by omega
   simp[Array.getD_eq_getD_getElem?,hks] at hk2 ⊢;exact hk2
  unfold wpOpIn;rw[ho];refine UC hcg hwp' hs fun B a' w' hw hs'=>ih _ B a' w' (by simpa using hsz) ?_ ?_ hw hs'
  ·intro m om hom hm k hk;by_cases hmi:m=i
   ·subst hmi;rw[hol,v6] at hom;subst hom;exact getD_set_true (hon k hk)
   ·rw[getD_set_ne false (Ne.symm hmi)] at hm;exact getD_set_true (hcl m om hom hm k hk)
  ·have:(ib listed bf.size).length=(ib (listed.setIfInBounds i true) bf.size).length+1:=by
    rw[e1,e2];simp;omega
   omega
theorem Yz{K:ab→Prop}{bf:Array Oper}{gs:List az}{Q:Exit→Act→World→Prop}{id:Nat}{A:ab}{a:Act}{w:World}(hm:c.P.follows .mixedOrders=true)(hQ:∀ B a w,K B→bC c B a w→Q .normal a w)(hgs:fA c.P c.n bf bf.toList=some gs)(hd:tF bf.toList gs)
  (hwp:aZ c.P c.Y true K (av gs A)) (hs:bC c A a w):(Code.region id bf true).wpIn c.bo 9 c.P Q a w:=by
 refine wpIn_region_any hm (Gt hQ hgs hd bf.size (Array.replicate bf.size false) A a _ (by simp) ?_ ?_ ?_ ?_)
 ·intro i o _ h
  exfalso
  simp only[Array.getD_eq_getD_getElem?,Array.getElem?_replicate] at h;split at h <;>simp at h
 ·rw[D7];simp
 ·have hl:=(lN hgs).1;simp only[zy5] at hl;simp only[mW,D7];rw[←hl,WJ];exact hwp
 ·obtain ⟨D,E,hs⟩:=hs;exact ⟨D,E,hs.grow (w' := { w with drawn:=w.drawn+1 }) ⟨rfl,rfl,rfl,Z7 _,fun _ _=>rfl⟩ (fun _ _ h=>h) (fun _ _ h _=>h) (fun b o h=>hs.cO b o h)⟩
end
inductive bj where
 |bU (on:Option (List (List Nat))) (gs:List az)
 |seq (x y:bj)
 |cond (b:aF) (x y:bj)
 |block (id:Nat) (x:bj)
 |loop (x:bj)
 |exit (id:Nat)
 |ret
 |skip
 |scope (x:bj)
 |label
 |ph
 |nh (f:aF) (ps:List Nat) (x y:bj)
 deriving Inhabited
def dQ(P:Program)(n:Nat):Code→Option bj
 | .region _ bf draw=>match fA P n bf bf.toList with
  |some gs=>if (!draw||P.follows .mixedOrders)=true then some (.bU (bif draw then some (bf.toList.map dN) else none) gs) else none
  |none=>some .ph
 | .seq x y=>match dQ P n x,dQ P n y with
  |some x,some y=>some (.seq x y)
  |_,_=>none
 | .cond b x y=>match aU P 0 b,dQ P n x,dQ P n y with
  |some b,some x,some y=>some (.cond b x y)
  |_,_,_=>none
 | .block id x=>match dQ P n x with
  |some x=>some (.block id x)
  |none=>none
 | .loop x=>match dQ P n x with
  |some x=>some (.loop x)
  |none=>none
 | .exit id=>some (.exit id)
 | .ret=>some .ret
 | .skip=>some .skip
 | .scope x=>match dQ P n x with
  |some x=>some (.scope x)
  |none=>none
 | .label _=>some .label
 | .rangeFunc f ps x y=>match aU P 0 f,dQ P n x,dQ P n y with
  |some f,some x,some y=>if (ps.toList.all fun p=>p<n)=true then some (.nh f ps.toList x y) else none
  |_,_,_=>none
 |_=>none
def r9(c:cn)(Q:Exit→ab→Prop):Exit→Act→World→Prop:=fun e a w=>∃ A,Q e A∧bC c A a w
def U(c:cn)(x:bj)(Q:Exit→ab→Prop)(A:ab):Prop :=
 ∀ code,dQ c.P c.n code=some x→∀ a w,bC c A a w→code.wpIn c.bo 9 c.P (r9 c Q) a w
def cH(k:ab→Prop)(Q:Exit→ab→Prop):Exit→ab→Prop
 | .normal,A=>k A
 |e,A=>Q e A
def kW(id:Nat)(Q:Exit→ab→Prop):Exit→ab→Prop
 | .exit id',A=>if id'=id then Q .normal A else Q (.exit id') A
 |e,A=>Q e A
section
variable {c:cn} {A:ab} {Q:Exit→ab→Prop}
def LU(d:Option (List (List Nat)))(gs:List az)(cl:List Nat):Bool:=match d with
 |none=>true
 |some on=>ru on gs cl
theorem U.bU{d:Option (List (List Nat))}{gs:List az}{cl:List Nat}(hd:LU d gs cl=true)(h:∀ K:ab→Prop,(∀ B,Q .normal B→K B)→aZ c.P c.Y d.isSome K (av gs A)):U c (.bU d gs) Q A:=by
 intro code hc a w hs;cases code <;>simp only[dQ] at hc <;>try (first | (cases hc;done) | ((repeat' split at hc) <;>cases hc;done))
 rename_i id bf draw;split at hc
 ·rename_i gs' hgs;split at hc
  case isFalse=>cases hc
  rename_i hok;simp only[v6,bj.bU.injEq] at hc;obtain ⟨rfl,rfl⟩:=hc;cases draw with
  |false=>exact wpIn_region_list (rQ (K:=Q .normal) (fun B a w hk hs=>⟨B,hk,hs⟩) bf.toList gs' A a w hgs (h _ fun _ hb=>hb) hs)
  |true =>
   simp only[Bool.not_true,Bool.false_or] at hok;exact Yz (K:=Q .normal) hok (fun B a w hk hs=>⟨B,hk,hs⟩) hgs (Me (lN hgs).1 hd) (h _ fun _ hb=>hb) hs
 ·cases hc
theorem U.seq{x y:bj}(h:U c x (cH (fun B=>U c y Q B) Q) A):U c (.seq x y) Q A:=by
 intro code hc a w hs;cases code <;>simp only[dQ] at hc <;>try (first | (cases hc;done) | ((repeat' split at hc) <;>cases hc;done))
 rename_i cx cy;split at hc
 ·rename_i x' y' hx hy;simp only[v6,bj.seq.injEq] at hc;obtain ⟨rfl,rfl⟩:=hc;refine wpIn_seq (wpIn_mono (h cx hx a w hs) ?_);rintro e a' w' ⟨B,hq,hs'⟩;cases e <;>simp only[cH,Exit.then] at * <;>first | exact hq cy hy a' w' hs' | exact ⟨B,hq,hs'⟩
 ·cases hc
theorem U.cond{b:aF}{x y:bj}{t:Bool}(hb:af A b=.bool t)(h1:t=true→U c x Q A)(h2:t=false→U c y Q A):U c (.cond b x y) Q A:=by
 intro code hc a w hs;cases code <;>simp only[dQ] at hc <;>try (first | (cases hc;done) | ((repeat' split at hc) <;>cases hc;done))
 rename_i cb cx cy;split at hc
 ·rename_i b' x' y' hb' hx hy;simp only[v6,bj.cond.injEq] at hc;obtain ⟨rfl,rfl,rfl⟩:=hc;obtain ⟨D,E,hs'⟩:=hs;have hv:=br hs' hb';rw[hb] at hv;exact wpIn_cond_split (kF hv) (fun ht=>h1 ht cx hx a w ⟨D,E,hs'⟩) (fun ht=>h2 ht cy hy a w ⟨D,E,hs'⟩)
 ·cases hc
theorem U.block{id:Nat}{x:bj}(h:U c x (kW id Q) A):U c (.block id x) Q A:=by
 intro code hc a w hs;cases code <;>simp only[dQ] at hc <;>try (first | (cases hc;done) | ((repeat' split at hc) <;>cases hc;done))
 rename_i id' cx;split at hc
 ·rename_i x' hx;simp only[v6,bj.block.injEq] at hc;obtain ⟨rfl,rfl⟩:=hc;refine wpIn_block (wpIn_mono (h cx hx a w hs) ?_);rintro e a' w' ⟨B,hq,hs'⟩;cases e <;>simp only[kW,Exit.inBlock] at * <;>first
   |exact ⟨B,hq,hs'⟩
   |(split at hq
     ·rename_i he;rw[if_pos he];exact ⟨B,hq,hs'⟩
     ·rename_i he;rw[if_neg he];exact ⟨B,hq,hs'⟩)
 ·cases hc
theorem U.exit{id:Nat}(h:Q (.exit id) A):U c (.exit id) Q A:=by
 intro code hc a w hs;cases code <;>simp only[dQ] at hc <;>try (first | (cases hc;done) | ((repeat' split at hc) <;>cases hc;done))
 simp only[v6,bj.exit.injEq] at hc;subst hc;exact wpIn_exit ⟨A,h,hs⟩
theorem U.ret(h:Q .ret A):U c .ret Q A:=by
 intro code hc a w hs;cases code <;>simp only[dQ] at hc <;>try (first | (cases hc;done) | ((repeat' split at hc) <;>cases hc;done))
 exact wpIn_ret ⟨A,h,hs⟩
theorem U.skip(h:Q .normal A):U c .skip Q A:=by
 intro code hc a w hs;cases code <;>simp only[dQ] at hc <;>try (first | (cases hc;done) | ((repeat' split at hc) <;>cases hc;done))
 exact wpIn_skip ⟨A,h,hs⟩
theorem Al{p:Nat→Prop}(h:∃ n,p n):∃ n,p n∧∀ m,p m→n≤m:=by
 obtain ⟨n,hn⟩:=h
 induction n using Nat.strongRecOn with
 |_ n ih =>
  by_cases hm:∃ m,m<n∧p m
  ·obtain ⟨m,h1,h2⟩:=hm;exact ih m h1 h2
  ·exact ⟨n,hn,fun m hp=>Nat.le_of_not_lt fun hlt=>hm ⟨m,hlt,hp⟩⟩
open Classical in
noncomputable def least(p:Nat→Prop):Nat:=if h:∃ n,p n then (Al h).choose else 0
theorem BL{p:Nat→Prop}(h:∃ n,p n):p (least p)∧∀ m,p m→least p≤m:=by
 simp only[least,dif_pos h];exact (Al h).choose_spec
theorem ZJ{bo:Fence}{N:Nat}{P:Program}{code:Code}{QQ:Exit→Act→World→Prop}(bh:Nat→Act→World→Prop)(round:∀ n a w,bh n a w→code.wpIn bo N P (Exit.then (fun a' w'=>∃ m,m<n∧bh m a' w') QQ) a w) :
  ∀ n a w,bh n a w→(Code.loop code).wpIn bo N P QQ a w:=by
 intro n a w h;refine wpIn_loop (fun a w=>∃ n,bh n a w) (fun a w=>least fun n=>bh n a w) ⟨n,h⟩ ?_;intro a w hI;have hm:=(BL hI).1;refine wpIn_mono (round _ a w hm) ?_;intro e a' w' hq;cases e <;>simp only[Exit.then] at hq ⊢ <;>try exact hq
 obtain ⟨m,h1,h2⟩:=hq;exact ⟨⟨m,h2⟩,Nat.lt_of_le_of_lt ((BL ⟨m,h2⟩).2 m h2) h1⟩
def bl(A B:ab):Prop:=∀ (c:cn) (a:Act) (w:World),bC c A a w→bC c B a w
theorem bl.refl(A:ab):bl A A:=fun _ _ _ h=>h
theorem bl.trans{A B C:ab}(h:bl A B)(k:bl B C):bl A C:=fun c a w hs=>k c a w (h c a w hs)
theorem U.sub{x:bj}{B:ab}(hsub:bl A B)(h:U c x Q B):U c x Q A:=fun code hc a w hs=>h code hc a w (hsub c a w hs)
theorem U.mono{x:bj}{Q':Exit→ab→Prop}(h:U c x Q A)(hq:∀ e B,Q e B→Q' e B):U c x Q' A :=
 fun code hc a w hs=>wpIn_mono (h code hc a w hs) fun e a' w' ⟨B,h1,h2⟩=>⟨B,hq e B h1,h2⟩
theorem U.loop{σ:Type}(S:σ→ab)(C:σ→Prop)(m:σ→Nat)(s0:σ){x:bj}(h0:C s0)(hsub:bl A (S s0))
  (round:∀ s,C s→U c x (cH (fun B=>∃ s',C s'∧m s'<m s∧bl B (S s')) Q) (S s)):U c (.loop x) Q A:=by
 intro code hc a w hs;cases code <;>simp only[dQ] at hc <;>try (first | (cases hc;done) | ((repeat' split at hc) <;>cases hc;done))
 rename_i cx;split at hc
 ·rename_i x' hx;simp only[v6,bj.loop.injEq] at hc;subst hc;refine ZJ (fun n a w=>∃ s,C s∧m s=n∧bC c (S s) a w) ?_ (m s0) a w ⟨s0,h0,rfl,hsub c a w hs⟩;rintro n a w ⟨s,hC,rfl,hs⟩;refine wpIn_mono (round s hC cx hx a w hs) ?_;rintro e a' w' ⟨B,hq,hs'⟩;cases e <;>simp only[cH,Exit.then] at * <;>first
   |exact ⟨B,hq,hs'⟩
   |(obtain ⟨s',h1,h2,h3⟩:=hq;exact ⟨m s',h2,s',h1,rfl,h3 c a' w' hs'⟩)
 ·cases hc
end
inductive bt where
 |tmp (t:Nat)
 |cell (a:Nat) (s:Option Nat)
def fV(P:Program):List ResultVar→Option (List bt)
 | []=>some []
 | .tmp t::l=>(fV P l).map (.tmp t :: ·)
 | .cell a t::l=>match fe P t,fV P l with
  |some s,some l=>some (.cell a s::l)
  |_,_=>none
def s7(A:ab):bt→Option I
 | .tmp t=>bd true A (A.t t)
 | .cell a s=>match bZ A (A.t a) with
  |some x=>if b8 s x then bd true A x else none
  |none=>none
def er(A:ab):List bt→Option (List I)
 | []=>some []
 |r::rs=>match s7 A r,er A rs with
  |some x,some xs=>some (x::xs)
  |_,_=>none
def jV:List I→I
 | [x]=>x
 |xs=>.tuple xs
def nu(args:List I):ab:=⟨fun t=>args.getD t .undef,fun _=>none⟩
def iX(rs:List bt)(r:I):Exit→ab→Prop
 | .ret,A=>∃ xs,er A rs=some xs∧jV xs=r
 | .normal,A=>∃ xs,er A rs=some xs∧jV xs=r
 |_,_=>False
def nv(args:List I)(os:List (Nat×ai)):ab:=⟨fun t=>args.getD t .undef,aE os⟩
theorem wR{P:Program}{n:Nat}{w:World}{D:aJ}{E:aN}{Y:Value→List I→List (Nat×ai)→cd→Prop}{args:List I}{os:List (Nat×ai)}{vs:List Value}(hD:∀ b o,D b o→b<w.heap.size)(ho:jd (fun _=>True) w D E (aE os))
  (hv:ar w D E args vs) (hn:vs.length≤n) (hos:∀ m,al os m=true→n≤m∧1000000≤m) (hy:nG ⟨P,w,D,n,bY E,E,Y,none,none⟩) :
  aL ⟨P,w,D,n,bY E,E,Y,none,none⟩ (nv args os) { tmps:=vs.toArray++Array.replicate (n-vs.toArray.size) undef,defers:=[] } w D E:=by
 refine ⟨by simp;omega,⟨[],rfl,.nil,fun _ h=>by simp at h⟩,fun t =>?_,ez.refl _ _,fun _ _ h _=>h,hD,fun m =>?_,ho.cz,fun m e h=>.inr ⟨e,h,.refl e⟩,fun m hm =>?_,fun _ _ h=>h,hy,.refl _ _⟩
 ·have key:∀ (args:List I) (vs:List Value) (t:Nat),ar w D E args vs→aR w D E (args.getD t .undef) (vs.getD t undef):=by
   intro args
   induction args with
   |nil=>intro vs t h;simp only[ar] at h;subst h;simp[aR]
   |cons x xs ih =>
    intro vs t h;simp only[ar] at h;obtain ⟨v,rest,cs,rfl,h1,h2,h3⟩:=h;cases t with
    |zero=>simpa using fB h1 h2
    |succ t=>simpa using ih rest t h3
  have:=key args vs t hv;have e:(vs.toArray++Array.replicate (n-vs.toArray.size) undef).getD t undef=vs.getD t undef:=by
   simp only[Array.getD_eq_getD_getElem?,zz5];rcases Nat.lt_or_ge t vs.length with h | h
   ·rw[Array.getElem?_append_left (by simpa using h)];simp
   ·rw[Array.getElem?_append_right (by simpa using h),List.getElem?_eq_none h];simp only[Array.getElem?_replicate];split <;>rfl
  simp only[nv];rw[e];exact this
 ·have h:=ho.bB m;simp only[nv];cases hx:aE os m with
  |none=>rw[hx] at h;exact h
  |some x =>
   rw[hx] at h;cases x with
   |box x =>
    obtain ⟨b,cs,T,k1,_,k3⟩:=h;exact ⟨b,cs,T,k1,.inr ⟨m,_,k1,rfl⟩,k3⟩
   |bQ T sz es =>
    obtain ⟨aG,k1,k2,k3⟩:=h;refine ⟨aG,k1,k2,?_⟩;cases aG with
    |none=>exact k3
    |some bc =>
     obtain ⟨b,cap⟩:=bc;obtain ⟨cs,pre,rest,_,k4⟩:=k3;exact ⟨cs,pre,rest,.inr ⟨m,_,k1,rfl⟩,k4⟩
   |dL T xs =>
    obtain ⟨aG,k1,k2,k3⟩:=h;refine ⟨aG,k1,k2,?_⟩;cases aG with
    |none=>exact k3
    |some bc =>
     obtain ⟨b,cap⟩:=bc;obtain ⟨cs,rest,_,k4⟩:=k3;exact ⟨cs,rest,.inr ⟨m,_,k1,rfl⟩,k4⟩
   |c6 x =>
    obtain ⟨b,k1,_,k3⟩:=h;exact ⟨b,k1,.inr ⟨m,_,k1,rfl⟩,k3⟩
   |cg ks vs =>
    obtain ⟨b,es,ck,k1,_,k3⟩:=h;exact ⟨b,es,ck,k1,.inr ⟨m,_,k1,rfl⟩,k3⟩
   |it ks vs left cur =>
    obtain ⟨r,b,es,ck,dK,se,la,k1,_,k3⟩:=h;exact ⟨r,b,es,ck,dK,se,la,k1,.inr ⟨m,_,k1,rfl⟩,k3⟩
 ·have h:=ho.bB m;refine hos m ?_;cases hx:aE os m with
  |none=>rw[hx] at h;exact absurd h hm
  |some x=>simp[al,hx]
def qj(tmps:Array Value):ResultVar→Sem Value
 | .tmp t=>pure (tmps.getD t undef)
 | .cell a t=>do loadVar t (←asAddr (tmps.getD a undef))
theorem YM(fn:Func)(tmps:Array Value):results fn tmps=(do
  let vs ←fn.results.mapM (qj tmps)
  pure (if h:vs.size=1 then vs[0] else .tuple vs)):=by
 unfold results;rfl
def mV(A:ab):bt→Option I
 | .tmp t=>some (A.t t)
 | .cell a s=>match bZ A (A.t a) with
  |some x=>if b8 s x then some x else none
  |none=>none
def lz(A A0:ab)(os:List (Nat×ai)):List bt→List I→Prop
 | [],[]=>True
 |r::rs,y::ys=>(∃ x,mV A r=some x∧((y=x∧x.cD=true∧x.only (al os)=true)∨bd true A0 x=some y))∧lz A A0 os rs ys
 |_,_=>False
def ab.j0(A:ab)(os:List (Nat×ai)):ab:=⟨A.t,fun n=>if al os n then none else A.o n⟩
def iN(rs:List bt)(post:cd)(A:ab):Prop :=
 ∃ (os:List (Nat×ai)) (xs:List I),(∀ n x,aE os n=some x→A.o n=some x∧x.only (al os)=true∧x.ej=true)∧lz A (A.j0 os) os rs xs∧post (jV xs) os
def nd(rs:List bt)(post:cd):Exit→ab→Prop
 | .ret,A=>iN rs post A
 | .normal,A=>iN rs post A
 |_,_=>False
theorem wc{c:cn}{A:ab}{a:Act}{w:World}{D:aJ}{E:aN}(hs:aL c A a w D E){A0:ab}(hu:du A0 A){os:List (Nat×ai)}{D':aJ}{E':aN}(hw:gF true A0 D E D')(ao:∀ n,al os n=true→E' n=E n)(hE':∀ n,al os n=false→E' n=none) :
  ∀ (rs:List ResultVar) (ls:List bt) (xs:List I),fV c.P rs=some ls→lz A A0 os ls xs→∃ vs:List Value,(rs.mapM (qj a.tmps)).run c.P w=.ok vs w∧ar w D' E' xs vs
 | [],ls,xs,hc,hr=>by
  simp only[fV,v6] at hc;subst hc;cases xs with
  |nil=>exact ⟨[],by simp,by simp[ar]⟩
  |cons x xs=>simp[lz] at hr
 |r::rs,ls,xs,hc,hr=>by
  have hl:dm w D E' w D' E':=⟨hw.cK,fun _ _ _ _ h=>h,fun _ _ _ h=>h,fun _ aG l h=>⟨aG,l,h,Z7 _,fun _=>rfl⟩,fun _ _ h=>h,fun _ _ h=>h,fun _ _ _ _ h=>h⟩
  have fin1:∀ {x y:I} {v:Value},aR w D E x v→((y=x∧x.cD=true∧x.only (al os)=true)∨bd true A0 x=some y)→∃ cs,ba y v cs∧ae w D' E' y cs:=by
   intro x y v hv hf;rcases hf with ⟨rfl,h1,h2⟩ | hf
   ·have h3:=aR.later hl (aR.dD ao h2 hv);cases y <;>simp only[aR] at h3 <;>first | (simp[I.cD] at h1;done) | exact h3
   ·have h1:ar w D E [x] [v]:=kI [x] [v] (.cons hv .nil) (by
     intro z hz;simp only[zx4] at hz;subst hz;cases z <;>simp_all[bd,I.cD])
    have h2:=lg (E':=E') hs hu hw [x] [y] [v] h1 (by simp[bL,hf]);simp only[ar] at h2;obtain ⟨v',rest,cs,e,k1,k2,_⟩:=h2;simp only[zz9] at e;obtain ⟨rfl,_⟩:=e;exact ⟨cs,k1,k2⟩
  cases r with
  |tmp t =>
   simp only[fV,t7] at hc;obtain ⟨ls',hl',rfl⟩:=hc;cases xs with
   |nil=>simp[lz] at hr
   |cons y ys =>
    simp only[lz] at hr;obtain ⟨⟨x,h1,h2⟩,h3⟩:=hr;simp only[mV,v6] at h1;subst h1;obtain ⟨vs,k1,k2⟩:=wc hs hu hw ao hE' rs ls' ys hl' h3;obtain ⟨cs,k3,k4⟩:=fin1 (hs.dF t) h2;refine ⟨a.tmps.getD t undef::vs,?_,?_⟩
    ·simp only[List.mapM_cons,Sem.run_bind,qj,Sem.run_pure,Result.andThen_ok,k1]
    ·simp only[ar];exact ⟨_,vs,cs,rfl,k3,k4,k2⟩
  |cell ad t =>
   simp only[fV] at hc;split at hc
   ·rename_i s ls' hk hl';simp only[v6] at hc;subst hc;cases xs with
    |nil=>simp[lz] at hr
    |cons y ys =>
     simp only[lz] at hr;obtain ⟨⟨x,h1,h2⟩,h3⟩:=hr;obtain ⟨vs,k1,k2⟩:=wc hs hu hw ao hE' rs ls' ys hl' h3;simp only[mV] at h1;split at h1
     ·rename_i z hz;split at h1
      ·rename_i hok;simp only[v6] at h1;subst h1;obtain ⟨b,off,cs,q1,q2,q3⟩:=hs.xY (hs.dF ad) hz;obtain ⟨v,q4,q5⟩:=Ek hk hok q2 q3;obtain ⟨cs',k3,k4⟩:=fin1 q5 h2;refine ⟨v::vs,?_,?_⟩
       ·have e:(qj a.tmps (.cell ad t)).run c.P w=.ok v w:=by
         simp only[qj,Sem.run_bind,q1,asAddr,Sem.run_pure,Result.andThen_ok,q4]
        simp only[List.mapM_cons,Sem.run_bind,Sem.run_pure,Result.andThen_ok,k1,e]
       ·simp only[ar];exact ⟨_,vs,cs',rfl,k3,k4,k2⟩
      ·cases h1
     ·cases h1
   ·cases hc
theorem aL.zF{c:cn}{A:ab}{a:Act}{w:World}{D:aJ}{E:aN}(h:aL c A a w D E)(hb:c.dP=none){B:Nat}{ds:List Deferred}(hd:a.defers = { target:=.collected B,args := #[] } :: ds) :
  w.heap[B]?=some (.deferred (some []))∧aL c A { a with defers:=ds } (w.putObj B (.deferred none)) D E:=by
 have hdf:=h.eb;rw[hb] at hdf;obtain ⟨Bs,h1,h2,h3⟩:=hdf;rw[hd] at h1;cases Bs with
 |nil=>cases h1
 |cons B' Bs =>
  simp only[Z3,zz9,Deferred.mk.injEq,Target.collected.injEq,and_true] at h1;obtain ⟨rfl,rfl⟩:=h1;have hB:=h3 B (by simp);have hlt:B<w.heap.size:=(zz4.1 hB.2).1;have hl:dm w D E (w.putObj B (.deferred none)) D E :=
   ⟨fun _ _ h=>h,fun b o v _ hv=>uo hB.2 rfl hv,fun _ _ _ h=>h,fun _ aG l h=>⟨aG,l,h,Z7 _,fun _=>rfl⟩,fun _ _ h=>h,fun _ _ h=>h,fun b es ck _ hm=>(World.putObj_heap_other (fun e=>by rw[e,hB.2] at hm;cases hm)).trans hm⟩
  have hne:∀ {b:Nat} {cs:Array Value} {T:TypeId},w.heap[b]?=some (.cells cs T (0,0))→(w.putObj B (.deferred none)).heap[b]?=w.heap[b]?:=fun {b cs T} hb =>
   World.putObj_heap_other (fun e=>by rw[e,hB.2] at hb;cases hb)
  refine ⟨hB.2,h.sz,by rw[hb];refine ⟨Bs,rfl,(List.nodup_cons.1 h2).2,fun B2 hB2=>⟨(h3 B2 (by simp[hB2])).1,?_⟩⟩;rw[World.putObj_heap_other (fun e=>(List.nodup_cons.1 h2).1 (by rw[←e];exact hB2))];exact (h3 B2 (by simp[hB2])).2,fun t=>aR.later hl (h.dF t),h.de.trans ⟨rfl,rfl,rfl,by simp,fun k hk =>?_⟩,h.cK,fun b o hd=>by have:=h.cO b o hd;simpa using this,fun n =>?_,h.cz,h.dw,h.eD,h.cA,h.eS,h.j5 hl⟩
  ·exact World.putObj_heap_other (fun e=>hk (e▸.inl hB.1))
  ·refine (h.bB n).later hl rfl fun e b he hb=>⟨?_,fun _ h=>h⟩
   have hob:=h.bB n;unfold cJ at hob;split at hob
   ·rw[hob] at he;cases he
   ·obtain ⟨b',cs,T,k1,_,k3,_⟩:=hob;rw[k1,v6] at he;subst he;simp only[bx.aG,v6] at hb;subst hb;exact World.putObj_heap_other (fun e=>k3.B8 (by rw[e];exact hB.2))
   ·obtain ⟨aG,k1,_,k3⟩:=hob;rw[k1,v6] at he;subst he;split at k3
    ·simp[bx.aG] at hb
    ·obtain ⟨cs,pre,rest,_,k5,_⟩:=k3;simp only[bx.aG,v6] at hb;subst hb;exact hne k5
   ·obtain ⟨b',k1,_,k3,k4,_⟩:=hob;rw[k1,v6] at he;subst he;simp only[bx.aG,v6] at hb;subst hb;exact World.putObj_heap_other (fun e=>by rw[e,hB.2] at k3;cases k3;cases k4)
   ·obtain ⟨b',es,ck,k1,_,k3,_⟩:=hob;rw[k1,v6] at he;subst he;cases hb;exact World.putObj_heap_other (fun e=>by rw[e,hB.2] at k3;cases k3)
   ·obtain ⟨r,b',es,ck,dK,se,la,k1,_,k3,_⟩:=hob;rw[k1,v6] at he;subst he;cases hb;exact World.putObj_heap_other (fun e=>by rw[e,hB.2] at k3;cases k3)
   ·obtain ⟨aG,k1,_,k3⟩:=hob;rw[k1,v6] at he;subst he;split at k3
    ·simp[bx.aG] at hb
    ·obtain ⟨cs,m,_,k5,_⟩:=k3;simp only[bx.aG,v6] at hb;subst hb;exact hne k5
def kQ(w:World)(D:aJ)(E:aN)(post:cd)(v:Value)(w':World):Prop :=
 ∃ D' E' r os',post r os'∧aR w' D' E' r v∧jd (fun b=>w.heap.size≤b∨bY E b) w' D' E' (aE os') ∧
  ez (fun b=>w.heap.size≤b∨bY E b) w w'∧(∀ b o,D b o→D' b o)∧(∀ b o,D' b o→b<w'.heap.size)∧(∀ b o,D' b o→b<w.heap.size→¬ bY E b→D b o) ∧
  (∀ n e,E n=some e→al os' n=true→∃ e',E' n=some e'∧e.fk e')∧fT w D w'
theorem aL.vn{P:Program}{n:Nat}{w:World}{D:aJ}{E:aN}{Y:Value→List I→List (Nat×ai)→cd→Prop}{qk:Option Nat}{dP:Option (List Deferred)}{A:ab}{a:Act}{w':World}{D':aJ}{E':aN}
  (hs:aL ⟨P,w,D,n,bY E,E,Y,qk,dP⟩ A a w' D' E') {os:List (Nat×ai)} (h1:∀ n x,aE os n=some x→A.o n=some x∧x.only (al os)=true∧x.ej=true) :
  ∃ D2 E2,gF true (A.j0 os) D' E' D2∧(∀ n,al os n=true→E2 n=E' n)∧(∀ n,al os n=false→E2 n=none)∧jd (fun b=>w.heap.size≤b∨bY E b) w' D2 E2 (aE os) ∧
   ez (fun b=>w.heap.size≤b∨bY E b) w w'∧(∀ b o,D b o→D2 b o)∧(∀ b o,D2 b o→b<w'.heap.size)∧(∀ b o,D2 b o→b<w.heap.size→¬ bY E b→D b o) ∧
   (∀ n e,E n=some e→al os n=true→∃ e',E2 n=some e'∧e.fk e')∧fT w D w':=by
 obtain ⟨c,hc⟩:∃ c:cn,c=⟨P,w,D,n,bY E,E,Y,qk,dP⟩:=⟨_,rfl⟩
 rw[←hc] at hs;have hM:c.ef=fun b=>w.heap.size≤b∨bY E b:=by rw[hc];rfl
 obtain ⟨E2,hE2⟩:∃ E2:aN,E2=fun n=>if al os n then E' n else none:=⟨_,rfl⟩
 obtain ⟨D2,hD2⟩:∃ D2:aJ,D2=fun b o=>b<w'.heap.size∧(D' b o∨(¬ bY E2 b∧c.ef b)):=⟨_,rfl⟩
 have e2:∀ n,al os n=true→E2 n=E' n:=fun n hn=>by rw[hE2];simp only[hn,if_true]
 have nS:∀ n e,E2 n=some e→al os n=true∧E' n=some e:=fun n e he=>by
  rw[hE2] at he;simp only at he;split at he
  ·exact ⟨by assumption,he⟩
  ·cases he
 have up2:∀ b o,D' b o→D2 b o:=fun b o hd=>by
  rw[hD2];exact ⟨hs.cO b o hd,.inl hd⟩
 have down:∀ b o,D2 b o→bY E2 b→D' b o:=fun b o hd hb=>by
  rw[hD2] at hd;rcases hd.2 with h | h
  ·exact h
  ·exact absurd hb h.1
 have hu:du (A.j0 os) A:=fun n x hx=>by
  simp only[ab.j0] at hx;split at hx
  ·cases hx
  ·exact hx
 have notOwn:∀ n e b,(A.j0 os).o n≠none→E' n=some e→e.aG=some b→¬ bY E2 b:=fun n e b hn he hb ho=>by
  obtain ⟨m,e',k1,k3⟩:=ho;obtain ⟨k1,k2⟩:=nS m e' k1;have:=hs.cz n m e _ b he k2 hb k3;subst this;simp[ab.j0,k1] at hn
 have hw:gF true (A.j0 os) D' E' D2:=by
  refine ⟨up2,fun n T sz es b cap hn ao o _ =>?_,fun _ n x b aK hn ao o _ =>?_,fun _ n ks vs b hn ao =>?_⟩
  ·rw[hD2];refine ⟨hs.fi ao rfl,.inr ⟨notOwn n _ b (by rw[hn];simp) ao rfl,?_⟩⟩;obtain ⟨aG,k1,k2,k3⟩:=hs.bQ (hu n _ hn);rw[ao] at k1;simp only[v6,bx.rw.injEq,and_true] at k1;subst k1;obtain ⟨_,_,_,k4,_⟩:=k3;exact k4
  ·rw[hD2];refine ⟨hs.fi ao rfl,.inr ⟨notOwn n _ b (by rw[hn];simp) ao rfl,?_⟩⟩;obtain ⟨b',cs,T,k1,k2,_⟩:=hs.box (hu n _ hn);rw[k1] at ao;simp only[v6,bx.aI.injEq] at ao;obtain ⟨rfl,_⟩:=ao;exact k2
  ·rw[hD2];refine ⟨hs.fi ao rfl,.inr ⟨notOwn n _ b (by rw[hn];simp) ao rfl,?_⟩⟩;obtain ⟨b',es,ck,k1,k2,_⟩:=hs.map (hu n _ hn);rw[k1] at ao;cases ao;exact k2
 have hst:fT w D w':=by
  have:=hs.ft;rw[hc] at this;exact this
 refine ⟨D2,E2,hw,e2,fun n hn=>by rw[hE2];simp[hn],⟨fun m =>?_,fun m m' e e' b g1 g2 g3 g4 =>?_⟩,?_,fun b o hd=>up2 b o (hs.cA b o (by rw[hc];exact hd)),fun b o hd=>by rw[hD2] at hd;exact hd.1,fun b o hd hlt hno =>?_,fun m e hm hin =>?_,hst⟩
 ·cases hx:aE os m with
  |none=>simp only[cJ];rw[hE2];simp[al,hx]
  |some x =>
   have hm:al os m=true:=by simp[al,hx]
   obtain ⟨k1,k2,k3⟩:=h1 m x hx;have ho:=hs.bB m;rw[k1] at ho;have hl2:dm w' D' E2 w' D2 E2:=⟨up2,fun _ _ _ _ h=>h,fun _ _ _ h=>h,fun _ aG l h=>⟨aG,l,h,Z7 _,fun _=>rfl⟩,fun _ _ h=>h,fun _ _ h=>h,fun _ _ _ _ h=>h⟩
   have nD:∀ e b,E' m=some e→e.aG=some b→∀ o,D2 b o→D' b o:=fun e b he hb o hd=>down b o hd ⟨m,e,(e2 m hm).trans he,hb⟩;cases x with
   |bQ T sz es =>
    obtain ⟨aG,q1,q2,q3⟩:=ho;refine ⟨aG,(e2 m hm).trans q1,q2,?_⟩;cases aG with
    |none=>exact q3
    |some bc =>
     obtain ⟨b,cap⟩:=bc;obtain ⟨cs,pre,rest,g1,g2,g3,g4,g5,g6,g7,g8⟩:=q3;exact ⟨cs,pre,rest,by rw[←hM];exact g1,g2,g3,aH.later hl2 _ _ (aH.dD e2 _ _ (by simpa[ai.only] using k2) g4),g5,g6,g7,fun o hd=>g8 o (nD _ b q1 rfl o hd)⟩
   |box y =>
    obtain ⟨b',cs,T,q1,q2,q3,q4,q5⟩:=ho;exact ⟨b',cs,T,(e2 m hm).trans q1,by rw[←hM];exact q2,q3,ae.later hl2 _ _ (ae.dD e2 _ _ (by simpa[ai.only] using k2) q4),fun o hd=>q5 o (nD _ b' q1 rfl o hd)⟩
   |c6 o =>
    obtain ⟨b',q1,q2,q3,q4,q5⟩:=ho;exact ⟨b',(e2 m hm).trans q1,by rw[←hM];exact q2,q3,q4,fun o hd=>q5 o (nD _ b' q1 rfl o hd)⟩
   |cg ks vs =>
    obtain ⟨b',es,ck,q1,q2,q3,q4,q5,q6,q7⟩:=ho;simp only[ai.only,Z0] at k2;exact ⟨b',es,ck,(e2 m hm).trans q1,by rw[←hM];exact q2,q3,q4,ar.later hl2 _ _ (ar.dD e2 _ _ k2.1 q5),ar.later hl2 _ _ (ar.dD e2 _ _ k2.2 q6),fun o hd=>q7 o (nD _ b' q1 rfl o hd)⟩
   |it ks vs left cur=>cases k3
   |dL T xs =>
    obtain ⟨aG,q1,q2,q3⟩:=ho;refine ⟨aG,(e2 m hm).trans q1,q2,?_⟩;cases aG with
    |none=>exact q3
    |some bc =>
     obtain ⟨b,cap⟩:=bc;obtain ⟨cs,r,g1,g2,g3,g4,g5,g6,g7⟩:=q3;exact ⟨cs,r,by rw[←hM];exact g1,g2,g3,g4,g5,g6,fun o hd=>g7 o (nD _ b q1 rfl o hd)⟩
 ·exact hs.cz m m' e e' b (nS m e g1).2 (nS m' e' g2).2 g3 g4
 ·rw[←hM];have:=hs.de;rw[hc] at this ⊢;exact this
 ·rw[hD2] at hd;have hnm:¬ c.ef b:=by
    rw[hM];rintro (h | h);· omega
    ·exact hno h
  rcases hd.2 with h | h
  ·have:=hs.cK b o h hnm;rw[hc] at this;exact this
  ·exact absurd h.2 hnm
 ·rw[e2 m hin];have ho:A.o m≠none:=by
   cases hx:aE os m with
   |none=>simp[al,hx] at hin
   |some x=>rw[(h1 m x hx).1];simp
  rcases hs.dw m e (by rw[hc];exact hm) with h | h
  ·have hob:=hs.bB m;cases hx:A.o m with
   |none=>exact absurd hx ho
   |some x=>rw[hx] at hob;exact absurd h (p7 hob)
  ·exact h
theorem aL.r7{P:Program}{n:Nat}{w:World}{D:aJ}{E:aN}{Y:Value→List I→List (Nat×ai)→cd→Prop}{dP:Option (List Deferred)}{rs:List bt}{post:cd}{fn:Func}{A:ab}{a:Act}{w':World}{D':aJ}{E':aN}
  (hs:aL ⟨P,w,D,n,bY E,E,Y,none,dP⟩ A a w' D' E') (hrs:fV P fn.results.toList=some rs) (h:iN rs post A):∃ v,(results fn a.tmps).run P w'=.ok v w'∧kQ w D E post v w':=by
 obtain ⟨os,xs,h1,h2,h3⟩:=h;obtain ⟨D2,E2,hw,e2,e2n,q1,q2,q3,q4,q5,q6⟩:=hs.vn h1;have hu:du (A.j0 os) A:=fun n x hx=>by
  simp only[ab.j0] at hx;split at hx
  ·cases hx
  ·exact hx
 obtain ⟨vs,k1,k2⟩:=wc hs hu (os:=os) (E':=E2) hw e2 e2n fn.results.toList rs xs hrs h2;have hres:(results fn a.tmps).run P w'=.ok (if h:vs.toArray.size=1 then vs.toArray[0] else .tuple vs.toArray) w':=by
  rw[YM,Sem.run_bind,Array.mapM_eq_mapM_toList,Sem.run_map,k1];rfl
 refine ⟨_,hres,D2,E2,jV xs,os,h3,?_,q1,q2,q3,q4,q5,q6⟩
 match xs,vs,k2 with
 | [x],vs,k2 =>
  simp only[ar] at k2;obtain ⟨v,rest,cs,rfl,q1,q2,rfl⟩:=k2;simpa[jV] using fB q1 q2
 | [],vs,k2 =>
  simp only[ar] at k2;subst k2;simp[jV,aR,ar]
 |x::y::xs,vs,k2 =>
  have hl:vs.length≠1:=by
   simp only[ar] at k2;obtain ⟨v,rest,cs,rfl,_,_,v2,rest2,cs2,rfl,_⟩:=k2;simp
  simp only[jV,aR];exact ⟨vs,by simp[hl],k2⟩
theorem BM{P:Program}{n:Nat}{w:World}{D:aJ}{E:aN}{Y:Value→List I→List (Nat×ai)→cd→Prop}{rs:List bt}{post:cd}{fn:Func}{A:ab}{D':aJ}{E':aN}(hrs:fV P fn.results.toList=some rs)(h:iN rs post A) :
  ∀ (ds:List Deferred) (a:Act) (w':World),a.defers=ds→aL ⟨P,w,D,n,bY E,E,Y,none,none⟩ A a w' D' E'→LeavesInM Fence.wide 9 P fn a.tmps (fun e w'=>∃ v,e=.returned v∧kQ w D E post v w') ds .returning w'
 | [],a,w',_,hs=>by
  obtain ⟨v,h1,h2⟩:=hs.r7 hrs h;exact ⟨v,h1,v,rfl,h2⟩
 |d::ds,a,w',hd,hs=>by
  obtain ⟨Bs,h1,_⟩:=hs.eb;rw[hd] at h1;cases Bs with
  |nil=>cases h1
  |cons B Bs =>
   simp only[Z3,zz9] at h1;obtain ⟨rfl,rfl⟩:=h1;obtain ⟨k1,k2⟩:=hs.zF rfl hd;exact ⟨by simp,.inl ⟨B,_,rfl,run_takeDeferred k1,BM hrs h _ { a with defers:=Bs.map _ } _ rfl k2⟩⟩
theorem qm{w:World}{D:aJ}{E:aN} : ∀ {args:List I} {vs:List Value},ar w D E args vs→vs.length=args.length
 | [],vs,h=>by simp only[ar] at h;subst h;rfl
 |x::xs,vs,h=>by
  simp only[ar] at h;obtain ⟨v,rest,cs,rfl,_,_,h3⟩:=h;simp[qm h3]
def jc(P:Program)(f:FuncId)(Y:Value→List I→List (Nat×ai)→cd→Prop)(args:List I)(os:List (Nat×ai))(post:cd):Prop :=
 dR P f=true∧∀ (w:World) (D:aJ) (E:aN) (vs:List Value),(∀ n,nG ⟨P,w,D,n,bY E,E,Y,none,none⟩)→(∀ b o,D b o→b<w.heap.size)→jd (fun _=>True) w D E (aE os)→ar w D E args vs →
  Calls P f vs.toArray w fun e w'=>∃ v,e=.returned v∧kQ w D E post v w'
theorem jc.sC{P:Program}{f:FuncId}{fn:Func}{body:Code}{x:bj}{rs:List bt}{Y:Value→List I→List (Nat×ai)→cd→Prop}{args:List I}{os:List (Nat×ai)}{post:cd}(hf:P.funcs[f]?=some fn)(hb:fn.body=some body)(hcall:dR P f=true)(hc:dQ P fn.ntmps body=some x)
  (hrs:fV P fn.results.toList=some rs) (hn:args.length≤fn.ntmps) (hos:∀ m,al os m=true→fn.ntmps≤m∧1000000≤m) (h:∀ (w:World) (D:aJ) (E:aN),U ⟨P,w,D,fn.ntmps,bY E,E,Y,none,none⟩ x (nd rs post) (nv args os)):jc P f Y args os post:=by
 refine ⟨hcall,fun w D E vs hy hD ho hv =>?_⟩;have hlen:=qm hv;have hsim:=wR (P:=P) (n:=fn.ntmps) (Y:=Y) hD ho hv (by omega) hos (hy fn.ntmps);refine (callsIn_wide (n:=9)).1 (callsIn_of_wp_marks hf hb trivial ?_);refine wpIn_mono (h w D E body hc _ w ⟨D,E,hsim⟩) ?_;rintro e a w' ⟨A,hq,D',E',hs⟩;cases e <;>simp only[nd] at hq <;>first
  |exact BM hrs hq a.defers a w' rfl hs
  |cases hq
theorem oS{P:Program}{w:World}{D:aJ}{E:aN}{n:Nat}{dP:Option (List Deferred)}(hl:eH P w (bY E)):nG ⟨P,w,D,n,bY E,E,fp,none,dP⟩:=⟨hl,fun _ _ _ _ h=>h.elim⟩
theorem eT.Cc{P:Program}{f:FuncId}{args:List I}{os:List (Nat×ai)}{post:cd}(h:jc P f fp args os post):eT P f args os post :=
 ⟨h.1,fun w D E vs hl hD ho hv=>(h.2 w D E vs (fun _=>oS hl) hD ho hv).mono fun e w' ⟨v,he,D',E',r,os',k⟩=>⟨v,D',E',r,os',he,k⟩⟩
theorem aQ.Cb{P:Program}{f:FuncId}{args:List I}{r:I}(h:eT P f args [] (fun r' os'=>r'=r∧os'=[])):aQ P f args r:=by
 refine ⟨h.1,fun w D vs hl hD hv =>?_⟩;have hh:jd (fun _=>True) w D cu (aE []):=⟨fun n=>rfl,fun n m e e' b h=>by simp[cu] at h⟩
 refine (h.2 w D cu vs (hl.r8 fun b ⟨n,e,h1,_⟩=>by simp[cu] at h1) hD hh hv).mono fun e w' hq =>?_;obtain ⟨v,D',E',r',os',he,⟨h1,h2⟩,k1,k2,k3,k4,k5,k6,_⟩:=hq;subst h1 h2;refine ⟨v,D',he,?_,?_,k5,fun b o hd hlt=>k6 b o hd hlt fun ⟨n,e,h,_⟩=>by simp[cu] at h⟩
 ·have:E'=cu:=by funext n;exact k2.bB n
  rw[←this];exact k1
 ·exact k3.GV fun k hk hm=>by
   rcases hm with hm | ⟨n,e,h,_⟩
   ·omega
   ·simp[cu] at h
theorem Y4(A:ab):A.j0 []=A:=rfl
theorem Eb{A:ab} : ∀ {rs:List bt} {xs:List I},er A rs=some xs→lz A (A.j0 []) [] rs xs
 | [],xs,h=>by simp only[er,v6] at h;subst h;trivial
 |r::rs,xs,h=>by
  simp only[er] at h;split at h
  ·rename_i x xs' h1 h2;simp only[v6] at h;subst h;refine ⟨?_,Eb h2⟩;rw[Y4];cases r with
   |tmp t=>exact ⟨_,rfl,.inr h1⟩
   |cell a s =>
    simp only[s7,mV] at h1 ⊢;split at h1
    ·rename_i y hy;split at h1
     ·rename_i hok;exact ⟨y,by simp[hok],.inr h1⟩
     ·cases h1
    ·cases h1
  ·cases h
theorem YO{rs:List bt}{r:I}{e:Exit}{A:ab}(h:iX rs r e A):nd rs (fun r' os'=>r'=r∧os'=[]) e A:=by
 cases e <;>simp only[iX] at h <;>first
  |exact h.elim
  |(obtain ⟨xs,h1,h2⟩:=h
    exact ⟨[],xs,fun n x hx=>by simp[aE] at hx,Eb h1,h2,rfl⟩)
theorem aQ.sC{P:Program}{f:FuncId}{fn:Func}{body:Code}{x:bj}{rs:List bt}{args:List I}{r:I}(hf:P.funcs[f]?=some fn)(hb:fn.body=some body)(hcall:dR P f=true)(hc:dQ P fn.ntmps body=some x)
  (hrs:fV P fn.results.toList=some rs) (hn:args.length≤fn.ntmps) (h:∀ (w:World) (D:aJ) (E:aN),U ⟨P,w,D,fn.ntmps,bY E,E,fp,none,none⟩ x (iX rs r) (nu args)):aQ P f args r:=by
 refine aQ.Cb (eT.Cc (jc.sC hf hb hcall hc hrs hn (fun m hm=>by simp[al,aE] at hm) fun w D E =>?_));exact (h w D E).mono fun e B hq=>YO hq
end Go.Abs
