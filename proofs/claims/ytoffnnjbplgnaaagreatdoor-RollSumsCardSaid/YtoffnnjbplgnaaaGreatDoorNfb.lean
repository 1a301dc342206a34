/-
  A part of the proof that the law RollSums returns true for every input; five variables of Go's library start as the text lays them (the card ties them); conditions: none beyond the statement's own. (part 2 of 6)
-/
import Derived.Lib.AppendZerosOnto
import Derived.Lib.Strings
import Derived.Maps.RangeRun
import Derived.Laws.MakeOwn
import Derived.Laws.BytesArg
import Derived.Lib.ConvBytes
import Derived.Lib.AtoiErrMem
import Derived.Orders
import Derived.OrdersIn
import Derived.Test.YtoffnnjbplgnaaaGreatDoorNfa
set_option linter.unusedSimpArgs false
set_option linter.unusedVariables false
set_option maxHeartbeats 16000000
set_option maxRecDepth 100000
namespace Go.Abs
open Go Go.RowKit
section
variable {c:ct} {A:ab} {o:Oper} {x:I}
theorem lM{P:Program}{w:World}(k:IntKind)(n:Int)(y:Nat)(code:BoundsCode)(g1:0≤n)(g2:n≤y):(Instr.sliceBound (.int k n) y code).run P w=.ok n.toNat w:=by
 simp[Instr.sliceBound,asIntOf,g1,g2]
theorem Vz{t e:TypeId}{y:Operand}{y':az}{lo hi mx:Option Operand}{lo' hi' mx':Option az}{i:TypeInfo}{fs:List I}{n:Nat}{p:List Nat}{sz l0 k:Nat}(ho:o.op=.slice t y lo hi mx)(hu:c.P.underlying t=some (.slice e))(hi0:c.P.info? e=some i)
  (hy:aU c.P 0 y=some y') (h1:hU c.P lo=some lo') (h2:hU c.P hi=some hi') (h3:hU c.P mx=some mx') (hmh:mx'.isSome=true→hi'.isSome=true) (hsz:sz=c.P.cellsOf e)
  (h:af A y'=.view n p sz l0 k) (hd:bW A (.ptr n p)=some (.agg fs)) (hx:iR n p sz l0 k fs.length (lo'.map (af A)) (hi'.map (af A)) (mx'.map (af A))=some x):cM c A o x :=
 .same fun a w D E hs=>by
  have opt:∀ {q:Option Operand} {q':Option az},hU c.P q=some q'→gX w D E (q'.map (af A)) (q.map a.eval):=by
   intro q q' hq;cases q with
   |none=>simp only[hU,v6] at hq;subst hq;simp[gX]
   |some z =>
    simp only[hU,t7] at hq;obtain ⟨z',hz,rfl⟩:=hq;simpa[gX] using bp hs hz
  have h0:=bp hs hy;rw[h] at h0;obtain ⟨yy,b,cs,T,off,c1,c2,c3,k1,k2,k3,k4,k5,k6,k7,k8,k9,k10,k11,k12,hval⟩:=hs.view h0 hd;have hmh':(mx'.map (af A)).isSome=true→(hi'.map (af A)).isSome=true:=by simpa using hmh
  unfold iR at hx;split at hx
  ·cases hx
  rename_i hh hbh;split at hx
  ·cases hx
  rename_i ll hbl;have d1:=qE (opt h1) hbl;have d2:=qE (opt h2) hbh;have o3:=opt h3;split at hx
  ·rename_i hmx;split at hx
   case isFalse=>cases hx
   rename_i hb;obtain ⟨b1,b2,b3⟩:=hb;have hvmx:mx.map a.eval=none:=by
    rw[hmx] at o3;cases hq:mx.map a.eval with
    |none=>rfl
    |some v=>rw[hq] at o3;simp[gX] at o3
   have hsb:(Instr.sliceBounds true k (fs.length-l0) (lo.map a.eval) (hi.map a.eval) (mx.map a.eval)).run c.P w=.ok (ll.toNat,hh.toNat,fs.length-l0) w:=by
    rw[hvmx];rcases d2 with ⟨_,g2,hm2⟩ | ⟨_,q2,g2⟩ <;>rcases d1 with ⟨_,g1,hm1⟩ | ⟨_,q1,g1⟩ <;>rw[g1,g2]
    ·subst hm1 hm2;simp[Instr.sliceBounds]
    ·subst hm2;simp[Instr.sliceBounds,lM q1 ll k _ b1 (by omega)]
    ·subst hm1;simp[Instr.sliceBounds,lM q2 hh (fs.length-l0) _ (by omega) (by omega)]
    ·simp[Instr.sliceBounds,lM q2 hh (fs.length-l0) _ (by omega) (by omega),lM q1 ll hh.toNat _ b1 (by omega)]
   have hrun:(Instr.sliceAt t (a.eval y) (lo.map a.eval) (hi.map a.eval) (mx.map a.eval)).run c.P w =
     .ok (.slice (if fs.length-l0=ll.toNat then some ⟨b,off+l0*sz,none⟩ else some ⟨b,off+l0*sz+ll.toNat*c.P.cellsOf e,none⟩) (hh.toNat-ll.toNat) (fs.length-l0-ll.toNat)) w:=by
    rw[hval];simp only[Instr.sliceAt,Instr.slice,Sem.run_bind,run_underlying hu,Result.andThen_ok,hsb,gK hi0,Sem.run_pure,zz0,lY]
   refine ⟨_,by simp only[execOp,ho,Sem.run_bind,hrun];rfl,?_⟩;split at hx
   ·rename_i hl;simp only[v6] at hx;subst hx;have e1:fs.length-l0=ll.toNat:=by omega
    have e2:hh.toNat-ll.toNat=0:=by omega
    rw[if_pos e1,e2,e1,Nat.sub_self];exact ⟨_,by simp[aZ,I.isAgg];rfl,by simp only[ae];exact ⟨_,rfl⟩⟩
   ·rename_i hl;simp only[v6] at hx;subst hx;rw[if_neg (by omega)];refine ⟨_,by simp[aZ,I.isAgg];rfl,?_⟩;simp only[ae];refine ⟨b,yy.aL,off,I.cK fs,k2,k5,lN p yy _ k4,?_,?_,?_,?_⟩
    ·rw[I.cL,Z2,Nat.add_mul,Nat.add_assoc,hsz,Nat.sub_sub]
    ·rw[I.cL,Z2];exact k12
    ·rw[I.cL,Z2];omega
    ·rw[I.cL];intro s hs';obtain ⟨f,hf,rfl⟩:=zy3.1 hs';rw[I.iy];exact k10 f hf
  ·rename_i kk m hmx;split at hx
   case isFalse=>cases hx
   rename_i hb;obtain ⟨b1,b2,b3,b4⟩:=hb;simp only[v6] at hx;subst hx;obtain ⟨vmx,hvmx,hvm⟩:∃ v,mx.map a.eval=some v∧v=.int kk m:=by
    rw[hmx] at o3;cases hq:mx.map a.eval with
    |none=>rw[hq] at o3;simp[gX] at o3
    |some v=>rw[hq] at o3;simp only[gX] at o3;exact ⟨v,rfl,(dq o3).1⟩
   subst hvm;have hsb:∃ r,(Instr.sliceBounds true k (fs.length-l0) (lo.map a.eval) (hi.map a.eval) (mx.map a.eval)).run c.P w=.ok r w:=by
    rw[hvmx];rcases d2 with ⟨g0,g2,hm2⟩ | ⟨_,q2,g2⟩
    ·rw[hmx,g0] at hmh';simp at hmh'
    ·rcases d1 with ⟨_,g1,hm1⟩ | ⟨_,q1,g1⟩ <;>rw[g1,g2]
     ·exact ⟨_,by simp[Instr.sliceBounds,lM kk m (fs.length-l0) _ (by omega) b4,lM q2 hh m.toNat _ (by omega) (by omega)];rfl⟩
     ·exact ⟨_,by simp[Instr.sliceBounds,lM kk m (fs.length-l0) _ (by omega) b4,lM q2 hh m.toNat _ (by omega) (by omega),lM q1 ll hh.toNat _ b1 (by omega)];rfl⟩
   obtain ⟨⟨r1,iL,tf⟩,hsb⟩:=hsb;have hrun:∃ v,(Instr.sliceAt t (a.eval y) (lo.map a.eval) (hi.map a.eval) (mx.map a.eval)).run c.P w=.ok v w:=by
    rw[hval];exact ⟨_,by simp only[Instr.sliceAt,Instr.slice,Sem.run_bind,run_underlying hu,Result.andThen_ok,hsb,gK hi0,Sem.run_pure,zz0];rfl⟩
   obtain ⟨v,hrun⟩:=hrun;exact ⟨v,by simp only[execOp,ho,Sem.run_bind,hrun];rfl,by simp[aR]⟩
  ·cases hx
theorem Vk{t e:TypeId}{y z:Operand}{y' z':az}{i:TypeInfo}{fs:List I}{n:Nat}{p:List Nat}{sz lo k:Nat}{kk:IntKind}{j:Int}(ho:o.op=.indexAddr t y z)(hu:c.P.underlying t=some (.slice e))(hi:c.P.info? e=some i)
  (hy:aU c.P 0 y=some y') (hz:aU c.P 0 z=some z') (hsz:sz=c.P.cellsOf e) (h:af A y'=.view n p sz lo k) (hd:bW A (.ptr n p)=some (.agg fs)) (h':af A z'=.int kk j) (hj:0≤j∧j<k):cM c A o (.ptr n (p++[lo+j.toNat])) :=
 .same fun a w D E hs=>by
  have h0:=bp hs hy;rw[h] at h0;have h1':=bp hs hz;rw[h'] at h1';obtain ⟨yy,b,cs,T,off,c1,c2,c3,k1,k2,k3,k4,k5,k6,k7,k8,k9,k10,k11,k12,hval⟩:=hs.view h0 hd;refine ⟨.pointer (some ⟨b,off+lo*sz+j.toNat*c.P.cellsOf e,none⟩),by simp only[execOp,ho,hval,(dq h1').1,Sem.run_bind,wY hu hi hj];rfl,?_⟩;refine ⟨_,by simp[aZ,I.isAgg];rfl,?_⟩;simp only[ae];refine ⟨b,yy.aL,off+(lo+j.toNat)*sz,k2,?_,by rw[Nat.add_mul,←Nat.add_assoc,hsz]⟩;have hl:lo+j.toNat<fs.length:=by omega
  rw[bR.sW p yy.aL off (lo+j.toNat) _ k5 (lN p yy _ k4) (by rw[I.cL];simpa using hl),I.cL,←List.map_take,←I.cL,I.lO,nH fs _ k10 (by omega)]
theorem vB{ty:TypeId}{y:Operand}{y':az}{n:Nat}{e:TypeId}(ho:o.op=.call { callee:=.builtin .cap,args := #[y],argTypes := #[ty] })(hu:c.P.underlying ty=some (.slice e))
  (hy:aU c.P ty y=some y') (h:∀ a w D E,aM c A a w D E→∀ v,aR w D E (af A y') v→n≤maxLen∧∃ ad l,v=.slice ad l n):cM c A o (.int .i64 n) :=
 .same fun a w D E hs=>by
  obtain ⟨h0,ad,l,hv⟩:=h a w D E hs _ (bp hs hy);exact ⟨.int .i64 n,by simp[execOp,ho,resolve,invoke,builtin,Builtin.cap_,run_underlying hu,hv,goInt],ik (vY h0)⟩
theorem U7{t e:TypeId}{i:TypeInfo}(ho:o.op=.buildSlice t 0 #[])(hu:c.P.underlying t=some (.slice e))(hi:c.P.info? e=some i):cM c A o (.c0 (c.P.cellsOf e)):=by
 intro a w D E hs;have hs':=hs.newRow (.cells #[] e);refine ⟨.slice (some ⟨w.heap.size,0,none⟩) 0 0,_,_,?_,hs',⟨_,by simp[aZ,I.isAgg];rfl,by simp only[ae];exact ⟨_,rfl⟩⟩⟩;simp[execOp,ho,Instr.buildSlice,run_underlying hu,gK hi,newRow,Instr.fill,show (Array.range 0) = #[] from rfl]
theorem WW{neg:Bool}{t e:TypeId}{y z:Operand}{y':az}{yt:TypeId}{s:Nat}(ho:o.op=.binOp (if neg then .neq else .eql) t y z yt)(hu:c.P.underlying t=some (.slice e))(hy:aU c.P 0 y=some y')(hz:aU c.P 0 z=some (.c (.nils s)))
  (h:∃ sz,af A y'=.slice sz []∨af A y'=.c0 sz) {a:Act} {w:World} {D:aK} {E:aN} (hs:aM c A a w D E):∃ b,(execOp a.eval o).run c.P w=.ok (.value (.bool b)) w:=by
 have h0:=bp hs hy;have h1:aR w D E (.nils s) (a.eval z):=bp hs hz;have hv:∃ ad cp,a.eval y=.slice ad 0 cp:=by
  obtain ⟨sz,h | h⟩:=h <;>rw[h] at h0
  ·obtain ⟨ad,cap,e1,_⟩:=kR h0;exact ⟨ad,cap,by simpa using e1⟩
  ·obtain ⟨cs,q1,q2⟩:=h0;simp only[ae] at q2;obtain ⟨ad,q2⟩:=q2;exact ⟨ad,0,by simpa[aZ,I.isAgg,q2] using q1.symm⟩
 obtain ⟨ad,cp,hyv⟩:=hv;have hv:a.eval z=.slice none 0 0:=by
  obtain ⟨cs,q1,q2⟩:=h1;simp only[ae] at q2;simpa[aZ,I.isAgg,q2] using q1.symm
 have he:∀ d,(Op.equalIn (d+1) t (.slice ad 0 cp) (.slice none 0 0)).run c.P w=.ok ad.isNone w:=fun d=>by
  cases ad <;>simp[Op.equalIn,run_underlying hu]
 refine ⟨if neg then !ad.isNone else ad.isNone,?_⟩;cases neg <;>simp only[execOp,ho,hyv,hv,if_true,Z6,if_false,Sem.run_bind,eqGuard] <;>simp[binOp,Op.equal,Op.maxDepth,he]
def iw(y:I)(p:List Nat)(j:Nat)(fs ys:List I):I:=y.du p (.agg (fs.take j++(ys++fs.drop (j+ys.length))))
theorem L0{t e:TypeId}{y:Operand}{y':az}{z:I}{n:Nat}{p:List Nat}{lo k:Nat}{b:I}{fs:List I}(ho:o.op=.call { callee:=.builtin .clear,args := #[y],argTypes := #[t] })(hu:c.P.underlying t=some (.slice e))(hy:aU c.P t y=some y')
  (hz:fG c.P e=some z) (hv:af A y'=.view n p (c.P.cellsOf e) lo k) (hn:A.o n=some (.box b)) (hat:b.at p=some (.agg fs)) (hsh:I.cK (List.replicate k z)=I.cK ((fs.drop lo).take k)) (hd:o.dst=none) :
  gz c A o (A.aQ n (.box (iw b p lo fs (List.replicate k z)))):=by
 intro a w D E hs;obtain ⟨i,zv,hi,hzv,hzr⟩:=kW hz;have h0:=bp hs hy;rw[hv] at h0;have hx:bW A (.ptr n p)=some (.agg fs):=by simp only[bW,hn,hat]
 obtain ⟨yy,bk,cs,T,off,c1,c2,c3,k1,k2,k3,k4,k5,k6,k7,k8,k9,k10,k11,k12,hval⟩:=hs.view h0 hx;rw[hn] at k1;simp only[v6,ai.box.injEq] at k1;subst k1;have hr:aC w D E (List.replicate k z) (Builtin.zeroCells zv.cells k).toList:=by
  rw[tW];exact qJ (hzr w D E) k
 obtain ⟨w',h1,h2⟩:=hs.iw (j:=lo) (ys:=List.replicate k z) hn k2 k3 k4 k5 k6 k7 k8 k9 k10 hr (by simpa using k11) (by simpa using hsh) c.P;cases k with
 |zero =>
  refine ⟨w,.inl ⟨.tuple #[],?_,D,E,?_⟩⟩
  ·simp[execOp,ho,resolve,invoke,builtin,Builtin.clear_,run_underlying hu,hval]
  ·rw[hd];have:iw b p lo fs (List.replicate 0 z)=b.du p (.agg fs):=by simp[iw]
   have hw:w'=w:=by
    simp[Builtin.zeroCells,storeCells] at h1;exact h1.symm
   rw[hw] at h2;exact h2
 |succ k =>
  refine ⟨w',.inl ⟨.tuple #[],?_,D,E,?_⟩⟩
  ·simp[execOp,ho,resolve,invoke,builtin,Builtin.clear_,run_underlying hu,hval,zeroValue,typeInfo,hi,hzv,h1]
  ·rw[hd];exact h2
theorem Ec{w:World}{D:aK}{E:aN} : ∀ l:List UInt8,aC w D E (l.map fun b=>I.int .u8 b.toNat) (l.map fun b=>Value.int .u8 b.toNat)
 | []=>rfl
 |b::l=>by
  simp only[Z3,aC];refine ⟨[.int .u8 b.toNat],_,rfl,?_,Ec l⟩;simp only[ae,true_and];have:=b.toNat_lt;simp[IntKind.min,IntKind.max,IntKind.bits,IntKind.signed];omega
theorem aM.Fg{a:Act}{w:World}{D:aK}{E:aN}(hsim:aM c A a w D E){sz:Nat}{x:I}{v:Value}{ys:List I}(hv:aR w D E x v)(hs:kc A sz x=some ys) :
  ∃ news:List Value,aC w D E ys news∧(∀ y∈ys,y.size=sz)∧ys.length≤maxLen∧(∀ P:Program,(Builtin.lenOf v).run P w=.ok ys.length w)∧∀ (P:Program) (m:Nat) (d2 rest:List Value),m≤ys.length→news=d2++rest→d2.length=m*sz→(Builtin.firstCells sz m v).run P w=.ok d2.toArray w:=by
 unfold kc at hs;split at hs
 ·rename_i s;split at hs
  case isFalse=>cases hs
  rename_i h1;subst h1;simp only[v6] at hs;subst hs;obtain ⟨rfl,hsz⟩:=gh hv;refine ⟨s.data.toList.map fun b=>.int .u8 b.toNat,Ec _,?_,by simpa using hsz,fun P=>by simp[Builtin.lenOf],fun P m d2 rest hm e hl =>?_⟩
  ·intro y hy;obtain ⟨b,_,rfl⟩:=zy3.1 hy;simp[I.size]
  ·have e2:d2=(s.data.toList.map fun b=>Value.int .u8 b.toNat).take m:=by rw[e,List.take_left' (by omega)]
   have e3:=Lib.extract_data s 0 m;simp only[Builtin.firstCells,Sem.run_pure]
   congr 1
   apply Array.ext';rw[e2,Array.toList_map,e3];simp
 ·obtain ⟨ad,cp,news,s1,s2,s3,s4,s5,s6⟩:=hsim.lR hv hs;refine ⟨news,s4,s5,by omega,fun P=>by rw[s1];simp[Builtin.lenOf],fun P m d2 rest hm e hl =>?_⟩;rw[s1];by_cases hm0:m=0
  ·have:d2=[]:=zx4 (by rw[hl,hm0];simp);subst this;cases ad with
   |none=>exact run_firstCells_none _ _ _ _ _
   |some ad=>exact run_firstCells_some w sz m ad ys.length cp [] (by simp[hm0]) (by simp)
  ·obtain ⟨b2,o2,rfl,hr⟩:=s6 (fun h=>by rw[h] at hm;simp at hm;omega);refine run_firstCells_some w sz m _ ys.length cp d2 hl fun j v hj =>?_;rw[Addr.add_lit];refine hr j v ?_;rw[e,zz9 (Z7.1 hj).1];exact hj
theorem L1{t t' e:TypeId}{y x:Operand}{y' x':az}{n:Nat}{p:List Nat}{lo k m:Nat}{b:I}{fs ys:List I}(ho:o.op=.call { callee:=.builtin .copy,args := #[y,x],argTypes := #[t,t'] })(hu:c.P.underlying t=some (.slice e))(hi:(c.P.info? e).isSome=true)
  (hy:aU c.P t y=some y') (hx:aU c.P t' x=some x') (hv:af A y'=.view n p (c.P.cellsOf e) lo k) (hn:A.o n=some (.box b)) (hat:b.at p=some (.agg fs)) (hs:kc A (c.P.cellsOf e) (af A x')=some ys) (hm:m=min ys.length k)
  (hsh:I.cK (ys.take m)=I.cK ((fs.drop lo).take m)) (hdn:∀ k,o.dst=some k→k<c.n) :
  gz c A o ((A.aQ n (.box (iw b p lo fs (ys.take m)))).aP o.dst (.int .i64 m)):=by
 intro a w D E hsim;obtain ⟨i,hi⟩:=zz8.1 hi;have h0:=bp hsim hy;rw[hv] at h0;have hxx:bW A (.ptr n p)=some (.agg fs):=by simp only[bW,hn,hat]
 obtain ⟨yy,bk,cs,T,off,c1,c2,c3,k1,k2,k3,k4,k5,k6,k7,k8,k9,k10,k11,k12,hval⟩:=hsim.view h0 hxx;rw[hn] at k1;simp only[v6,ai.box.injEq] at k1;subst k1;obtain ⟨news,s4,s5,s3,s1,s6⟩:=hsim.Fg (bp hsim hx) hs;have hmy:m≤ys.length:=by omega
 have hci:c.P.cellsOf e=i.size:=by simp[Program.cellsOf,hi]
 obtain ⟨d1,d2,d3,e1,e2,e3,e4⟩:=tl s4 s5 0 m (by omega);simp only[Nat.zero_mul,List.drop_zero] at e2 e3;have e2':d1=[]:=zx4 e2;subst e2';simp only[zz3] at e1;have hlen:(ys.take m).length=m:=by rw[zz1];omega
 have hd2:d2.length=m*i.size:=by rw[aC.length _ _ e3,I.gx (sz:=c.P.cellsOf e) _ (fun y hy=>s5 y (List.mem_of_mem_take hy)),hlen,hci]
 obtain ⟨w',h1,h2⟩:=hsim.iw (j:=lo) (ys:=ys.take m) hn k2 k3 k4 k5 k6 k7 k8 k9 k10 e3 (by rw[hlen];omega) (by rw[hlen];exact hsh) c.P;have hf:=s6 c.P m d2 d3 hmy e1 (by rw[hd2,hci]);have h63:m≤maxLen:=by omega
 refine ⟨w',.inl ⟨.int .i64 m,?_,D,E,h2.aP hdn (ik (vY h63))⟩⟩;have hmin:Nat.min ys.length k=m:=hm.symm;have hlo:=s1 c.P;simp only[execOp,ho,resolve,invoke,builtin,Sem.run_bind,Sem.run_pure,Result.andThen_ok,List.map_toArray,Z3,zz6,hval];simp[Builtin.copy_,run_underlying hu,hlo,hmin,gK hi,hf,h1,goInt]
theorem L2{t t' e:TypeId}{y x:Operand}{y' x':az}{z0:Nat}{ys:List I}(ho:o.op=.call { callee:=.builtin .copy,args := #[y,x],argTypes := #[t,t'] })(hu:c.P.underlying t=some (.slice e))(hi:(c.P.info? e).isSome=true)
  (hy:aU c.P t y=some y') (hx:aU c.P t' x=some x') (hv:af A y'=.c0 z0) (hs:kc A (c.P.cellsOf e) (af A x')=some ys) (hdn:∀ k,o.dst=some k→k<c.n) :
  gz c A o (A.aP o.dst (.int .i64 0)):=by
 intro a w D E hsim;obtain ⟨i,hi⟩:=zz8.1 hi;have h0:=bp hsim hy;rw[hv] at h0;obtain ⟨cs,q1,q2⟩:=h0;simp only[ae] at q2;obtain ⟨ad,q2⟩:=q2;have hval:a.eval y=.slice ad 0 0:=by simpa[aZ,I.isAgg,q2] using q1.symm
 obtain ⟨news,s4,s5,s3,s1,s6⟩:=hsim.Fg (bp hsim hx) hs;have hf:=s6 c.P 0 [] news (by omega) (by simp) (by simp);have hlo:=s1 c.P;refine ⟨w,.inl ⟨.int .i64 0,?_,D,E,hsim.aP hdn (ik ⟨by decide,by decide⟩)⟩⟩;have hmin:Nat.min ys.length 0=0:=Nat.min_eq_right (by omega);simp only[execOp,ho,resolve,invoke,builtin,Sem.run_bind,Sem.run_pure,Result.andThen_ok,List.map_toArray,Z3,zz6,hval];cases ad <;>simp[Builtin.copy_,run_underlying hu,hlo,gK hi,hf,goInt,storeCells]
theorem n5{a:Act}{w:World}{D:aK}{E:aN}(hs:aM c A a w D E){sz:Nat}{x:I}{v:Value}{es:List I}(hv:aR w D E x v)(he:cW A sz x=some es) :
  ∃ ad cp olds,v=.slice ad es.length cp∧es.length≤cp∧cp≤maxLen∧aC w D E es olds∧(∀ y∈es,y.size=sz)∧∀ (P:Program) (w':World),(∀ p u,w.cell? p=some u→w'.cell? p=some u)→(Builtin.firstCells sz es.length v).run P w'=.ok olds.toArray w':=by
 obtain ⟨ad,cp,news,s1,s2,s3,s4,s5,s6⟩:=hs.lR hv he;refine ⟨ad,cp,news,s1,s2,s3,s4,s5,fun P w' hw =>?_⟩;have hl:news.length=es.length*sz:=by rw[aC.length _ _ s4,I.gx _ s5]
 rw[s1];by_cases h0:es=[]
 ·subst h0;have:news=[]:=zx4 (by rw[hl];simp);subst this;cases ad with
  |none=>exact run_firstCells_none _ _ _ _ _
  |some ad=>exact run_firstCells_some w' sz _ ad _ cp [] (by simp) (by simp)
 ·obtain ⟨b,o',rfl,hr⟩:=s6 h0;exact run_firstCells_some w' sz _ _ _ cp news hl fun j v hj=>by rw[Addr.add_lit];exact hw _ _ (hr j v hj)
theorem GW{t e:TypeId}{s x:Operand}{s' x':az}{es ys:List I}{z:I}{d:Nat}(ho:o.op=.call { callee:=.builtin .append,args := #[s,x],argTypes := #[t,t] })(hu:c.P.underlying t=some (.slice e))(hs':aU c.P t s=some s')(hx':aU c.P t x=some x')
  (hz:fG c.P e=some z) (hzs:z.size=c.P.cellsOf e) (hse:cW A (c.P.cellsOf e) (af A s')=some es) (hsx:cW A (c.P.cellsOf e) (af A x')=some ys) (hby:(es.length+ys.length)*c.P.bytesOf e≤140737488355328)
  (hd:o.dst=some d) (hdn:d<c.n) (hf:A.o d=none) (hne:ys≠[]) {a:Act} {w:World} {D:aK} {E:aN} (hsim:aM c A a w D E) (hfull:∀ ad l cp,a.eval s=.slice ad l cp→cp<l+ys.length) (hml:es.length+ys.length≤maxLen) :
  ∃ v w' m,(execOp a.eval o).run c.P w=.ok (.value v) w'∧es.length+ys.length+m≤maxLen ∧
   bD c ((A.aQ d (.box (.agg (es++(ys++List.replicate m z))))).aP o.dst (.view d [] (c.P.cellsOf e) 0 (es.length+ys.length))) (a.put o.dst v) w':=by
 obtain ⟨i,zv,hi,hzv,hzr⟩:=kW hz;have hci:c.P.cellsOf e=i.size:=by simp[Program.cellsOf,hi]
 have hbi:c.P.bytesOf e=i.bytes:=by simp[Program.bytesOf,hi]
 obtain ⟨ad1,cp1,olds,s1,s2,s3,s4,s5,s6⟩:=n5 hsim (bp hsim hs') hse;obtain ⟨ad2,cp2,news,t1,t2,t3,t4,t5,t6⟩:=n5 hsim (bp hsim hx') hsx;have hlt:=hfull _ _ _ s1;obtain ⟨m,hm⟩:∃ m,m=grownCap w (es.length+ys.length) cp1 e-(es.length+ys.length):=⟨_,rfl⟩
 have hge:=grownCap_ge w (es.length+ys.length) cp1 e;have hle:=grownCap_le_maxLen w (es.length+ys.length) cp1 e hml;obtain ⟨cells,hcells⟩:∃ cells:Array Value,cells=olds.toArray++news.toArray++Builtin.zeroCells zv.cells m:=⟨_,rfl⟩
 have hrun:(Builtin.append_ #[t,t] o.type #[a.eval s,a.eval x]).run c.P w=.ok (.slice (some ⟨w.heap.size,0,none⟩) (es.length+ys.length) (grownCap w (es.length+ys.length) cp1 e)) (w.drew.alloc (.cells cells e)):=by
  have hn:¬ (es.length+ys.length≤cp1):=by omega
  have h63:¬ (9223372036854775807<((es.length:Int)+(ys.length:Int))):=by simp only[maxLen] at hml;omega
  have h48:¬ (281474976710656<Builtin.nextslicecap (es.length+ys.length) cp1*i.bytes):=by
   have h3:(es.length+ys.length)*i.bytes≤140737488355328:=by rw[←hbi];exact hby
   have:=growslice_fits hlt h3;omega
  have g1:=s6 c.P w.drew (fun _ _ h=>h);have g2:=t6 c.P w.drew (fun _ _ h=>h);rw[s1,hci] at g1;rw[t1,hci] at g2;rw[s1,t1,hcells,hm];simp[Builtin.append_,run_underlying hu,sizeOf,typeInfo,zeroValue,hi,hzv,Builtin.lenOf,hn,h63,h48,Question.forced,g1,g2,newRow,grownCap]
  congr 2
  apply Array.ext';simp[Z9]
 have hcl:cells.toList=olds++(news++(List.replicate m zv.cells.toList).flatten):=by
  rw[hcells];simp[tW]
 have hrc:ae w D E (.agg (es++(ys++List.replicate m z))) cells.toList:=by
  rw[hcl];simp only[ae];exact jd _ _ _ _ s4 (jd _ _ _ _ t4 (qJ (hzr w D E) m))
 have hsim':aM c A a w.drew D E:=hsim.grow ⟨rfl,rfl,rfl,Z4 _,fun _ _=>rfl⟩ (fun _ _ h=>h) (fun _ _ h _=>h) (fun b o h=>hsim.cN b o h);have hrc':ae w.drew D E (.agg (es++(ys++List.replicate m z))) cells.toList:=ae.later (w:=w) (w':=w.drew) (D:=D) (E:=E) ⟨fun _ _ h=>h,fun _ _ _ _ h=>h,fun _ _ _ h=>h,fun _ aB l h=>⟨aB,l,h,Z4 _,fun _=>rfl⟩,fun _ _ h=>h,fun _ _ h=>h,fun _ _ _ _ h=>h⟩ _ _ hrc;have h1:=hsim'.qy (T:=e) (.inl hdn) hf hrc';have hall:∀ y∈es++(ys++List.replicate m z),y.size=c.P.cellsOf e:=by
  intro y hy;rcases zy0.1 hy with hy | hy
  ·exact s5 y hy
  ·rcases zy0.1 hy with hy | hy
   ·exact t5 y hy
   ·rw[List.eq_of_mem_replicate hy];exact hzs
 have hlen:(es++(ys++List.replicate m z)).length=es.length+ys.length+m:=by simp[Nat.add_assoc]
 have h2:=h1.put (d:=d) (x:=.view d [] (c.P.cellsOf e) 0 (es.length+ys.length)) (v:=.slice (some ⟨w.heap.size,0,none⟩) (es.length+ys.length) (grownCap w (es.length+ys.length) cp1 e)) hdn ⟨_,by simp[aZ,I.isAgg];rfl,by
  simp only[ae,if_true];refine ⟨w.heap.size,(I.agg (es++(ys++List.replicate m z))).aL,0,I.cK (es++(ys++List.replicate m z)),rfl,by cases (I.agg (es++(ys++List.replicate m z))).aL <;>simp[bR.off],by simp only[I.aL,bR.part],?_,?_,?_,?_⟩
  ·rw[I.cL,Z2,hlen,hm];simp;omega
  ·rw[I.cL,Z2,hlen];omega
  ·rw[I.cL,Z2,hlen];omega
  ·rw[I.cL];intro s hs;obtain ⟨f,hf,rfl⟩:=zy3.1 hs;rw[I.iy];exact hall f hf⟩
 refine ⟨.slice (some ⟨w.heap.size,0,none⟩) (es.length+ys.length) (grownCap w (es.length+ys.length) cp1 e),w.drew.alloc (.cells cells e),m,?_,by omega,?_⟩
 ·unfold execOp;simp only[ho,resolve,invoke,builtin,Sem.run_bind,Sem.run_pure,Result.andThen_ok,List.map_toArray,Z3,zz6,hrun]
 ·rw[hd];exact ⟨D,_,h2⟩
theorem GY{t t' e:TypeId}{s x:Operand}{s' x':az}{es:List I}{k:Nat}{kx kt:IntKind}{bq:Int}{z:I}{d:Nat}(ho:o.op=.call { callee:=.builtin .append,args := #[s,x],argTypes := #[t,t'] })(hu:c.P.underlying t=some (.slice e))(hs':aU c.P t s=some s')(hx':aU c.P t' x=some x')(ht':c.P.underlying t'=some (.int kt))(hvx:af A x'=.int kx bq)(hk:bq.toNat=k)(hk0:0<k)(hpos:0<c.P.cellsOf e)
  (hz:fG c.P e=some z) (hzs:z.size=c.P.cellsOf e) (hse:cW A (c.P.cellsOf e) (af A s')=some es) (hby:(es.length+k)*c.P.bytesOf e≤140737488355328)
  (hd:o.dst=some d) (hdn:d<c.n) (hf:A.o d=none) {a:Act} {w:World} {D:aK} {E:aN} (hsim:aM c A a w D E) (hfull:∀ ad l cp,a.eval s=.slice ad l cp→cp<l+k) (hml:es.length+k≤maxLen) :
  ∃ v w' m,(execOp a.eval o).run c.P w=.ok (.value v) w'∧es.length+k+m≤maxLen ∧
   bD c ((A.aQ d (.box (.agg (es++(List.replicate k z++List.replicate m z))))).aP o.dst (.view d [] (c.P.cellsOf e) 0 (es.length+k))) (a.put o.dst v) w':=by
 obtain ⟨i,zv,hi,hzv,hzr⟩:=kW hz;have hci:c.P.cellsOf e=i.size:=by simp[Program.cellsOf,hi]
 have hbi:c.P.bytesOf e=i.bytes:=by simp[Program.bytesOf,hi]
 obtain ⟨ad1,cp1,olds,s1,s2,s3,s4,s5,s6⟩:=n5 hsim (bp hsim hs') hse;have v2:=bp hsim hx';rw[hvx] at v2;have t1:a.eval x=.int kx ((k:Nat):Int):=by rw[(dq v2).1];congr 1;omega
 have t4:aC w D E (List.replicate k z) (List.replicate k zv.cells.toList).flatten:=qJ (hzr w D E) k;have t5:∀ y∈List.replicate k z,y.size=c.P.cellsOf e:=fun y hy=>by rw[List.eq_of_mem_replicate hy];exact hzs
 have hlt:=hfull _ _ _ s1;obtain ⟨m,hm⟩:∃ m,m=grownCap w (es.length+k) cp1 e-(es.length+k):=⟨_,rfl⟩
 have hge:=grownCap_ge w (es.length+k) cp1 e;have hle:=grownCap_le_maxLen w (es.length+k) cp1 e hml;obtain ⟨cells,hcells⟩:∃ cells:Array Value,cells=olds.toArray++Builtin.zeroCells zv.cells k++Builtin.zeroCells zv.cells m:=⟨_,rfl⟩
 have hrun:(Builtin.append_ #[t,t'] o.type #[a.eval s,a.eval x]).run c.P w=.ok (.slice (some ⟨w.heap.size,0,none⟩) (es.length+k) (grownCap w (es.length+k) cp1 e)) (w.drew.alloc (.cells cells e)):=by
  have h3:(es.length+k)*i.bytes≤140737488355328:=by rw[←hbi];exact hby
  have g1:=s6 c.P w.drew (fun _ _ h=>h);rw[s1,hci] at g1;have hfit:=growslice_fits hlt h3;have hkb:k*i.bytes≤(es.length+k)*i.bytes:=Nat.mul_le_mul_right _ (by omega);rw[s1,t1,hcells,hm];exact Lib.run_append_grow_zeros w t t' o.type e i zv kx kt hu ht' hi hzv ad1 es.length cp1 olds g1 k hk0 (by rw[←hci];exact hpos) hlt (by simp only[maxLen] at hml;omega) (by omega) (by omega)
 have hcl:cells.toList=olds++((List.replicate k zv.cells.toList).flatten++(List.replicate m zv.cells.toList).flatten):=by
  rw[hcells];simp[tW]
 have hrc:ae w D E (.agg (es++(List.replicate k z++List.replicate m z))) cells.toList:=by
  rw[hcl];simp only[ae];exact jd _ _ _ _ s4 (jd _ _ _ _ t4 (qJ (hzr w D E) m))
 have hsim':aM c A a w.drew D E:=hsim.grow ⟨rfl,rfl,rfl,Z4 _,fun _ _=>rfl⟩ (fun _ _ h=>h) (fun _ _ h _=>h) (fun b o h=>hsim.cN b o h);have hrc':ae w.drew D E (.agg (es++(List.replicate k z++List.replicate m z))) cells.toList:=ae.later (w:=w) (w':=w.drew) (D:=D) (E:=E) ⟨fun _ _ h=>h,fun _ _ _ _ h=>h,fun _ _ _ h=>h,fun _ aB l h=>⟨aB,l,h,Z4 _,fun _=>rfl⟩,fun _ _ h=>h,fun _ _ h=>h,fun _ _ _ _ h=>h⟩ _ _ hrc;have h1:=hsim'.qy (T:=e) (.inl hdn) hf hrc';have hall:∀ y∈es++(List.replicate k z++List.replicate m z),y.size=c.P.cellsOf e:=by
  intro y hy;rcases zy0.1 hy with hy | hy
  ·exact s5 y hy
  ·rcases zy0.1 hy with hy | hy
   ·exact t5 y hy
   ·rw[List.eq_of_mem_replicate hy];exact hzs
 have hlen:(es++(List.replicate k z++List.replicate m z)).length=es.length+k+m:=by simp[Nat.add_assoc]
 have h2:=h1.put (d:=d) (x:=.view d [] (c.P.cellsOf e) 0 (es.length+k)) (v:=.slice (some ⟨w.heap.size,0,none⟩) (es.length+k) (grownCap w (es.length+k) cp1 e)) hdn ⟨_,by simp[aZ,I.isAgg];rfl,by
  simp only[ae,if_true];refine ⟨w.heap.size,(I.agg (es++(List.replicate k z++List.replicate m z))).aL,0,I.cK (es++(List.replicate k z++List.replicate m z)),rfl,by cases (I.agg (es++(List.replicate k z++List.replicate m z))).aL <;>simp[bR.off],by simp only[I.aL,bR.part],?_,?_,?_,?_⟩
  ·rw[I.cL,Z2,hlen,hm];simp;omega
  ·rw[I.cL,Z2,hlen];omega
  ·rw[I.cL,Z2,hlen];omega
  ·rw[I.cL];intro s hs;obtain ⟨f,hf,rfl⟩:=zy3.1 hs;rw[I.iy];exact hall f hf⟩
 refine ⟨.slice (some ⟨w.heap.size,0,none⟩) (es.length+k) (grownCap w (es.length+k) cp1 e),w.drew.alloc (.cells cells e),m,?_,by omega,?_⟩
 ·unfold execOp;simp only[ho,resolve,invoke,builtin,Sem.run_bind,Sem.run_pure,Result.andThen_ok,List.map_toArray,Z3,zz6,hrun]
 ·rw[hd];exact ⟨D,_,h2⟩
theorem LX{t e:TypeId}{s x:Operand}{s' x':az}{ys:List I}{n:Nat}{p:List Nat}{lo k:Nat}{b:I}{fs:List I}(ho:o.op=.call { callee:=.builtin .append,args := #[s,x],argTypes := #[t,t] })(hu:c.P.underlying t=some (.slice e))(hi:(c.P.info? e).isSome=true)
  (hs':aU c.P t s=some s') (hx':aU c.P t x=some x') (hv:af A s'=.view n p (c.P.cellsOf e) lo k) (hn:A.o n=some (.box b)) (hat:b.at p=some (.agg fs)) (hsx:cW A (c.P.cellsOf e) (af A x')=some ys) (hroom:lo+k+ys.length≤fs.length)
  (hsh:I.cK ys=I.cK ((fs.drop (lo+k)).take ys.length)) (hdn:∀ k,o.dst=some k→k<c.n) :
  gz c A o ((A.aQ n (.box (iw b p (lo+k) fs ys))).aP o.dst (.view n p (c.P.cellsOf e) lo (k+ys.length))):=by
 intro a w D E hsim;obtain ⟨i,hi⟩:=zz8.1 hi;have hci:c.P.cellsOf e=i.size:=by simp[Program.cellsOf,hi]
 have h0:=bp hsim hs';rw[hv] at h0;have hxx:bW A (.ptr n p)=some (.agg fs):=by simp only[bW,hn,hat]
 obtain ⟨yy,bk,cs,T,off,c1,c2,c3,k1,k2,k3,k4,k5,k6,k7,k8,k9,k10,k11,k12,hval⟩:=hsim.view h0 hxx;rw[hn] at k1;simp only[v6,ai.box.injEq] at k1;subst k1;obtain ⟨ad2,cp2,news,t1,t2,t3,t4,t5,t6⟩:=n5 hsim (bp hsim hx') hsx;obtain ⟨w',h1,h2⟩:=hsim.iw (j:=lo+k) (ys:=ys) hn k2 k3 k4 k5 k6 k7 k8 k9 k10 t4 hroom hsh c.P;have g2:=t6 c.P w (fun _ _ h=>h);rw[t1,hci] at g2;have hr:k+ys.length≤fs.length-lo:=by omega
 refine ⟨w',.inl ⟨.slice (some ⟨bk,off+lo*c.P.cellsOf e,none⟩) (k+ys.length) (fs.length-lo),?_,D,E,h2.aP hdn ?_⟩⟩
 ·have e1:off+lo*i.size+k*i.size=off+(lo+k)*c.P.cellsOf e:=by rw[hci,Nat.add_mul];omega
  unfold execOp;simp only[ho,resolve,invoke,builtin,Sem.run_bind,Sem.run_pure,Result.andThen_ok,List.map_toArray,Z3,zz6,hval,t1];simp[Builtin.append_,run_underlying hu,sizeOf,typeInfo,hi,Builtin.lenOf,hr,g2,Addr.add_lit,hci,e1];rw[hci] at h1;simp[h1]
 ·refine ⟨_,by simp[aZ,I.isAgg];rfl,?_⟩;simp only[ae];refine ⟨bk,b.aL,off,I.cK fs,k2,k5,lN p b _ k4,?_,?_,?_,?_⟩
  ·rw[I.cL,Z2]
  ·rw[I.cL,Z2];exact k12
  ·rw[I.cL,Z2];omega
  ·rw[I.cL];intro s hs;obtain ⟨f,hf,rfl⟩:=zy3.1 hs;rw[I.iy];exact k10 f hf
theorem LY{t e:TypeId}{s x:Operand}{s' x':az}{es:List I}(ho:o.op=.call { callee:=.builtin .append,args := #[s,x],argTypes := #[t,t] })(hu:c.P.underlying t=some (.slice e))(hi:(c.P.info? e).isSome=true)(hs':aU c.P t s=some s')(hx':aU c.P t x=some x')
  (hse:cW A (c.P.cellsOf e) (af A s')=some es) (hsx:cW A (c.P.cellsOf e) (af A x')=some []):cM c A o (af A s') :=
 .same fun a w D E hsim=>by
  obtain ⟨i,hi⟩:=zz8.1 hi;have hci:c.P.cellsOf e=i.size:=by simp[Program.cellsOf,hi]
  obtain ⟨ad1,cp1,olds,s1,s2,s3,s4,s5,s6⟩:=n5 hsim (bp hsim hs') hse;obtain ⟨ad2,cp2,news,t1,t2,t3,t4,t5,t6⟩:=n5 hsim (bp hsim hx') hsx;have g2:=t6 c.P w (fun _ _ h=>h);rw[t1,hci] at g2;simp only[aC] at t4;subst t4;refine ⟨a.eval s,?_,bp hsim hs'⟩;simp only[zy9] at g2 t1;unfold execOp;simp only[ho,resolve,invoke,builtin,Sem.run_bind,Sem.run_pure,Result.andThen_ok,List.map_toArray,Z3,zz6,s1,t1];cases ad1 <;>simp[Builtin.append_,run_underlying hu,sizeOf,typeInfo,hi,Builtin.lenOf,s2,g2,storeCells]
end
theorem AJ{w:World}{D:aK}{E:aN} : ∀ (l:List cn) (xs ys:List I) (cs ds:List Value),l.all vJ=true→gC l xs ys=some true→aC w D E xs cs→aC w D E ys ds→xs=ys∧cs=ds∧∀ v∈cs,∃ k n,v=.int k n
 | [],xs,ys,cs,ds,_,h,hx,hy=>by
  simp only[gC] at h;split at h
  ·simp only[aC] at hx hy;subst hx hy;exact ⟨rfl,rfl,fun v hv=>by simp at hv⟩
  ·cases h
 |t::ts,xs,ys,cs,ds,ha,h,hx,hy=>by
  simp only[List.all_cons,Z0] at ha;simp only[gC] at h;split at h
  case h_2=>cases h
  rename_i f fs g gs;unfold iD at h;split at h
  case h_2=>cases h
  rename_i a b h1 h2;simp only[v6,Z0] at h;obtain ⟨rfl,rfl⟩:=h;simp only[aC] at hx hy;obtain ⟨c1,c2,rfl,p1,p2⟩:=hx;obtain ⟨d1,d2,rfl,q1,q2⟩:=hy;obtain ⟨rfl,rfl,k3⟩:=AJ ts fs gs c2 d2 ha.2 h2 p2 q2;cases t with
  |i k =>
   simp only[b9] at h1;split at h1
   case h_2=>cases h1
   rename_i k1 a k2 b;split at h1
   case isFalse=>cases h1
   rename_i hk;simp only[v6,beq_iff_eq] at h1;subst h1;obtain ⟨rfl,rfl⟩:=hk;simp only[ae] at p1 q1;obtain ⟨rfl,_⟩:=p1;obtain ⟨rfl,_⟩:=q1;refine ⟨rfl,rfl,fun v hv =>?_⟩;rcases zy0.1 hv with hv | hv
   ·simp at hv;exact ⟨_,_,hv⟩
   ·exact k3 v hv
  |b | s | aT _ | pK _ _=>simp[vJ] at ha
theorem ET:∀ (cs:List Value) (n:Nat),(∀ v∈cs,∃ k m,v=.int k m)→((cs.zip cs).all fun (x,y)=>Instr.sameBits n x y)=true
 | [],_,_=>rfl
 |v::cs,n,h=>by
  obtain ⟨k,m,rfl⟩:=h v (by simp);simp only[List.zip_cons_cons,List.all_cons,Z0];exact ⟨by cases n <;>simp[Instr.sameBits],ET cs n fun v hv=>h v (by simp[hv])⟩
theorem V7{P:Program}{t:TypeId}{ty:cn}{w:World}{D:aK}{E:aN}{x y:I}{u v:Value}(hk:ju P t=some ty)(h:b9 ty x y=some true)(hx:aR w D E x u)(hy:aR w D E y v):x=y∧u=v∧Instr.sameBits 10000 u v=true:=by
 unfold ju at hk;split at hk
 ·rename_i k hu;simp only[v6] at hk;subst hk;simp only[b9] at h;split at h
  case h_2=>cases h
  split at h
  case isFalse=>cases h
  rename_i hk;simp only[v6,beq_iff_eq] at h;subst h;obtain ⟨rfl,rfl⟩:=hk;rw[(dq hx).1,(dq hy).1];exact ⟨rfl,rfl,by simp[Instr.sameBits]⟩
 ·rename_i fs hu;split at hk
  case h_2=>cases hk
  rename_i l hl;split at hk
  case isFalse=>cases hk
  rename_i hc;simp only[v6] at hk;subst hk;simp only[b9] at h;split at h
  case h_2=>cases h
  rename_i xs ys;obtain ⟨cs,rfl,hc1⟩:=iN hx;obtain ⟨ds,rfl,hd1⟩:=iN hy;obtain ⟨rfl,rfl,h3⟩:=AJ l xs ys cs ds hc.1 h hc1 hd1;refine ⟨rfl,rfl,?_⟩;simp only[Instr.sameBits,beq_self_eq_true,Bool.true_and];exact ET cs _ h3
 ·cases hk
section
variable {P:Program} {w:World} {D:aK} {E:aN}
theorem uP{t:TypeId}{ty:cn}{em:Bool}{x y:I}{v:Value}{r:Bool}(hk:ju P t=some ty)(hx:aR w D E x v)(h:b9 ty x y=some r)(n:Nat):(Instr.checkKey em (n+2) t v).run P w=.ok () w:=by
 unfold ju at hk;split at hk
 ·rename_i k hu;simp only[v6] at hk;subst hk;simp only[b9] at h;split at h
  case h_2=>cases h
  rename_i k1 a k2 b;split at h
  case isFalse=>cases h
  rename_i hq;rw[(dq hx).1,hq.1];exact MapKept.run_checkKey hu (by simp[MapKept.IsKey]) em (n+1)
 ·rename_i fs hu;split at hk
  case h_2=>cases hk
  rename_i l hl;split at hk
  case isFalse=>cases hk
  rename_i hc;simp only[v6] at hk;subst hk;simp only[b9] at h;split at h
  case h_2=>cases h
  rename_i xs ys;obtain ⟨cs,rfl,hc1⟩:=iN hx;obtain ⟨d,hd⟩:∃ d,d=11:=⟨_,rfl⟩
  rw[show (12:Nat)=d+1 from by omega] at hl;simp only[fZ,hu] at hl;split at hl
  case isFalse=>cases hl
  rename_i hc2;simp only[t7,cn.aT.injEq] at hl;obtain ⟨l',hl,rfl⟩:=hl;rw[show n+2=(n+1)+1 from rfl,Instr.checkKey];simp only[Sem.run_bind,run_underlying hu,Result.andThen_ok];rw[←Array.forIn_toList];have key:∀ (au:List Field) (l:List cn) (xs ys:List I) (r:Bool) (c1 c2:List Value),
    (au.mapM fun f=>match fZ P d f.type with
     |some ty=>if ty.size=P.cellsOf f.type then some ty else none
     | none => none) = some l → (∀ f ∈ au, f.name ≠ "_" ∧ qg (P.underlying f.type) = true) → oR P c1.length au = true → aC w D E xs c2 → gC l xs ys = some r → c1 ++ c2 = cs →
    Sem.run P (forIn au PUnit.unit (fun (f : Field) (_ : PUnit) => (if f.name ≠ "_" then (do
     let x ←part f.type cs.toArray f.offset
     Instr.checkKey em (n+1) f.type x
     pure (ForInStep.yield PUnit.unit)) else pure (ForInStep.yield PUnit.unit):Sem (ForInStep PUnit)))) w=.ok PUnit.unit w:=by
   intro au
   induction au with
   |nil=>intros;simp
   |cons f au ih =>
    intro l xs ys r c1 c2 hm hn ho hx h htot;simp only[List.mapM_cons,Option.bind_eq_bind,Option.pure_def,zx6,v6] at hm;obtain ⟨ty,hty,tys,htys,rfl⟩:=hm;split at hty
    case h_2=>cases hty
    rename_i ty' hd';split at hty
    case isFalse=>cases hty
    rename_i hsz;simp only[v6] at hty;subst hty;simp only[gC] at h;split at h
    case h_2=>cases h
    rename_i x xs y ys;unfold iD at h;split at h
    case h_2=>cases h
    rename_i ra rb h1 h2;simp only[aC] at hx;obtain ⟨e1,e2,rfl,k1,k2⟩:=hx;obtain ⟨s,q1,q2,q3⟩:=u2 hd' hsz h1;obtain ⟨u,p1,p2⟩:=nE (P:=P) (w:=w) (c1:=c1) (c3:=e2) q1 q2 k1;simp only[oR,Z0,beq_iff_eq] at ho;have hsx:=oo ty' x y ra h1;have hle:e1.length=P.cellsOf f.type:=by rw[ae.length _ _ k1,hsx.1,hsz]
    have ih':=ih tys xs ys rb (c1++e1) e2 htys (fun g hg=>hn g (by simp[hg])) (by simp only[Z1,hle];exact ho.2) k2 h2 (by rw[←htot];simp);rw[Z9,htot,←ho.1] at p1;obtain ⟨hnm,hint⟩:=hn f (by simp);have hck:(Instr.checkKey em (n+1) f.type u).run P w=.ok () w:=by
     cases hu:P.underlying f.type with
     |none=>simp[hu,qg] at hint
     |some dd =>
      cases dd <;>simp[hu,qg] at hint
      rename_i q;have hti:ty'=.i q:=by
       rw[show d=10+1 from by omega] at hd';unfold fZ at hd';simp only[hu,v6] at hd';exact hd'.symm
      subst hti;simp only[b9] at h1;split at h1
      case h_2=>cases h1
      split at h1
      case isFalse=>cases h1
      rename_i hq;rw[(dq p2).1,hq.1];exact MapKept.run_checkKey hu (by simp[MapKept.IsKey]) em n
    simp only[List.forIn_cons,Sem.run_bind,hnm,ne_eq,not_false_eq_true,if_true,p1,Result.andThen_ok,hck,Sem.run_pure];exact ih'
  rw[key fs.toList l' xs ys r [] cs hl (fun f hf=>⟨by simpa using zy5.1 hc2.2.1 f hf,Array.all_eq_true_iff_forall_mem.1 hc.2 f (Array.mem_toList_iff.1 hf)⟩) hc2.2.2 hc1 h rfl];simp
 ·cases hk
theorem w6{x:I}{xs:List I}{vs:List Value}(h:al w D E (x::xs) vs):∃ v rest,vs=v::rest∧aR w D E x v∧al w D E xs rest:=by
 simp only[al] at h;obtain ⟨v,rest,cs,rfl,h1,h2,h3⟩:=h;exact ⟨v,rest,rfl,fK h1 h2,h3⟩
def nW(r:Option Nat)(es:List MapEntry)(i:Nat)(q:Option (Nat×Value)):Prop :=
 (r=none∧q=none)∨∃ j e,r=some (i+j)∧es[j]?=some e∧q=some (i+j,e.val)
theorem nW.step{r:Option Nat}{es:List MapEntry}{e:MapEntry}{i:Nat}{q:Option (Nat×Value)}(h:nW r es (i+1) q):nW r (e::es) i q:=by
 rcases h with h | ⟨j,e',h1,h2,h3⟩
 ·exact .inl h
 ·exact .inr ⟨j+1,e',by rw[h1];congr 1;omega,by simpa using h2,by rw[h3];congr 2;omega⟩
theorem A1{q:IntKind}{k:I}{v:Value}(hv:aR w D E k v):∀ (ks:List I) (es:List MapEntry) (i:Nat) (r:Option Nat),al w D E ks (es.map (·.key))→ic (.i q) k ks i=some r →
  ∃ x,Instr.findNow (.int q) v es i=some x∧nW r es i x
 | [],es,i,r,hk,h=>by
  simp only[ic,v6] at h;simp only[al,List.map_eq_nil_iff] at hk;subst h hk;exact ⟨none,rfl,.inl ⟨rfl,rfl⟩⟩
 |x::ks,es,i,r,hk,h=>by
  obtain ⟨u,rest,e1,hu,hr⟩:=w6 hk;cases es with
  |nil=>cases e1
  |cons e es =>
   simp only[Z3,zy1] at e1;obtain ⟨rfl,rfl⟩:=e1;simp only[ic] at h;have same:∀ b,b9 (.i q) k x=some b→Instr.sameNow (.int q) v e.key=some b:=fun b hb=>by
    simp only[b9] at hb;split at hb
    case h_2=>cases hb
    split at hb
    case isFalse=>cases hb
    rename_i hq;simp only[v6] at hb;subst hb;rw[(dq hv).1,(dq hu).1];simp[Instr.sameNow,hq.1,hq.2]
   split at h
   ·rename_i hb;simp only[v6] at h;subst h;exact ⟨some (i,e.val),by simp[Instr.findNow,same _ hb],.inr ⟨0,e,rfl,rfl,rfl⟩⟩
   ·rename_i hb;obtain ⟨y,h1,h2⟩:=A1 hv ks es (i+1) r hr h;exact ⟨y,by simp[Instr.findNow,same _ hb,h1],h2.step⟩
   ·cases h
theorem AY{t:TypeId}{ty:cn}(hty:fZ P 12 t=some ty){k:I}{v:Value}(hv:aR w D E k v):∀ (ks:List I) (es:List MapEntry) (i:Nat) (r:Option Nat),al w D E ks (es.map (·.key))→ic ty k ks i=some r →
  ∃ x,(Instr.findAsking t v es i).run P w=.ok x w∧nW r es i x
 | [],es,i,r,hk,h=>by
  simp only[ic,v6] at h;simp only[al,List.map_eq_nil_iff] at hk;subst h hk;exact ⟨none,rfl,.inl ⟨rfl,rfl⟩⟩
 |x::ks,es,i,r,hk,h=>by
  obtain ⟨u,rest,e1,hu,hr⟩:=w6 hk;cases es with
  |nil=>cases e1
  |cons e es =>
   simp only[Z3,zy1] at e1;obtain ⟨rfl,rfl⟩:=e1;simp only[ic] at h;have same:∀ b,b9 ty k x=some b→(Op.equal t v e.key).run P w=.ok b w:=fun b hb=>rW 12 t ty hty k x v e.key b hv hu hb _ (by simp[Op.maxDepth]);split at h
   ·rename_i hb;simp only[v6] at h;subst h;exact ⟨some (i,e.val),by simp[Instr.findAsking,same _ hb],.inr ⟨0,e,rfl,rfl,rfl⟩⟩
   ·rename_i hb;obtain ⟨y,h1,h2⟩:=AY hty hv ks es (i+1) r hr h;exact ⟨y,by simp[Instr.findAsking,same _ hb,h1],h2.step⟩
   ·cases h
theorem oy{t:TypeId}{ty:cn}(hk:ju P t=some ty){k:I}{v:Value}(hv:aR w D E k v){ks:List I}{es:List MapEntry}{r:Option Nat}(hks:al w D E ks (es.map (·.key)))(h:ic ty k ks 0=some r) :
  ∃ x,(Instr.findKey t v es).run P w=.ok x w∧nW r es 0 x:=by
 have hk0:=hk;unfold ju at hk;split at hk
 ·rename_i q hu;simp only[v6] at hk;subst hk;obtain ⟨x,h1,h2⟩:=A1 hv ks es 0 r hks h;exact ⟨x,by simp[Instr.findKey,run_underlying hu,h1],h2⟩
 ·rename_i fs hu;split at hk
  case h_2=>cases hk
  rename_i l hl;split at hk
  case isFalse=>cases hk
  simp only[v6] at hk;subst hk;cases es with
  |nil =>
   cases ks with
   |nil =>
    simp only[ic,v6] at h;subst h;exact ⟨none,by simp[Instr.findKey,run_underlying hu,Instr.findNow],.inl ⟨rfl,rfl⟩⟩
   |cons x xs=>simp[al] at hks
  |cons e es =>
   obtain ⟨x,h1,h2⟩:=AY hl hv ks (e::es) 0 r hks h;exact ⟨x,by simp[Instr.findKey,run_underlying hu,Instr.findNow,Instr.sameNow,h1],h2⟩
 ·cases hk
theorem lJ:∀ {xs:List I} {vs:List Value} {j:Nat} {v:Value},al w D E xs vs→vs[j]?=some v→∃ x,xs[j]?=some x∧aR w D E x v
 | [],vs,j,v,h,hj=>by simp only[al] at h;subst h;simp at hj
 |x::xs,vs,j,v,h,hj=>by
  obtain ⟨u,rest,rfl,h1,h2⟩:=w6 h;cases j with
  |zero=>simp only[List.getElem?_cons_zero,v6] at hj;subst hj;exact ⟨x,rfl,h1⟩
  |succ j=>exact lJ (xs:=xs) h2 (by simpa using hj)
end
section
variable {c:ct} {A:ab} {o:Oper} {x:I}
theorem WE{a:Act}{w:World}{D:aK}{E:aN}(hs:aM c A a w D E){m:I}{v:Value}{ks vs:List I}(hv:aR w D E m v)(hm:gb A m=some (ks,vs)) :
  (v=.map none∧ks=[]∧vs=[])∨∃ b es clock,v=.map (some b)∧w.heap[b]?=some (.map es clock)∧al w D E ks (es.toList.map (·.key))∧al w D E vs (es.toList.map (·.val)):=by
 unfold gb at hm;split at hm
 ·simp only[v6,Prod.mk.injEq] at hm;obtain ⟨rfl,rfl⟩:=hm;obtain ⟨cs,q1,q2⟩:=hv;simp only[ae] at q2;obtain ⟨b,es,ck,q3,q4,q5,q6⟩:=q2;exact .inr ⟨b,es,ck,by simpa[aZ,I.isAgg,q3] using q1.symm,q4.1,q5,q6⟩
 ·rename_i n;split at hm
  case h_2=>cases hm
  rename_i ks' vs' hn;simp only[v6,Prod.mk.injEq] at hm;obtain ⟨rfl,rfl⟩:=hm;obtain ⟨cs,q1,q2⟩:=hv;simp only[ae] at q2;obtain ⟨b,q3,q4⟩:=q2;obtain ⟨b',es,ck,k1,k2,k3,k4,k5,k6,k7⟩:=hs.map hn;rw[k1] at q3;cases q3;exact .inr ⟨_,es,ck,by simpa[aZ,I.isAgg,q4] using q1.symm,k3,k5,k6⟩
 ·simp only[v6,Prod.mk.injEq] at hm;obtain ⟨rfl,rfl⟩:=hm;obtain ⟨cs,q1,q2⟩:=hv;simp only[ae] at q2;exact .inl ⟨by simpa[aZ,I.isAgg,q2.1] using q1.symm,rfl,rfl⟩
 ·cases hm
theorem nS{w:World}{D:aK}{E:aN}{y:I}{v:Value}(hv:y.cC=true)(h:aR w D E y v):∃ cs,aZ y v cs∧ae w D E y cs:=by
 cases y <;>simp[I.cC] at hv <;>exact h
theorem o8{w:World}{D:aK}{E:aN} : ∀ {xs:List I} {vs:List Value} {j:Nat} {x:I},al w D E xs vs→xs[j]?=some x→x.cC=true
 | [],_,j,x,_,h=>by simp at h
 |y::ys,vs,j,x,hr,h=>by
  simp only[al] at hr;obtain ⟨v,rest,cs,rfl,h1,h2,h3⟩:=hr;cases j with
  |zero =>
   simp only[List.getElem?_cons_zero,v6] at h;subst h;cases y <;>simp only[ae] at h2 <;>rfl
  |succ j=>exact o8 (xs:=ys) h3 (by simpa using h)
theorem ZP{x:I}{cs r:List Value}(h:lV x cs=some r):x.cC=true:=by
 cases x <;>first | rfl | (cases cs <;>simp[lV] at h)
theorem ZQ{P:Program}{t:TypeId}{z:I}(hz:fG P t=some z)(hp:tV P t z=true):∃ zv,(∀ w,(zeroValue t).run P w=.ok zv w)∧z.cC=true∧∀ w D E,aR w D E z zv:=by
 have hz0:=hz;obtain ⟨i,zv,hi,hzz,hzr⟩:=kW hz;have hv:z.cC=true:=by
  unfold fG at hz;split at hz
  ·split at hz
   ·rename_i hk;simp only[v6] at hz;subst hz;exact ZP hk
   ·cases hz
  ·cases hz
 refine ⟨zv,fun w=>by simp[zeroValue,typeInfo,hi,hzz],hv,fun w D E =>?_⟩;have h1:=hzr w D E;simp only[tV,hi,Option.bind_some,hzz] at hp;refine fK (cs:=zv.cells.toList) ?_ h1;cases zv <;>simp only[aZ] at hp ⊢ <;>first
  |(rw[if_pos hp];simp[Value.cells])
  |(have hp':z.isAgg=false:=by simpa using hp
    rw[hp'];simp[Value.cells])
theorem Vn{t kt et:TypeId}{m k:Operand}{m' k':az}{ok:Bool}{ty:cn}{z v:I}{ks vs:List I}{there:Bool}(ho:o.op=.lookup t m k ok)(hu:c.P.underlying t=some (.map kt et))(hk:ju c.P kt=some ty)(hz:fG c.P et=some z)(hzp:tV c.P et z=true)
  (hm:aU c.P 0 m=some m') (hk':aU c.P 0 k=some k') (hmm:gb A (af A m')=some (ks,vs)) (hl:qo ty z (af A k') ks vs=some (v,there)):cM c A o (if ok then .tuple [v,.bool there] else v) :=
 .same fun a w D E hs=>by
  have h1:=bp hs hm;have h2:=bp hs hk';obtain ⟨zv,hzrun,hzv,hzrv⟩:=ZQ hz hzp;unfold qo at hl;split at hl
  case isFalse=>cases hl
  rename_i hkk;obtain ⟨rk,hrk⟩:=zz8.1 hkk;have hchk:=fun em=>uP (P:=c.P) (w:=w) (em:=em) hk h2 hrk 9998;have bd:∀ u there,v.cC=true→aR w D E v u→aR w D E (if ok then .tuple [v,.bool there] else v) (if ok then Value.tuple #[u,.bool there] else u):=fun u there hval hu'=>by
   cases ok
   ·exact hu'
   ·obtain ⟨cs,q1,q2⟩:=nS hval hu';simp only[if_true,aR,al];exact ⟨[u,.bool there],rfl,u,[.bool there],cs,rfl,q1,q2,.bool there,[],[.bool there],rfl,by simp[aZ,I.isAgg],by simp[ae],rfl⟩
  have dw:∀ (es:Array MapEntry),al w D E ks (es.toList.map (·.key))→al w D E vs (es.toList.map (·.val))→∃ u,v.cC=true∧aR w D E v u ∧
    ((∃ i,(Instr.findKey kt (a.eval k) es.toList).run c.P w=.ok (some (i,u)) w∧there=true)∨((Instr.findKey kt (a.eval k) es.toList).run c.P w=.ok none w∧u=zv∧there=false)):=fun es hks hvs=>by
   split at hl
   ·rename_i i hfi;simp only[t7,Prod.mk.injEq] at hl;obtain ⟨v',hv',rfl,rfl⟩:=hl;obtain ⟨q,q1,q2⟩:=oy hk h2 hks hfi;rcases q2 with ⟨e,_⟩ | ⟨j,e,e1,e2,rfl⟩
    ·cases e
    ·simp only[Z5,v6] at e1;subst e1;obtain ⟨x,k1,k2⟩:=lJ (j:=i) (v:=e.val) hvs (by simp only[zx0,e2,zz0]);rw[hv',v6] at k1;subst k1;exact ⟨e.val,o8 hvs hv',k2,.inl ⟨_,q1,rfl⟩⟩
   ·rename_i hfi;simp only[v6,Prod.mk.injEq] at hl;obtain ⟨rfl,rfl⟩:=hl;obtain ⟨q,q1,q2⟩:=oy hk h2 hks hfi;rcases q2 with ⟨_,rfl⟩ | ⟨j,e,e1,_⟩
    ·exact ⟨zv,hzv,hzrv w D E,.inr ⟨q1,rfl,rfl⟩⟩
    ·cases e1
   ·cases hl
  rcases WE hs h1 hmm with ⟨e1,rfl,rfl⟩ | ⟨b,es,ck,e1,e2,e3,e4⟩
  ·obtain ⟨u,hval,hu',hrun⟩:=dw #[] (by simp[al]) (by simp[al]);refine ⟨_,?_,bd u there hval hu'⟩;rcases hrun with ⟨i,q1,rfl⟩ | ⟨q1,rfl,rfl⟩ <;>
    simp only[execOp,ho,Instr.lookup,e1,Sem.run_bind,run_underlying hu,Result.andThen_ok,Sem.run_pure,hchk,q1,hzrun]
  ·obtain ⟨u,hval,hu',hrun⟩:=dw es e3 e4;refine ⟨_,?_,bd u there hval hu'⟩;rcases hrun with ⟨i,q1,rfl⟩ | ⟨q1,rfl,rfl⟩ <;>
    simp only[execOp,ho,Instr.lookup,e1,Sem.run_bind,run_underlying hu,Result.andThen_ok,MapKept.run_getObj_map e2,Sem.run_pure,hchk,q1,hzrun]
theorem Bx{y:Operand}{y':az}(ho:o.op=.nilCheck y)(hy:aU c.P 0 y=some y')(h:(∃ n p,af A y'=.ptr n p)∨∃ z,af A y'=.ref z):cM c A o (af A y') :=
 .same fun a w D E hs=>by
  have h1:=bp hs hy;rcases h with ⟨n,p,h⟩ | ⟨z,h⟩
  ·rw[h] at h1 ⊢;obtain ⟨b,aL,off,_,_,e⟩:=kQ h1;exact ⟨a.eval y,by simp only[execOp,ho,e,Sem.run_pure],h1⟩
  ·rw[h] at h1 ⊢;obtain ⟨b,off,cs,e,_⟩:=oZ h1;exact ⟨a.eval y,by simp only[execOp,ho,e,Sem.run_pure],h1⟩
theorem BM{w:World}{D:aK}{E:aN}{x:I}{v:Value}{b:Bool}(h:ij x=some b)(hv:aR w D E x v):∃ ad,v=.pointer ad∧ad.isNone=b:=by
 cases x <;>simp only[ij,v6] at h <;>try (cases h;done)
 case nilp =>
  subst h;obtain ⟨cs,q1,q2⟩:=hv;simp only[ae] at q2;exact ⟨none,by simpa[aZ,I.isAgg,q2] using q1.symm,rfl⟩
 case ptr n p =>
  subst h;obtain ⟨b,aL,off,_,_,e⟩:=kQ hv;exact ⟨_,e,rfl⟩
 case ref z =>
  subst h;obtain ⟨b,off,cs,e,_⟩:=oZ hv;exact ⟨_,e,rfl⟩
theorem Vs{x y:Operand}{x' y':az}{tys:Array TypeId}{v:I}(ho:o.op=.call { callee:=.builtin .max,args := #[x,y],argTypes:=tys })(hx:aU c.P 0 x=some x')(hy:aU c.P 0 y=some y')(h:qw (af A x') (af A y')=some v):cM c A o v :=
 .same fun a w D E hs=>by
  have h1:=bp hs hx;have h2:=bp hs hy;unfold qw at h;split at h
  case h_2=>cases h
  rename_i k n k2 m e1 e2;split at h
  case isFalse=>cases h
  rename_i hk;subst hk;simp only[v6] at h;subst h;rw[e1] at h1;rw[e2] at h2;obtain ⟨v1,r1⟩:=dq h1;obtain ⟨v2,iL⟩:=dq h2;refine ⟨.int k (if m>n then m else n),by simp[execOp,ho,resolve,invoke,builtin,Builtin.max_,Builtin.max2,v1,v2],ik ?_⟩;split
  ·exact iL
  ·exact r1
theorem Vx{neg:Bool}{t yt e:TypeId}{y z:Operand}{y' z':az}{b1 b2:Bool}(ho:o.op=.binOp (if neg then .neq else .eql) t y z yt)(hu:c.P.underlying t=some (.pointer e))(hy:aU c.P 0 y=some y')(hz:aU c.P 0 z=some z')
  (h1:ij (af A y')=some b1) (h2:ij (af A z')=some b2) (h:b1=true∨b2=true):cM c A o (.bool (if neg then !(b1&&b2) else (b1&&b2))) :=
 .same fun a w D E hs=>by
  obtain ⟨p,e1,k1⟩:=BM h1 (bp hs hy);obtain ⟨q,e2,k2⟩:=BM h2 (bp hs hz);have he:∀ d,(Op.equalIn (d+1) t (.pointer p) (.pointer q)).run c.P w=.ok (b1&&b2) w:=fun d=>by
   subst k1 k2;cases p <;>cases q <;>simp at h <;>simp[Op.equalIn,run_underlying hu]
  refine ⟨.bool (if neg then !(b1&&b2) else (b1&&b2)),?_,kF _⟩;cases neg <;>simp only[execOp,ho,e1,e2,if_true,Z6,if_false,Sem.run_bind,eqGuard] <;>simp[binOp,Op.equal,Op.maxDepth,he]
end
section
variable {c:ct} {A:ab} {o:Oper} {x:I}
theorem L4{t:TypeId}{d:Nat}(ho:o.op=.makeMap t none)(hd:o.dst=some d)(hn:d<c.n)(hf:A.o d=none):gz c A o ((A.aQ d (.cm [] [])).put d (.mref d)):=by
 intro a w D E hs;have h1:=hs.WT (.inl hn) hf;have h2:=h1.put (x:=.mref d) (v:=.map (some w.heap.size)) hn ⟨_,by simp[aZ,I.isAgg];rfl,by
  simp only[ae,if_true];exact ⟨w.heap.size,rfl,rfl⟩⟩
 exact ⟨w.alloc (.map #[] 0),.inl ⟨.map (some w.heap.size),by simp[execOp,ho,Instr.makeMap],D,_,by rw[hd];exact h2⟩⟩
theorem w0{w:World}{D:aK}{E:aN} : ∀ {xs ys:List I} {us vs:List Value},al w D E xs us→al w D E ys vs→al w D E (xs++ys) (us++vs)
 | [],ys,us,vs,h,k=>by simp only[al] at h;subst h;simpa using k
 |x::xs,ys,us,vs,h,k=>by
  simp only[al,Z8] at *;obtain ⟨v,rest,cs,rfl,h1,h2,h3⟩:=h;exact ⟨v,rest++vs,cs,rfl,h1,h2,w0 h3 k⟩
theorem EI{w:World}{D:aK}{E:aN} : ∀ {xs:List I} {us:List Value} {i:Nat} {y:I} {v:Value} {cs:List Value},al w D E xs us→aZ y v cs→ae w D E y cs→al w D E (xs.set i y) (us.set i v)
 | [],us,i,y,v,cs,h,_,_=>by simp only[al] at h;subst h;simp[al]
 |x::xs,us,i,y,v,cs,h,k1,k2=>by
  simp only[al] at h;obtain ⟨u,rest,ds,rfl,h1,h2,h3⟩:=h;cases i with
  |zero=>simp only[List.set_cons_zero,al];exact ⟨v,rest,cs,rfl,k1,k2,h3⟩
  |succ i=>simp only[List.set_cons_succ,al];exact ⟨u,_,ds,rfl,h1,h2,EI h3 k1 k2⟩
theorem EH{w:World}{D:aK}{E:aN}{y:I}{v:Value}{cs:List Value}(h1:aZ y v cs)(h2:ae w D E y cs):al w D E [y] [v]:=by
 simp only[al];exact ⟨v,[],cs,rfl,h1,h2,rfl⟩
theorem AZ{ty:cn}{k:I} : ∀ {ks:List I} {i j:Nat},ic ty k ks i=some (some j)→∃ x,ks[j-i]?=some x∧i≤j∧b9 ty k x=some true
 | [],i,j,h=>by simp[ic] at h
 |x::xs,i,j,h=>by
  simp only[ic] at h;split at h
  ·rename_i hb;simp only[v6] at h;subst h;exact ⟨x,by simp,Z4 _,hb⟩
  ·obtain ⟨y,h1,h2,h3⟩:=AZ h;refine ⟨y,?_,by omega,h3⟩;rw[show j-i=(j-(i+1))+1 from by omega];simpa using h1
  ·cases h
theorem Ax{t kt et:TypeId}{m k v:Operand}{m' k' v':az}{ty:cn}{n:Nat}{ks vs ks' vs':List I}(ho:o.op=.mapUpdate t m k v∨o.op=.insert t m k v)(hu:c.P.underlying t=some (.map kt et))(hk:ju c.P kt=some ty)
  (hm:aU c.P 0 m=some m') (hk':aU c.P 0 k=some k') (hv':aU c.P et v=some v') (hmm:af A m'=.mref n) (hn:A.o n=some (.cm ks vs)) (hl:qv ty (af A k') (af A v') ks vs=some (ks',vs')) (hd:o.dst=none) :
  gz c A o (A.aQ n (.cm ks' vs')):=by
 intro a w D E hs;have h1:=bp hs hm;have h2:=bp hs hk';have h3:=bp hs hv';rw[hmm] at h1;unfold qv at hl;split at hl
 case isFalse=>cases hl
 rename_i hc;obtain ⟨hkk,hkv,hvv⟩:=hc;obtain ⟨rk,hrk⟩:=zz8.1 hkk;have hchk:=fun em=>uP (P:=c.P) (w:=w) (em:=em) hk h2 hrk 9998;obtain ⟨kcs,kp1,kp2⟩:=nS hkv h2;obtain ⟨vcs,vp1,vp2⟩:=nS hvv h3;obtain ⟨b,es,ck,k1,k2,k3,k4,k5,k6,k7⟩:=hs.map hn;have hmv:a.eval m=.map (some b):=by
  obtain ⟨cs,q1,q2⟩:=h1;simp only[ae] at q2;obtain ⟨b',q3,q4⟩:=q2;rw[k1] at q3;cases q3;simpa[aZ,I.isAgg,q4] using q1.symm
 -- the new entries
 have step:∀ (es':Array MapEntry) (ck':Nat),(Instr.mapUpdate t (.map (some b)) (a.eval k) (a.eval v)).run c.P w=.ok () (w.putObj b (.map es' ck'))→nM es' ck'→al w D E ks' (es'.toList.map (·.key))→al w D E vs' (es'.toList.map (·.val)) →
   ∃ w',((∃ u,(execOp a.eval o).run c.P w=.ok (.value u) w'∧bD c (A.aQ n (.cm ks' vs')) (a.put o.dst u) w')∨((execOp a.eval o).run c.P w=.ok .skip w'∧bD c (A.aQ n (.cm ks' vs')) (a.put o.dst undef) w')):=fun es' ck' hrun hst hks hvs=>by
  refine ⟨w.putObj b (.map es' ck'),.inr ⟨?_,?_⟩⟩
  ·rcases ho with ho | ho <;>simp only[execOp,ho,hmv,Sem.run_bind,hrun,Result.andThen_ok,Sem.run_pure]
  ·rw[hd];have:=hs.xg (o':=.map es' ck') (x:=.cm ks' vs') k1 rfl rfl k3 rfl (fun q=>by simp) k2 (fun hl' hh hno=>⟨b,es',ck',k1,k2,hh,hst,al.later hl' _ _ hks,al.later hl' _ _ hvs,hno⟩);exact ⟨D,E,this⟩
 split at hl
 ·rename_i i hfi;simp only[v6,Prod.mk.injEq] at hl;obtain ⟨rfl,rfl⟩:=hl;obtain ⟨q,q1,q2⟩:=oy hk h2 k5 hfi;rcases q2 with ⟨e,_⟩ | ⟨j,e,e1,e2,rfl⟩
  ·cases e
  simp only[Z5,v6] at e1;subst e1;obtain ⟨y,y1,_,y2⟩:=AZ hfi;simp only[Nat.sub_zero] at y1;obtain ⟨y',y3,y4⟩:=lJ (j:=i) (v:=e.key) k5 (by simp only[zx0,e2,zz0]);rw[y1,v6] at y3;subst y3;obtain ⟨_,kk2,kk3⟩:=V7 hk y2 h2 y4;have hes:es[i]?=some e:=by rw[←zy2];exact e2
  have hlen:i<es.size:=(zz4.1 hes).1;refine step (es.modify i fun e => { e with key:=a.eval k,val:=a.eval v }) ck ?_ ?_ ?_ ?_
  ·have hsb:Instr.sameBits 10000 (((es[i]?).map (·.key)).getD (a.eval k)) (a.eval k)=true:=by
    rw[hes];simp only[zz0,Option.getD_some];rw[←kk2];rw[←kk2] at kk3;exact kk3
   simp only[Instr.mapUpdate,Sem.run_bind,run_underlying hu,Result.andThen_ok,MapKept.run_getObj_map k3,hchk,q1,Z5,Instr.keyThatStays,hsb,if_true,Sem.run_pure,MapKept.run_setObj_map _ k3];rfl
  all_goals
   have em:(es.modify i fun e => { e with key:=a.eval k,val:=a.eval v }).toList=es.toList.set i { e with key:=a.eval k,val:=a.eval v } :=by
    rw[Array.toList_modify];apply List.ext_getElem?;intro j;rw[List.getElem?_modify,List.getElem?_set];by_cases hij:i=j
    ·subst hij;have hge:es[i]'hlen=e:=(zz4.1 hes).2;simp[hlen,hge]
    ·simp[hij]
  ·refine ⟨fun x hx =>?_,?_⟩
   ·rw[em] at hx;rcases List.mem_or_eq_of_mem_set hx with hx | rfl
    ·exact k4.1 x hx
    ·exact k4.1 e (List.mem_of_getElem? e2)
   ·rw[em];have:(es.toList.set i { e with key:=a.eval k,val:=a.eval v }).map (·.born)=es.toList.map (·.born):=by
     rw[List.map_set];apply List.ext_getElem?;intro j;rw[List.getElem?_set];split
     ·rename_i hij;subst hij;simp[e2];exact hlen
     ·rfl
    rw[this];exact k4.2
  ·rw[em,List.map_set];have:(es.toList.map (·.key)).set i (a.eval k)=es.toList.map (·.key):=by
    apply List.ext_getElem?;intro j;rw[List.getElem?_set];split
    ·rename_i hij;subst hij;simp[e2,kk2];exact hlen
    ·rfl
   simp only[this];exact k5
  ·rw[em,List.map_set];exact EI k6 vp1 vp2
 ·rename_i hfi;simp only[v6,Prod.mk.injEq] at hl;obtain ⟨rfl,rfl⟩:=hl;obtain ⟨q,q1,q2⟩:=oy hk h2 k5 hfi;rcases q2 with ⟨_,rfl⟩ | ⟨j,e,e1,_⟩
  case inr=>cases e1
  refine step (es.push { key:=a.eval k,val:=a.eval v,born:=ck }) (ck+1) ?_ ⟨fun x hx =>?_,?_⟩ ?_ ?_
  ·simp only[Instr.mapUpdate,Sem.run_bind,run_underlying hu,Result.andThen_ok,MapKept.run_getObj_map k3,hchk,q1,MapKept.run_setObj_map _ k3];rfl
  ·simp only[Array.toList_push,zy0,zy6] at hx;rcases hx with hx | rfl
   ·have:=k4.1 x hx;omega
   ·simp
  ·simp only[Array.toList_push,zy7,Z3,zz6];refine List.nodup_append.2 ⟨k4.2,by simp,fun x hx y hy =>?_⟩;simp only[zy6] at hy;subst hy;obtain ⟨e,he,rfl⟩:=zy3.1 hx;exact Nat.ne_of_lt (k4.1 e he)
  ·simp only[Array.toList_push,zy7,Z3,zz6];exact w0 k5 (EH kp1 kp2)
  ·simp only[Array.toList_push,zy7,Z3,zz6];exact w0 k6 (EH vp1 vp2)
 ·cases hl
theorem sI{α β:Type}(f:α→β):∀ (l:List α) (i:Nat),(l.eraseIdx i).map f=(l.map f).eraseIdx i
 | [],_=>rfl
 |x::xs,0=>rfl
 |x::xs,i+1=>by simp only[List.eraseIdx_cons_succ,Z3,sI f xs i]
theorem w7{w:World}{D:aK}{E:aN} : ∀ {xs:List I} {us:List Value} (i:Nat),al w D E xs us→al w D E (xs.eraseIdx i) (us.eraseIdx i)
 | [],us,i,h=>by simp only[al] at h;subst h;simp[al]
 |x::xs,us,i,h=>by
  simp only[al] at h;obtain ⟨v,rest,cs,rfl,h1,h2,h3⟩:=h;cases i with
  |zero=>exact h3
  |succ i=>simp only[List.eraseIdx_cons_succ,al];exact ⟨v,_,cs,rfl,h1,h2,w7 i h3⟩
theorem L3{t kt et t':TypeId}{m k:Operand}{m' k':az}{ty:cn}{n:Nat}{ks vs ks' vs':List I}(ho:o.op=.call { callee:=.builtin .delete,args := #[m,k],argTypes := #[t,t'] })(hu:c.P.underlying t=some (.map kt et))(hk:ju c.P kt=some ty)
  (hm:aU c.P 0 m=some m') (hk':aU c.P 0 k=some k') (hmm:af A m'=.mref n) (hn:A.o n=some (.cm ks vs)) (hl:vZ ty (af A k') ks vs=some (ks',vs')) (hd:o.dst=none) :
  gz c A o (A.aQ n (.cm ks' vs')):=by
 intro a w D E hs;have h1:=bp hs hm;have h2:=bp hs hk';rw[hmm] at h1;unfold vZ at hl;split at hl
 case isFalse=>cases hl
 rename_i hkk;obtain ⟨rk,hrk⟩:=zz8.1 hkk;have hchk:=fun em=>uP (P:=c.P) (w:=w) (em:=em) hk h2 hrk 9998;obtain ⟨b,es,ck,k1,k2,k3,k4,k5,k6,k7⟩:=hs.map hn;have hmv:a.eval m=.map (some b):=by
  obtain ⟨cs,q1,q2⟩:=h1;simp only[ae] at q2;obtain ⟨b',q3,q4⟩:=q2;rw[k1] at q3;cases q3;simpa[aZ,I.isAgg,q4] using q1.symm
 have step:∀ (es':Array MapEntry),(Builtin.delete_ #[t,t'] o.type #[.map (some b),a.eval k]).run c.P w=.ok (.tuple #[]) (w.putObj b (.map es' ck))→nM es' ck→al w D E ks' (es'.toList.map (·.key))→al w D E vs' (es'.toList.map (·.val)) →
   ∃ w',((∃ u,(execOp a.eval o).run c.P w=.ok (.value u) w'∧bD c (A.aQ n (.cm ks' vs')) (a.put o.dst u) w')∨((execOp a.eval o).run c.P w=.ok .skip w'∧bD c (A.aQ n (.cm ks' vs')) (a.put o.dst undef) w')):=fun es' hrun hst hks hvs=>by
  refine ⟨w.putObj b (.map es' ck),.inl ⟨.tuple #[],?_,?_⟩⟩
  ·simp[execOp,ho,resolve,invoke,builtin,hmv,hrun]
  ·rw[hd];have:=hs.xg (o':=.map es' ck) (x:=.cm ks' vs') k1 rfl rfl k3 rfl (fun q=>by simp) k2 (fun hl' hh hno=>⟨b,es',ck,k1,k2,hh,hst,al.later hl' _ _ hks,al.later hl' _ _ hvs,hno⟩);exact ⟨D,E,this⟩
 split at hl
 ·rename_i i hfi;simp only[v6,Prod.mk.injEq] at hl;obtain ⟨rfl,rfl⟩:=hl;obtain ⟨q,q1,q2⟩:=oy hk h2 k5 hfi;rcases q2 with ⟨e,_⟩ | ⟨j,e,e1,e2,rfl⟩
  ·cases e
  simp only[Z5,v6] at e1;subst e1;have hes:es[i]?=some e:=by rw[←zy2];exact e2
  have hlen:i<es.size:=(zz4.1 hes).1;have em:(es.eraseIdxIfInBounds i).toList=es.toList.eraseIdx i:=by
   simp[Array.eraseIdxIfInBounds,hlen]
  refine step (es.eraseIdxIfInBounds i) ?_ ⟨fun x hx =>?_,?_⟩ ?_ ?_
  ·simp[Builtin.delete_,run_underlying hu,MapKept.run_getObj_map k3,hchk,q1,MapKept.run_setObj_map _ k3];rfl
  ·rw[em] at hx;exact k4.1 x (List.mem_of_mem_eraseIdx hx)
  ·rw[em,sI];exact k4.2.sublist (List.eraseIdx_sublist _ _)
  ·rw[em,sI];exact w7 i k5
  ·rw[em,sI];exact w7 i k6
 ·rename_i hfi;simp only[v6,Prod.mk.injEq] at hl;obtain ⟨rfl,rfl⟩:=hl;obtain ⟨q,q1,q2⟩:=oy hk h2 k5 hfi;rcases q2 with ⟨_,rfl⟩ | ⟨j,e,e1,_⟩
  case inr=>cases e1
  refine step es ?_ k4 k5 k6;simp[Builtin.delete_,run_underlying hu,MapKept.run_getObj_map k3,hchk,q1,MapKept.run_setObj_map _ k3];rfl
 ·cases hl
theorem L6{t kt et:TypeId}{y:Operand}{y':az}{ks vs:List I}{d:Nat}(ho:o.op=.range t y)(hu:c.P.underlying t=some (.map kt et))(hy:aU c.P 0 y=some y')(h:af A y'=.c6 ks vs)(hd:o.dst=some d)(hn:d<c.n)(hf:A.o d=none) :
  gz c A o ((A.aQ d (.it ks vs (List.range ks.length) none)).put d (.cX d)):=by
 intro a w D E hs;have h1:=bp hs hy;rw[h] at h1;obtain ⟨cs,q1,q2⟩:=h1;simp only[ae] at q2;obtain ⟨b,es,ck,q3,q4,q5,q6⟩:=q2;have hv:a.eval y=.map (some b):=by simpa[aZ,I.isAgg,q3] using q1.symm
 have h2:=hs.WS (.inl hn) hf q4 q5 q6;have h3:=h2.put (x:=.cX d) (v:=.pointer (some ⟨w.heap.size,0,none⟩)) hn ⟨_,by simp[aZ,I.isAgg];rfl,by
  simp only[ae,if_true];exact ⟨w.heap.size,rfl,rfl⟩⟩
 refine ⟨w.alloc (.mapIter (some b) ck #[] ck),.inl ⟨.pointer (some ⟨w.heap.size,0,none⟩),?_,D,_,by rw[hd];exact h3⟩⟩;simp only[execOp,ho,hv,Sem.run_bind,run_range_map w t kt et b es ck hu q4.1,Result.andThen_ok,Sem.run_pure]
theorem B5{es:Array MapEntry}{seen:Array Nat}{i:Nat} : i∈mY es seen↔∃ e,es[i]?=some e∧seen.contains e.born=false:=by
 unfold mY;simp only[List.mem_filter,List.mem_range];constructor
 ·rintro ⟨h1,h2⟩;rw[zx7 h1] at h2 ⊢;exact ⟨_,rfl,by simpa using h2⟩
 ·rintro ⟨e,h1,h2⟩;exact ⟨(zz4.1 h1).1,by rw[h1];simpa using h2⟩
theorem Zp{es:Array MapEntry}{ck:Nat}(hst:nM es ck){i j:Nat}{e f:MapEntry}(hi:es[i]?=some e)(hj:es[j]?=some f)(h:e.born=f.born):i=j:=by
 have hn:=hst.2;rw[←zy2] at hi hj;have h1:(es.toList.map (·.born))[i]?=some e.born:=by rw[zx0,hi];rfl
 have h2:(es.toList.map (·.born))[j]?=some e.born:=by rw[zx0,hj,h];rfl
 have hil:i<(es.toList.map (·.born)).length:=(Z7.1 h1).1;have hjl:j<(es.toList.map (·.born)).length:=(Z7.1 h2).1;exact (List.getElem?_inj hil hn).1 (h1.trans h2.symm)
theorem Ws{es:Array MapEntry}{seen:Array Nat}{ck i:Nat}{e:MapEntry}(hst:nM es ck)(hi:es[i]?=some e):mY es (seen.push e.born)=(mY es seen).filter (· != i):=by
 unfold mY;rw[List.filter_filter];refine List.filter_congr fun j hj =>?_;have hjl:j<es.size:=by simpa using hj
 rw[zx7 hjl];simp only[Array.contains_push];by_cases hij:j=i
 ·subst hij;rw[zx7 hjl,v6] at hi;simp[hi]
 ·have:(es[j].born==e.born)=false:=by
   simp only[beq_eq_false_iff_ne,ne_eq];exact fun h=>hij (Zp hst (zx7 hjl) hi h)
  have h2:(j != i)=true:=by simpa using hij
  simp[this,h2]
theorem WU{y:Operand}{y':az}{ks vs:List I}{left:List Nat}{cur:Option Nat}{n:Nat}(ho:o.op=.next y false)(hy:aU c.P 0 y=some y')(h:af A y'=.cX n)(hn:A.o n=some (.it ks vs left cur))(hdn:∀ k,o.dst=some k→k<c.n){a:Act}{w:World}{D:aK}{E:aN}(hs:aM c A a w D E) :
  ∃ w' v,(execOp a.eval o).run c.P w=.ok (.value v) w'∧((left=[]∧bD c (A.aP o.dst (.tuple [.bool false])) (a.put o.dst v) w') ∨
   ∃ i k x,i∈left∧ks[i]?=some k∧vs[i]?=some x∧bD c ((A.aQ n (.it ks vs (left.filter (· != i)) (some i))).aP o.dst (.tuple [.bool true,k,x])) (a.put o.dst v) w'):=by
 have h1:=bp hs hy;rw[h] at h1;obtain ⟨cs,q1,q2⟩:=h1;simp only[ae] at q2;obtain ⟨r,q3,q4⟩:=q2;have hv:a.eval y=.pointer (some ⟨r,0,none⟩):=by simpa[aZ,I.isAgg,q4] using q1.symm
 have hob:=hs.bB n;rw[hn] at hob;obtain ⟨r',b,es,ck,since,seen,last,k1,k2,k3,k4,k5,k6,k7,k8,k9,k9',k10⟩:=hob;rw[k1] at q3;cases q3;rcases run_next_at (P:=c.P) w o.type r b since last seen es ck k3 k4.1 k7 k8.1 with ⟨h0,hrun⟩ | ⟨e,he,w1,hal,hrun⟩
 ·refine ⟨w,.tuple #[.bool false],by simp only[execOp,ho,hv,Sem.run_bind,hrun,Result.andThen_ok,Sem.run_pure],.inl ⟨?_,D,E,hs.aP hdn ?_⟩⟩
  ·rw[k9];refine List.eq_nil_iff_forall_not_mem.2 fun i hi =>?_;obtain ⟨e,h1,h2⟩:=B5.1 hi;have hm:e∈leftOf es seen:=by
    unfold leftOf;simp only[Array.mem_filter];exact ⟨Array.mem_of_getElem? h1,by simpa using h2⟩
   rw[Array.eq_empty_of_size_eq_zero h0] at hm;simp at hm
  ·simp only[aR,al];exact ⟨[.bool false],rfl,.bool false,[],[.bool false],rfl,by simp[aZ,I.isAgg],by simp[ae],rfl⟩
 ·have hmem:e∈es.toList∧seen.contains e.born=false:=by
   unfold leftOf at he;simp only[Array.toList_filter,List.mem_filter] at he;exact ⟨he.1,by simpa using he.2⟩
  obtain ⟨i,hi⟩:=List.getElem?_of_mem hmem.1;have hie:es[i]?=some e:=by rw[←zy2];exact hi
  obtain ⟨k,hk1,hk2⟩:=lJ (j:=i) (v:=e.key) k5 (by simp only[zx0,hi,zz0]);obtain ⟨x,hx1,hx2⟩:=lJ (j:=i) (v:=e.val) k6 (by simp only[zx0,hi,zz0]);have hsw:aM c A a w1 D E:=by
   rcases hal with rfl | rfl
   ·exact hs
   ·exact hs.grow (w':=w.drew) (D':=D) ⟨rfl,rfl,rfl,Z4 _,fun _ _=>rfl⟩ (fun _ _ h=>h) (fun _ _ h _=>h) (fun b o hd=>hs.cN b o hd)
  have hw1:w1.heap=w.heap:=by rcases hal with rfl | rfl <;>rfl
  have k3':w1.heap[r]?=some (.mapIter (some b) since seen last):=by rw[hw1];exact k3
  have hset:=hsw.xg (x:=.it ks vs (left.filter (· != i)) (some i)) (o':=.mapIter (some b) since (seen.push e.born) ck) k1 rfl rfl k3' rfl (fun q=>by simp) k2
   (fun hl hh hno=>by
    have hm:mZ w1 D b es ck:=⟨by rw[hw1];exact k4.1,k4.2.1,k4.2.2⟩
    have hob:=hsw.bB n;rw[hn] at hob;refine ⟨r,b,es,ck,since,seen.push e.born,ck,k1,k2,hh,hm.later hl,al.later hl _ _ ?_,al.later hl _ _ ?_,k7,?_,?_,fun j hj =>?_,hno⟩
    ·obtain ⟨iL,b2,es2,ck2,si2,se2,la2,g1,g2,g3,g4,g5,g6,_⟩:=hob;rw[k1] at g1;cases g1;rw[k3'] at g3;cases g3;have:=g4.1;rw[hw1,k4.1] at this;cases this;exact g5
    ·obtain ⟨iL,b2,es2,ck2,si2,se2,la2,g1,g2,g3,g4,g5,g6,_⟩:=hob;rw[k1] at g1;cases g1;rw[k3'] at g3;cases g3;have:=g4.1;rw[hw1,k4.1] at this;cases this;exact g6
    ·exact ⟨k8.2,k8.2⟩
    ·rw[k9,Ws k4.2.2 hie]
    ·cases hj;exact ⟨e,hie,by simp,rfl⟩)
  have hset':aM c (A.aQ n (.it ks vs (left.filter (· != i)) (some i))) a (ChangeMaps.setBlock w1 r (.mapIter (some b) since (seen.push e.born) ck)) D E:=hset;refine ⟨_,.tuple #[.bool true,e.key,e.val],by simp only[execOp,ho,hv,Sem.run_bind,hrun,Result.andThen_ok,Sem.run_pure],.inr ⟨i,k,x,?_,hk1,hx1,D,E,hset'.aP hdn ?_⟩⟩
  ·rw[k9];exact B5.2 ⟨e,hie,hmem.2⟩
  ·have hob2:=hset'.bB n;simp only[ab.aQ,if_true] at hob2;obtain ⟨iL,b2,es2,ck2,si2,se2,la2,g1,g2,g3,g4,g5,g6,_⟩:=hob2;rw[k1] at g1;cases g1;have hr2:(ChangeMaps.setBlock w1 r (.mapIter (some b) since (seen.push e.born) ck)).heap[r]?=some (.mapIter (some b) since (seen.push e.born) ck):=World.putObj_heap_same (w:=w1) (eR k3');rw[hr2] at g3;cases g3;have hb2:(ChangeMaps.setBlock w1 r (.mapIter (some b) since (seen.push e.born) ck)).heap[b]?=some (.map es ck):=by
    have:b≠r:=fun e=>by rw[e] at k4;rw[k4.1] at k3;cases k3
    refine (World.putObj_heap_other (w:=w1) this).trans ?_;rw[hw1];exact k4.1
   have:=g4.1;rw[hb2] at this;cases this;obtain ⟨kk,a1,a2⟩:=lJ (j:=i) (v:=e.key) g5 (by simp only[zx0,hi,zz0]);rw[hk1] at a1;cases a1;obtain ⟨xx,b1,b2⟩:=lJ (j:=i) (v:=e.val) g6 (by simp only[zx0,hi,zz0]);rw[hx1] at b1;cases b1;obtain ⟨c1,c2,c3⟩:=nS (o8 k5 hk1) a2;obtain ⟨d1,d2,d3⟩:=nS (o8 k6 hx1) b2;simp only[aR,al];exact ⟨[.bool true,e.key,e.val],rfl,.bool true,_,[.bool true],rfl,by simp[aZ,I.isAgg],by simp[ae],e.key,_,c1,rfl,c2,c3,e.val,[],d1,rfl,d2,d3,rfl⟩
theorem Va{y:Operand}{y':az}{ks vs:List I}{left:List Nat}{i n:Nat}{k x:I}(ho:o.op=.entry y)(hy:aU c.P 0 y=some y')(h:af A y'=.cX n)(hn:A.o n=some (.it ks vs left (some i)))(hk:ks[i]?=some k)(hx:vs[i]?=some x):cM c A o (.tuple [k,x]) :=
 .same fun a w D E hs=>by
  have h1:=bp hs hy;rw[h] at h1;obtain ⟨cs,q1,q2⟩:=h1;simp only[ae] at q2;obtain ⟨r,q3,q4⟩:=q2;have hv:a.eval y=.pointer (some ⟨r,0,none⟩):=by simpa[aZ,I.isAgg,q4] using q1.symm
  have hob:=hs.bB n;rw[hn] at hob;obtain ⟨r',b,es,ck,since,seen,last,k1,k2,k3,k4,k5,k6,k7,k8,k9,k9',k10⟩:=hob;rw[k1] at q3;cases q3;obtain ⟨e,e1,e2,rfl⟩:=k9' i rfl;have hi:es.toList[i]?=some e:=by rw[zy2];exact e1
  obtain ⟨kk,a1,a2⟩:=lJ (j:=i) (v:=e.key) k5 (by simp only[zx0,hi,zz0]);rw[hk] at a1;cases a1;obtain ⟨xx,b1,b2⟩:=lJ (j:=i) (v:=e.val) k6 (by simp only[zx0,hi,zz0]);rw[hx] at b1;cases b1;obtain ⟨c1,c2,c3⟩:=nS (o8 k5 hk) a2;obtain ⟨d1,d2,d3⟩:=nS (o8 k6 hx) b2;have hf:es.find? (·.born==e.born)=some e:=by rw[←Array.find?_toList];exact find_born e es.toList k4.2.2.2 (List.mem_of_getElem? hi)
  refine ⟨.tuple #[e.key,e.val],?_,?_⟩
  ·have hr:(Instr.entry (.pointer (some ⟨r,0,none⟩))).run c.P w=.ok (.tuple #[e.key,e.val]) w:=by
    simp only[Instr.entry,getObj,Sem.run_bind,Sem.run,k3,k4.1,Result.andThen,e2,bne_self_eq_false,Z6,if_false,hf];rfl
   simp only[execOp,ho,hv,Sem.run_bind,hr,Result.andThen_ok,Sem.run_pure]
  ·simp only[aR,al];exact ⟨[e.key,e.val],rfl,e.key,_,c1,rfl,c2,c3,e.val,[],d1,rfl,d2,d3,rfl⟩
theorem Eb{w:World}{D:aK}{E:aN}{z:I}{v:Value}(h:ae w D E z [v]):∀ n:Nat,aC w D E (List.replicate n z) (List.replicate n v)
 |0=>by simp[aC]
 |n+1=>by simp only[List.replicate_succ,aC];exact ⟨[v],_,rfl,h,Eb h n⟩
theorem L5{t e:TypeId}{l l':Operand}{n':az}{z:I}{n d:Nat}{k:IntKind}(ho:o.op=.makeSlice t l l')(hll:l'=l)(hu:c.P.underlying t=some (.slice e))(hl:aU c.P 0 l=some n')(h:af A n'=.int k n)(hz:fG c.P e=some z)(hz1:z.size=1)
  (hc1:c.P.cellsOf e=1) (hby:n*c.P.bytesOf e≤281474976710656) (hmax:n≤maxLen) (hd:o.dst=some d) (hn:d<c.n) (hf:A.o d=none):gz c A o ((A.aQ d (.box (.agg (List.replicate n z)))).put d (.view d [] 1 0 n)):=by
 subst hll;intro a w D E hs;have h1:=bp hs hl;rw[h] at h1;obtain ⟨e1,_⟩:=dq h1;obtain ⟨i,zv,hi,hzz,hzr⟩:=kW hz;have hzc:=ae.length _ _ (hzr w D E);rw[hz1] at hzc;obtain ⟨u,hu1⟩:∃ u,zv.cells = #[u]:=by
  have:zv.cells.size=1:=by simpa using hzc
  obtain ⟨u,hu⟩:=Array.size_eq_one_iff.1 this;exact ⟨u,hu⟩
 have hsz:i.size=1:=by have:=hc1;simp only[Program.cellsOf,hi,zz0,Option.getD_some] at this;exact this
 have hbytes:(i.bytes:Int)*(n:Int)≤281474976710656:=by
  have:c.P.bytesOf e=i.bytes:=by simp[Program.bytesOf,hi]
  rw[this] at hby;have h2:((i.bytes*n:Nat):Int)≤281474976710656:=by rw[Nat.mul_comm] at hby;omega
  rwa [Int.natCast_mul] at h2
 have hrun:=run_make (P:=c.P) w t e i zv hu hi hzz k k n n (by omega) (Int.le_refl _) hbytes (by have h9:=hmax;unfold maxLen at h9;omega);simp only[Int.toNat_natCast,hsz,Nat.mul_one] at hrun;have hmc:(madeCells zv.cells n).toList=List.replicate n u:=by
  rw[hu1];simp only[madeCells];apply List.ext_getElem?;intro j;simp[List.getElem?_replicate];split <;>simp_all[Nat.mod_one]
 have hcells:ae w D E (.agg (List.replicate n z)) (madeCells zv.cells n).toList:=by
  rw[hmc];simp only[ae];refine Eb ?_ n;have:=hzr w D E;rw[hu1] at this;simpa using this
 have h2:=hs.qy (T:=e) (.inl hn) hf hcells;have h3:=h2.put (x:=.view d [] 1 0 n) (v:=.slice (some ⟨w.heap.size,0,none⟩) n n) hn ⟨_,by simp[aZ,I.isAgg];rfl,by
  simp only[ae,if_true];refine ⟨w.heap.size,_,0,I.cK (List.replicate n z),rfl,by simp[bR.off],by simp[I.aL,bR.part],by simp[I.cL],by simpa[I.cL] using hmax,by simp[I.cL],fun s hs =>?_⟩;rw[I.cL] at hs;obtain ⟨y,hy,rfl⟩:=zy3.1 hs;rw[I.iy,(List.mem_replicate.1 hy).2,hz1]⟩
 refine ⟨_,.inl ⟨_,?_,D,_,by rw[hd];exact h3⟩⟩;simp only[execOp,ho,e1,Sem.run_bind,hrun,Result.andThen_ok,Sem.run_pure]
end
section
variable {c:ct} {A:ab} {o:Oper} {x:I}
theorem sM{w:World}{D:aK}{E:aN}{s:ByteArray}(h:s.size≤maxLen):aR w D E (.aj s) (.string s):=⟨[.string s],by simp[aZ,I.isAgg],by simp only[ae,true_and];exact h⟩
theorem Vy{t:TypeId}{y z:Operand}{y' z':az}(ho:o.op=.index t y z)(hu:c.P.underlying t=some .string)(hy:aU c.P 0 y=some y')(hz:aU c.P 0 z=some z')(h:ez .dJ [af A y',af A z']=some x):cM c A o x :=
 .same fun a w D E hs=>by
  have h1:=bp hs hy;have h2:=bp hs hz;generalize af A y'=u at *;generalize af A z'=v at *;unfold ez at h;split at h <;>try (rename_i e _;cases e;done)
  all_goals try (rename_i e1 e2;cases e1;done)
  all_goals try (cases h;done)
  rename_i s k i _ e;simp only[zy1,and_true] at e;obtain ⟨rfl,rfl⟩:=e;split at h
  case isFalse=>cases h
  rename_i hi;simp only[t7] at h;obtain ⟨b,hb,rfl⟩:=h;obtain ⟨e1,hs1⟩:=gh h1;obtain ⟨e2,iL⟩:=dq h2;obtain ⟨hlt,hbe⟩:=Z7.1 hb;have hlt':i.toNat<s.size:=by simpa using hlt
  have hget:s[i.toNat]?=some b:=by
   rw[getElem?_pos s i.toNat hlt']
   congr 1
  refine ⟨.int .u8 b.toNat,?_,ik ⟨?_,?_⟩⟩
  ·simp only[execOp,ho,e1,e2];simp[Instr.index,run_underlying hu,asIntOf,hi,hget]
  ·simp[IntKind.min,IntKind.signed]
  ·have:=b.toNat_lt;simp[IntKind.max,IntKind.bits,IntKind.signed];omega
theorem wH{P:Program}{w:World}{lo hi:Bool}{xs:List I}(h:ez (.ss lo hi) xs=some x) :
  ∃ s:ByteArray,xs.head?=some (.aj s)∧∀ (t:TypeId),P.underlying t=some .string→∃ l r:Nat,l≤r∧r≤s.size∧x=.aj (s.extract l r) ∧
   ((lo=true∧hi=true∧∃ k k',xs=[.aj s,.int k l,.int k' r]∧(Instr.sliceAt t (.string s) (some (.int k l)) (some (.int k' r)) none).run P w=.ok (.string (s.extract l r)) w) ∨
    (lo=true∧hi=false∧∃ k,xs=[.aj s,.int k l]∧(Instr.sliceAt t (.string s) (some (.int k l)) none none).run P w=.ok (.string (s.extract l r)) w) ∨
    (lo=false∧hi=true∧∃ k,xs=[.aj s,.int k r]∧(Instr.sliceAt t (.string s) none (some (.int k r)) none).run P w=.ok (.string (s.extract l r)) w)):=by
 unfold ez at h;split at h <;>(try (rename_i e _;cases e;done)) <;>(try (cases h;done)) <;>(try (rename_i e;cases e))
 ·rename_i s k i;split at h
  case isFalse=>cases h
  rename_i hi;simp only[v6] at h;subst h;obtain ⟨n,rfl⟩:=zz7 hi.1;refine ⟨s,rfl,fun t hu=>⟨0,n,zx8 _,by omega,rfl,.inr (.inr ⟨rfl,rfl,k,rfl,?_⟩)⟩⟩;have:n≤s.size:=by omega
  simp[Instr.sliceAt,Instr.slice,run_underlying hu,Instr.sliceBounds,Instr.sliceBound,asIntOf,this]
 ·rename_i s k i;split at h
  case isFalse=>cases h
  rename_i hi;simp only[v6] at h;subst h;obtain ⟨n,rfl⟩:=zz7 hi.1;refine ⟨s,rfl,fun t hu=>⟨n,s.size,by omega,Z4 _,rfl,.inr (.inl ⟨rfl,rfl,k,rfl,?_⟩)⟩⟩;have:n≤s.size:=by omega
  simp[Instr.sliceAt,Instr.slice,run_underlying hu,Instr.sliceBounds,Instr.sliceBound,asIntOf,this]
 ·rename_i s k i k' j;split at h
  case isFalse=>cases h
  rename_i hi;simp only[v6] at h;subst h;obtain ⟨n,rfl⟩:=zz7 hi.1;obtain ⟨m,rfl⟩:=zz7 (Int.le_trans hi.1 hi.2.1);refine ⟨s,rfl,fun t hu=>⟨n,m,by omega,by omega,rfl,.inl ⟨rfl,rfl,k,k',rfl,?_⟩⟩⟩;have h1:n≤m:=by omega
  have h2:m≤s.size:=by omega
  simp[Instr.sliceAt,Instr.slice,run_underlying hu,Instr.sliceBounds,Instr.sliceBound,asIntOf,h1,h2]
theorem ve{s:ByteArray}{l r:Nat}(h:s.size≤maxLen):(s.extract l r).size≤maxLen:=by
 rw[ByteArray.size_extract];omega
theorem VB{t:TypeId}{y z:Operand}{y' z':az}(ho:o.op=.slice t y none (some z) none)(hu:c.P.underlying t=some .string)(hy:aU c.P 0 y=some y')(hz:aU c.P 0 z=some z')(h:ez (.ss false true) [af A y',af A z']=some x):cM c A o x :=
 .same fun a w D E hs=>by
  have h1:=bp hs hy;have h2:=bp hs hz;obtain ⟨s,e1,hh⟩:=wH (P:=c.P) (w:=w) h;obtain ⟨l,r,_,_,rfl,hc⟩:=hh t hu;simp only[List.head?_cons,v6] at e1;rcases hc with ⟨hc,_⟩ | ⟨hc,_⟩ | ⟨_,_,k,e,hr⟩
  ·cases hc
  ·cases hc
  simp only[zy1,and_true] at e;rw[e.1] at h1;rw[e.2] at h2;obtain ⟨v1,s1⟩:=gh h1;refine ⟨_,?_,sM (ve s1)⟩;simp only[execOp,ho,zz0,zx2,v1,(dq h2).1,Sem.run_bind,hr];rfl
theorem VC{t:TypeId}{y z:Operand}{y' z':az}(ho:o.op=.slice t y (some z) none none)(hu:c.P.underlying t=some .string)(hy:aU c.P 0 y=some y')(hz:aU c.P 0 z=some z')(h:ez (.ss true false) [af A y',af A z']=some x):cM c A o x :=
 .same fun a w D E hs=>by
  have h1:=bp hs hy;have h2:=bp hs hz;obtain ⟨s,e1,hh⟩:=wH (P:=c.P) (w:=w) h;obtain ⟨l,r,_,_,rfl,hc⟩:=hh t hu;simp only[List.head?_cons,v6] at e1;rcases hc with ⟨_,hc,_⟩ | ⟨_,_,k,e,hr⟩ | ⟨hc,_⟩
  ·cases hc
  ·simp only[zy1,and_true] at e;rw[e.1] at h1;rw[e.2] at h2;obtain ⟨v1,s1⟩:=gh h1;refine ⟨_,?_,sM (ve s1)⟩;simp only[execOp,ho,zz0,zx2,v1,(dq h2).1,Sem.run_bind,hr];rfl
  ·cases hc
theorem VA{t:TypeId}{y z q:Operand}{y' z' q':az}(ho:o.op=.slice t y (some z) (some q) none)(hu:c.P.underlying t=some .string)(hy:aU c.P 0 y=some y')(hz:aU c.P 0 z=some z')(hq:aU c.P 0 q=some q')(h:ez (.ss true true) [af A y',af A z',af A q']=some x):cM c A o x :=
 .same fun a w D E hs=>by
  have h1:=bp hs hy;have h2:=bp hs hz;have h3:=bp hs hq;obtain ⟨s,e1,hh⟩:=wH (P:=c.P) (w:=w) h;obtain ⟨l,r,_,_,rfl,hc⟩:=hh t hu;simp only[List.head?_cons,v6] at e1;rcases hc with ⟨_,_,k,k',e,hr⟩ | ⟨_,hc,_⟩ | ⟨hc,_⟩
  ·simp only[zy1,and_true] at e;rw[e.1] at h1;rw[e.2.1] at h2;rw[e.2.2] at h3;obtain ⟨v1,s1⟩:=gh h1;refine ⟨_,?_,sM (ve s1)⟩;simp only[execOp,ho,zz0,zx2,v1,(dq h2).1,(dq h3).1,Sem.run_bind,hr];rfl
  ·cases hc
  ·cases hc
theorem Vu{neg:Bool}{t yt:TypeId}{y z:Operand}{y':az}{ms:Array (String×TypeId)}(ho:o.op=.binOp (if neg then .neq else .eql) t y z yt)(hu:c.P.underlying t=some (.interface ms))(hy:aU c.P 0 y=some y')(hz:aU c.P 0 z=some (.c .cS))(h:ez (.nc neg) [af A y']=some x):cM c A o x :=
 .same fun a w D E hs=>by
  have h1:=bp hs hy;have hz':z=.const .nilIface:=by
   cases z with
   |tmp n=>simp[aU] at hz
   |const v =>
    simp only[aU,t7,az.c.injEq] at hz;obtain ⟨u,hu,rfl⟩:=hz;unfold rK at hu
    (repeat' split at hu) <;>first | (cases hu;done) | rfl
   |global g=>simp[aU] at hz
   |func f=>simp only[aU] at hz;split at hz <;>simp at hz
  subst hz';have he:∀ d v,(∃ tt u,v=Value.iface tt u)→(Op.equalIn (d+1) t v .nilIface).run c.P w=.ok false w:=fun d v hv=>by
   obtain ⟨tt,u,rfl⟩:=hv;simp[Op.equalIn,run_underlying hu]
  have hk:a.eval (.const .nilIface)=.nilIface:=rfl;have he':∀ d,(Op.equalIn (d+1) t .nilIface .nilIface).run c.P w=.ok true w:=fun d=>by simp[Op.equalIn,run_underlying hu]
  unfold ez at h;split at h <;>(try (rename_i e _;cases e;done)) <;>(try (cases h;done)) <;>(try (rename_i e1 e2;cases e1;done))
  ·rename_i ng e1 e;cases e1;simp only[zy1,and_true] at e;simp only[v6] at h;subst h;rw[e] at h1;obtain ⟨cs,q1,q2⟩:=h1;simp only[ae] at q2;have hv:a.eval y=.nilIface:=by simpa[aZ,I.isAgg,q2] using q1.symm
   refine ⟨.bool (!neg),?_,kF _⟩;cases neg <;>simp only[execOp,ho,hv,hk,if_true,Z6,if_false,Sem.run_bind,eqGuard] <;>simp[binOp,Op.equal,Op.maxDepth,he']
  ·rename_i ng tt u e1 e;cases e1;simp only[zy1,and_true] at e;simp only[v6] at h;subst h;rw[e] at h1;obtain ⟨cs,q1,q2⟩:=h1;simp only[ae] at q2;obtain ⟨u',cs',q3,q4,q5⟩:=q2;have hv:a.eval y=.iface tt u':=by simpa[aZ,I.isAgg,q3] using q1.symm
   refine ⟨.bool neg,?_,kF _⟩;cases neg <;>simp only[execOp,ho,hv,hk,if_true,Z6,if_false,Sem.run_bind,eqGuard] <;>simp[binOp,Op.equal,Op.maxDepth,he _ _ ⟨tt,u',rfl⟩]
theorem yO{w:World}{D:aK}{E:aN} : ∀ {es:List I} {cs:List Value} {l:List UInt8},mO es=some l→aC w D E es cs→cs=l.map fun b=>Value.int .u8 b.toNat
 | [],cs,l,h,hr=>by
  simp only[mO,v6] at h;subst h;simpa[aC] using hr
 |x::xs,cs,l,h,hr=>by
  simp only[mO] at h;split at h
  case h_2=>cases h
  rename_i n l' hl;simp only[v6] at h;subst h;simp only[aC] at hr;obtain ⟨c1,c2,rfl,h1,h2⟩:=hr;rw[yO hl h2];simp only[ae] at h1;obtain ⟨rfl,h3,h4⟩:=h1;simp only[IntKind.min,IntKind.max,IntKind.bits,IntKind.signed] at h3 h4;obtain ⟨m,rfl⟩:=zz7 (show 0≤n by simpa using h3);have:m<256:=by simp at h4;omega
  simp only[Z3,List.singleton_append,zy1,and_true,Value.int.injEq,true_and,Int.toNat_natCast];have e:(UInt8.ofNat m).toNat=m:=by simp;omega
  rw[e]
theorem U5{t t' e:TypeId}{y:Operand}{y':az}(ho:o.op=.convert t t' y)(hu:c.P.underlying t=some (.slice e))(he:c.P.underlying e=some (.int .u8))(hd:c.P.underlying t'=some .string)(hy:aU c.P 0 y=some y')(h:lj (cW A 1 (af A y'))=some x):cM c A o x :=
 .same fun a w D E hs=>by
  unfold lj at h;split at h
  case h_2=>cases h
  rename_i es hes;simp only[t7] at h;obtain ⟨l,hl,rfl⟩:=h;obtain ⟨ad,cp,news,hv,h1,h2,h3,h4,h5⟩:=hs.lR (bp hs hy) hes;have hc:=yO hl h3;have hlen:es.length=l.length:=by
   have:=aC.length _ _ h3;rw[hc,I.gx _ h4] at this;simpa using this.symm
  refine ⟨.string ⟨l.toArray⟩,?_,sM ?_⟩
  ·simp only[execOp,ho,hv];rcases Nat.eq_zero_or_pos es.length with h0 | h0
   ·obtain rfl:l=[]:=zx4 (by omega);rw[h0];cases ad with
    |none =>
     simp only[Sem.run_bind,run_convert_bytes_nil w t e hu he 0 cp t' hd];rfl
    |some ad =>
     simp only[Sem.run_bind,run_convert_bytes_string w t t' e (some ad) 0 cp hu he hd,run_bytesToString w ad 0 cp [] (by simp[loadCells,loadCellsFrom])];rfl
   ·obtain ⟨b,off,rfl,h6⟩:=h5 (by intro e0;rw[e0] at h0;cases h0);rw[hlen];have key:=run_convert_bytes_arg (P:=c.P) w t e hu he b off l.length cp (l.map fun b=>(b.toNat:Int)) (by simp) (fun i hi=>by
     refine h6 i _ ?_;rw[hc];simp[zz2 hi,List.getD]) t' hd
    simp only[Sem.run_bind,key];have:strOfNums (l.map fun b=>(b.toNat:Int))=⟨l.toArray⟩:=by
     unfold strOfNums
     congr 1
     simp[Function.comp_def]
    rw[this];rfl
  ·show l.toArray.size≤maxLen
   simp;omega
theorem Vr{x':I}{y z:Operand}{y' z':az}{tys:Array TypeId}(ho:o.op=.call { callee:=.builtin .min,args := #[y,z],argTypes:=tys })(hy:aU c.P 0 y=some y')(hz:aU c.P 0 z=some z')(h:ez .min2 [af A y',af A z']=some x'):cM c A o x' :=
 .same fun a w D E hs=>by
  have h1:=bp hs hy;have h2:=bp hs hz;generalize af A y'=u at *;generalize af A z'=v at *;unfold ez at h;split at h <;>(try (rename_i e _;cases e;done)) <;>(try (cases h;done)) <;>(try (rename_i e1 e2;cases e1;done))
  rename_i k n k2 m _ e;simp only[zy1,and_true] at e;obtain ⟨rfl,rfl⟩:=e;split at h
  case isFalse=>cases h
  rename_i hk;subst hk;simp only[v6] at h;subst h;obtain ⟨v1,r1⟩:=dq h1;obtain ⟨v2,iL⟩:=dq h2;refine ⟨.int k (if m<n then m else n),by simp[execOp,ho,resolve,invoke,builtin,Builtin.min_,Builtin.min2,v1,v2],ik ?_⟩;split
  ·exact iL
  ·exact r1
theorem Vp{t:TypeId}{y:Operand}{y':az}(ho:o.op=.makeInterface t y)(hu:Aj (c.P.underlying t)=true)(hy:aU c.P t y=some y')(h:ez (.mj t) [af A y']=some x):cM c A o x :=
 .same fun a w D E hs=>by
  have h1:=bp hs hy;simp only[ez] at h;split at h
  case isFalse=>cases h
  rename_i hc;simp only[v6] at h;subst h;have hr:(Instr.makeInterface t (a.eval y)).run c.P w=.ok (.iface t (a.eval y)) w:=by
   cases hd:c.P.underlying t with
   |none=>rw[hd] at hu;cases hu
   |some d =>
    rw[hd] at hu;have hr:=run_underlying (w:=w) hd;cases d <;>first | (cases hu;done) | simp[Instr.makeInterface,hr]
  obtain ⟨cs,q1,q2⟩:∃ cs,aZ (af A y') (a.eval y) cs∧ae w D E (af A y') cs:=by
   generalize af A y'=z at *;cases z <;>simp only[I.cC,Z6,and_false] at hc <;>simpa only[aR] using h1
  refine ⟨.iface t (a.eval y),?_,[.iface t (a.eval y)],by simp[aZ,I.isAgg],?_⟩
  ·simp only[execOp,ho,Sem.run_bind];rw[hr];rfl
  ·simp only[ae];exact ⟨_,cs,rfl,q1,q2⟩
theorem Hy(w:World)(e:TypeId)(s:ByteArray):Lib.bytesWorld w e s=w.drew.alloc (.cells (Lib.bytesCells w e s) e ((Lib.bytesCells w e s).size,(Lib.bytesCells w e s).size+1)):=by
 generalize hc:Lib.bytesCells w e s=cs;have hh:(Lib.bytesWorld w e s).heap=(w.drew.alloc (.cells cs e (cs.size,cs.size+1))).heap:=by
  apply Array.ext_getElem?;intro k;rcases Nat.lt_trichotomy k w.heap.size with h | h | h
  ·exact (Lib.bytesWorld_at_old w e s k h).trans (Below.heap_alloc w.drew (.cells cs e (cs.size,cs.size+1)) k h).symm
  ·subst h;rw[Lib.bytesWorld_at_new,hc];exact (heap_alloc_new w.drew _).symm
  ·rw[Array.getElem?_eq_none (by rw[Lib.bytesWorld_size];omega),Array.getElem?_eq_none (by rw[World.size_alloc];show w.heap.size+1≤k;omega)]
 have hf:∀ (u:World) (p:Addr) (n:Nat),(u.freeze p n).tape=u.tape∧(u.freeze p n).drawn=u.drawn∧(u.freeze p n).os=u.os∧(u.freeze p n).output=u.output:=fun u p n=>by
  unfold World.freeze;split <;>exact ⟨rfl,rfl,rfl,rfl⟩
 obtain ⟨f1,f2,f3,f4⟩:=hf (w.drew.alloc (.cells (Lib.bytesCells w e s) e)) ⟨w.heap.size,(Lib.bytesCells w e s).size,none⟩ 1;have h1:(Lib.bytesWorld w e s).tape=(w.drew.alloc (.cells cs e (cs.size,cs.size+1))).tape:=f1;have h2:(Lib.bytesWorld w e s).drawn=(w.drew.alloc (.cells cs e (cs.size,cs.size+1))).drawn:=f2;have h3:(Lib.bytesWorld w e s).os=(w.drew.alloc (.cells cs e (cs.size,cs.size+1))).os:=f3;have h4:(Lib.bytesWorld w e s).output=(w.drew.alloc (.cells cs e (cs.size,cs.size+1))).output:=f4;revert hh h1 h2 h3 h4;generalize Lib.bytesWorld w e s=a;generalize w.drew.alloc (.cells cs e (cs.size,cs.size+1))=b;obtain ⟨_,_,_,_,_⟩:=a;obtain ⟨_,_,_,_,_⟩:=b;rintro rfl rfl rfl rfl rfl;rfl
theorem Y2{t t' e:TypeId}{y:Operand}{y':az}{ys:List I}{d:Nat}(ho:o.op=.convert t t' y)(hu:c.P.underlying t=some .string)(ht':c.P.underlying t'=some (.slice e))(he:c.P.underlying e=some (.int .u8))(hy:aU c.P 0 y=some y')(h:lK (af A y')=some ys)
  (hd:o.dst=some d) (hdn:d<c.n) (hf:A.o d=none) {a:Act} {w:World} {D:aK} {E:aN} (hsim:aM c A a w D E) :
  ∃ v w' m,(execOp a.eval o).run c.P w=.ok (.value v) w'∧ys.length+m≤maxLen∧bD c ((A.aQ d (.box (.agg (ys++List.replicate m (.int .u8 0))))).aP o.dst (.view d [] 1 0 ys.length)) (a.put o.dst v) w':=by
 have h1:=bp hsim hy;unfold lK at h;split at h
 case h_2=>cases h
 rename_i s hs';simp only[v6] at h;rw[hs'] at h1;obtain ⟨hv,hsz⟩:=gh h1;have hge:=grownCap_ge w s.size 0 e;have hle:=grownCap_le_maxLen w s.size 0 e hsz;have hyl:ys.length=s.size:=by rw[←h];simp
 obtain ⟨m,hm⟩:∃ m,m=grownCap w s.size 0 e-s.size:=⟨_,rfl⟩
 have hcl:(Lib.bytesCells w e s).toList=(s.data.toList.map fun b=>Value.int .u8 (b.toNat:Int))++List.replicate m (.int .u8 0):=by
  rw[hm];simp[Lib.bytesCells]
 have hin:∀ b:UInt8,ae w.drew D E (.int .u8 (b.toNat:Int)) [.int .u8 (b.toNat:Int)]:=fun b=>by
  have:=b.toNat_lt;simp only[ae,true_and];simp[IntKind.min,IntKind.max,IntKind.bits,IntKind.signed];omega
 have hr1:aC w.drew D E ys (s.data.toList.map fun b=>Value.int .u8 (b.toNat:Int)):=by
  rw[←h];generalize s.data.toList=l
  induction l with
  |nil=>simp[aC]
  |cons b l ih =>
   simp only[Z3,aC];exact ⟨[.int .u8 b.toNat],_,rfl,hin b,ih⟩
 have hr2:∀ k:Nat,aC w.drew D E (List.replicate k (.int .u8 0)) (List.replicate k (.int .u8 0)):=fun k=>by
  induction k with
  |zero=>simp[aC]
  |succ k ih =>
   simp only[List.replicate_succ,aC];exact ⟨[.int .u8 0],_,rfl,hin 0,ih⟩
 have hrc:ae w.drew D E (.agg (ys++List.replicate m (.int .u8 0))) (Lib.bytesCells w e s).toList:=by
  rw[hcl];simp only[ae];exact jd _ _ _ _ hr1 (hr2 m)
 have hsim':aM c A a w.drew D E:=hsim.grow ⟨rfl,rfl,rfl,Z4 _,fun _ _=>rfl⟩ (fun _ _ h=>h) (fun _ _ h _=>h) (fun b o h=>hsim.cN b o h);have h2:aM c (A.aQ d (.box (.agg (ys++List.replicate m (.int .u8 0))))) a (w.drew.alloc (.cells (Lib.bytesCells w e s) e ((Lib.bytesCells w e s).size,(Lib.bytesCells w e s).size+1))) D _ :=
  hsim'.sQ (e:=.aI w.drew.heap.size (I.agg (ys++List.replicate m (.int .u8 0))).aL) (.inl hdn) hf rfl fun hl hno=>⟨w.drew.heap.size,_,e,by simp,.inl hsim'.db.size,⟨_,heap_alloc_new w.drew _,.inr ⟨rfl,by
   simp only[I.aL,bR.flat,I.cL,zy5,zy3];rintro s' ⟨y,hy,rfl⟩;rcases zy0.1 hy with hy | hy
   ·rw[←h] at hy;obtain ⟨b,_,rfl⟩:=zy3.1 hy;rfl
   ·rw[List.eq_of_mem_replicate hy];rfl⟩⟩,ae.later hl _ _ hrc,hno⟩
 have hlen:(ys++List.replicate m (I.int .u8 0)).length=ys.length+m:=by simp
 have hall:∀ y∈ys++List.replicate m (I.int .u8 0),y.size=1:=by
  intro y hy;rcases zy0.1 hy with hy | hy
  ·rw[←h] at hy;obtain ⟨b,_,rfl⟩:=zy3.1 hy;rfl
  ·rw[List.eq_of_mem_replicate hy];rfl
 have h3:=h2.put (d:=d) (x:=.view d [] 1 0 ys.length) (v:=.slice (some ⟨w.heap.size,0,none⟩) s.size (grownCap w s.size 0 e)) hdn ⟨_,by simp[aZ,I.isAgg];rfl,by
  simp only[ae,if_true];refine ⟨w.heap.size,(I.agg (ys++List.replicate m (.int .u8 0))).aL,0,I.cK (ys++List.replicate m (.int .u8 0)),rfl,by cases (I.agg (ys++List.replicate m (.int .u8 0))).aL <;>simp[bR.off],by simp only[I.aL,bR.part],?_,?_,?_,?_⟩
  ·rw[I.cL,Z2,hlen,hm];simp;omega
  ·rw[I.cL,Z2,hlen];omega
  ·rw[I.cL,Z2,hlen];omega
  ·rw[I.cL];intro s hs;obtain ⟨f,hf,rfl⟩:=zy3.1 hs;rw[I.iy];exact hall f hf⟩
 refine ⟨.slice (some ⟨w.heap.size,0,none⟩) s.size (grownCap w s.size 0 e),Lib.bytesWorld w e s,m,?_,by omega,?_⟩
 ·simp only[execOp,ho,hv,Sem.run_bind,Lib.run_convert_string_bytes w t t' e s hu ht' he];rfl
 ·rw[hd,Hy];exact ⟨D,_,h3⟩
end
end Go.Abs
namespace Go.Abs
open Go Go.RowKit
mutual
/-- Values that lead to no memory. -/
def I.flat:I→Bool
 | .agg fs | .tuple fs=>I.oz fs
 | .bool _ | .int _ _ | .aj _ | .nilp | .de | .cS | .any | .raw _ | .undef | .cY=>true
 |_=>false
def I.oz:List I→Bool
 | []=>true
 |x::xs=>x.flat&&I.oz xs
end
mutual
theorem ae.flat{w w':World}{D D':aK}{E E':aN} : ∀ (x:I) (cs:List Value),x.flat=true→ae w D E x cs→ae w' D' E' x cs
 | .agg fs,cs,hf,hr=>by simp only[ae,I.flat] at *;exact aC.flat fs cs hf hr
 | .bool b,cs,_,hr=>by simpa only[ae] using hr
 | .int k n,cs,_,hr=>by simpa only[ae] using hr
 | .aj s,cs,_,hr=>by simpa only[ae] using hr
 | .nilp,cs,_,hr=>by simpa only[ae] using hr
 | .de,cs,_,hr=>by simpa only[ae] using hr
 | .cS,cs,_,hr | .any,cs,_,hr=>by simpa only[ae] using hr
 | .raw _,cs,_,hr=>by simpa only[ae] using hr
 | .undef,_,_,hr=>by simp only[ae] at hr
 | .cY,_,_,hr=>by simp only[ae] at hr
 | .tuple _,_,_,hr=>by simp only[ae] at hr
 | .nils _,_,hf,_ | .c0 _,_,hf,_ | .slice _ _,_,hf,_ | .ref _,_,hf,_ | .func _ _,_,hf,_ | .iface _ _,_,hf,_ | .ptr _ _,_,hf,_ | .own _ _,_,hf,_ | .view _ _ _ _ _,_,hf,_ | .mref _,_,hf,_ | .cX _,_,hf,_ | .c6 _ _,_,hf,_=>by simp[I.flat] at hf
theorem aC.flat{w w':World}{D D':aK}{E E':aN} : ∀ (xs:List I) (cs:List Value),I.oz xs=true→aC w D E xs cs→aC w' D' E' xs cs
 | [],cs,_,hr=>by simpa only[aC] using hr
 |x::xs,cs,hf,hr=>by
  simp only[aC,I.oz,Z0] at *;obtain ⟨c1,c2,h1,h2,h3⟩:=hr;exact ⟨c1,c2,h1,ae.flat x c1 hf.1 h2,aC.flat xs c2 hf.2 h3⟩
end
theorem al.flat{w w':World}{D D':aK}{E E':aN} : ∀ (xs:List I) (vs:List Value),I.oz xs=true→al w D E xs vs→al w' D' E' xs vs
 | [],vs,_,hr=>by simpa only[al] using hr
 |x::xs,vs,hf,hr=>by
  simp only[al,I.oz,Z0] at *;obtain ⟨v,rest,cs,h1,h2,h3,h4⟩:=hr;exact ⟨v,rest,cs,h1,h2,ae.flat x cs hf.1 h3,al.flat xs rest hf.2 h4⟩
theorem aR.flat{w w':World}{D D':aK}{E E':aN}{x:I}{v:Value}(hf:x.flat=true)(hr:aR w D E x v):aR w' D' E' x v:=by
 cases x <;>simp only[aR] at * <;>first
  |exact hr
  |(obtain ⟨vs,h1,h2⟩:=hr;exact ⟨vs,h1,al.flat _ _ (by simpa[I.flat] using hf) h2⟩)
  |(obtain ⟨cs,h1,h2⟩:=hr;exact ⟨cs,h1,ae.flat _ _ hf h2⟩)
def cB:aN:=fun _=>none
def aS(P:Program)(f:FuncId)(args:List I)(r:I):Prop :=
 dS P f=true∧∀ (w:World) (D:aK) (vs:List Value),eG P w (fun _=>False)→(∀ b o,D b o→b<w.heap.size)→al w D cB args vs →
  Calls P f vs.toArray w fun e w'=>∃ v D',e=.returned v∧aR w' D' cB r v∧Below w.heap.size w w'∧(∀ b o,D' b o→b<w'.heap.size)∧∀ b o,D' b o→b<w.heap.size→D b o
def eW(P:Program)(f:FuncId)(args:List I)(os:List (Nat×ai))(post:cj):Prop :=
 dS P f=true∧mI (Calls P f) (fun w _ E=>eG P w (bX E)) args os post
def bE(p:Nat→Bool):List (Nat×ai)→Prop
 | []=>True
 |(_,v)::r=>v.only p=true∧bE p r
def dD(ns:List Nat)(os:List (Nat×ai)):List (Nat×ai):=os.filter fun q => !ns.contains q.1
def ib(ns:List Nat)(ts:List (Nat×I)):List (Nat×I):=ts.map fun q=>(q.1,if q.2.only (fun n => !ns.contains n) then q.2 else .cY)
def kD(ns:List Nat)(os:List (Nat×ai)):List (Nat×ai):=os.filter fun q=>ns.contains q.1
def iI(ρ:List (Nat×Nat))(os:List (Nat×ai)):List Nat:=os.map fun q=>bh ρ q.1
def gl(aI:Bool)(A0:ab)(ρ:List (Nat×Nat))(os:List (Nat×ai)):List I→List I→Prop
 | [],[]=>True
 |x::xs,c::cs=>((x=c.aO (bh ρ)∧c.only (ao os)=true∧c.cC=true)∨bd aI A0 x=some c)∧gl aI A0 ρ os xs cs
 |_,_=>False
structure ay where
 dst:Option Nat
 op:bw
 guard:Option (Nat×Bool)
 deriving Inhabited
inductive cg where
 |done (A:ab)
 |fail
 |call (f:FuncId) (avs:List I) (a1 a2:Option (List I)) (dst:Option Nat) (rest:List ay) (A:ab)
 |lu (v:Value) (avs:List I) (dst:Option Nat) (rest:List ay) (A:ab)
 |gM (f:FuncId) (avs:List I) (dst:Option Nat) (rest:List ay) (A:ab)
 |any (p:Nat→Prop) (k:Nat→cg)
def cq(x:Option I)(k:I→cg):cg:=match x with
 |some v=>k v
 |none=>.fail
def wu(s:Option Nat)(v old:I):Prop:=v.cC=true∧b6 s v=true∧v.aL=old.aL
def wm(e esz bytes l sz:Nat)(ys:List I)(T sz':Nat)(es:List I):Prop:=l=es.length∧sz=esz∧T=e∧sz'=esz∧ys≠[]∧es.length+ys.length≤maxLen∧(es.length+ys.length)*bytes≤140737488355328
def qd(ys:List I):List Int:=ys.filterMap fun y=>match y with | .int .i64 i=>some i | _=>none
def wo(e esz bytes l:Nat)(ys:List I)(T:Nat)(xs:List Int)(z:I):Prop:=l=xs.length∧esz=1∧T=e∧z=.int .i64 0∧ys=(qd ys).map (.int .i64)∧ys≠[]∧xs.length+ys.length≤maxLen∧(xs.length+ys.length)*bytes≤140737488355328
def jh:I→Bool
 | .slice _ es=>es.isEmpty
 | .c0 _=>true
 |_=>false
def kv(f:Nat):Nat:=if f<1000000 then f else f-1000000
def gR(f:Nat)(args caps:List I):List I:=if f<1000000 then args++caps else caps++args
theorem vg{f:Nat}(h:f<1000000):kv f=f:=by simp only[kv,if_pos h]
theorem vf{f:Nat}(h:f<1000000)(args caps:List I):gR f args caps=args++caps:=by simp only[gR,if_pos h]
theorem AR(g:Nat):kv (g+1000000)=g:=by simp only[kv,if_neg (show ¬ g+1000000<1000000 by omega),Nat.add_sub_cancel]
theorem AQ(g:Nat)(args caps:List I):gR (g+1000000) args caps=caps++args:=by simp only[gR,if_neg (show ¬ g+1000000<1000000 by omega)]
open Classical in
noncomputable def fh(A:ab)(dst:Option Nat)(esz bytes:Nat)(z:I)(es ys:List I)(k:ab→cg):cg :=
 match dst with
 |some d=>match A.o d with
  |none=>if (es.length+ys.length)*bytes≤140737488355328∧es.length+ys.length≤maxLen then
    .any (fun m=>es.length+ys.length+m≤maxLen) (fun m=>k ((A.aQ d (.box (.agg (es++(ys++List.replicate m z))))).aP dst (.view d [] esz 0 (es.length+ys.length)))) else .fail
  |some _=>.fail
 |none=>.fail
open Classical in
noncomputable def ed(A:ab)(dst:Option Nat)(esz bytes:Nat)(z:I)(s:I):Option (List I)→Option (List I)→(ab→cg)→cg
 |some es,some ys,k=>if ys=[] then k (A.aP dst s) else match s with
  | .nils _=>fh A dst esz bytes z es ys k
  | .c0 _=>fh A dst esz bytes z es ys k
  | .view n p sz lo l=>match A.o n with
   |some (.box b)=>match b.at p with
    |some (.agg fs)=>if lo+l+ys.length≤fs.length then
      (if sz=esz∧I.cK ys=I.cK ((fs.drop (lo+l)).take ys.length) then k ((A.aQ n (.box (iw b p (lo+l) fs ys))).aP dst (.view n p esz lo (l+ys.length))) else .fail)
      else fh A dst esz bytes z es ys k
    |_=>.fail
   |_=>.fail
  |_=>.fail
 |_,_,_=>.fail
open Classical in
noncomputable def pJ(A:ab)(dst:Option Nat)(esz bytes:Nat)(z:I)(m:Nat)(s:I):Option (List I)→(ab→cg)→cg
 |some es,k=>match s with
  | .view n p _ lo l=>match A.o n with
   |some (.box b)=>match b.at p with
    |some (.agg fs)=>if 0<m∧fs.length<lo+l+m then fh A dst esz bytes z es (List.replicate m z) k else .fail
    |_=>.fail
   |_=>.fail
  |_=>.fail
 |_,_=>.fail
open Classical in
noncomputable def od(A:ab)(esz:Nat)(z:I)(k:ab→cg):I→cg
 | .view n p sz lo l=>match A.o n with
  |some (.box b)=>match b.at p with
   |some (.agg fs)=>if sz=esz∧I.cK (List.replicate l z)=I.cK ((fs.drop lo).take l) then k (A.aQ n (.box (iw b p lo fs (List.replicate l z)))) else .fail
   |_=>.fail
  |_=>.fail
 | .nils _=>k A
 | .c0 _=>k A
 |_=>.fail
open Classical in
noncomputable def kp(A:ab)(dst:Option Nat)(esz:Nat)(k:ab→cg):I→Option (List I)→cg
 | .view n p sz lo l,some ys=>match A.o n with
  |some (.box b)=>match b.at p with
   |some (.agg fs)=>if sz=esz∧I.cK (ys.take (min ys.length l))=I.cK ((fs.drop lo).take (min ys.length l)) then k ((A.aQ n (.box (iw b p lo fs (ys.take (min ys.length l))))).aP dst (.int .i64 (min ys.length l:Nat))) else .fail
   |_=>.fail
  |_=>.fail
 | .c0 _,some _=>k (A.aP dst (.int .i64 0))
 |_,_=>.fail
def iv(A:ab)(dst:Option Nat)(k:ab→cg):Option (List I)→cg
 |some ys=>match dst with
  |some d=>match A.o d with
   |none=>.any (fun m=>ys.length+m≤maxLen) fun m=>k ((A.aQ d (.box (.agg (ys++List.replicate m (.int .u8 0))))).aP dst (.view d [] 1 0 ys.length))
   |some _=>.fail
  |none=>.fail
 |none=>.fail
open Classical in
noncomputable def aW(A:ab)(dst:Option Nat)(op:bw)(rest:List ay)(k:ab→cg):cg :=
 match op with
 | .alloc z=>match dst with
  |some d=>match A.o d with
   |none=>k ((A.aQ d (.box z)).put d (.ptr d []))
   |some _=>.fail
  |none=>.fail
 | .box x=>match dst with
  |some d=>match A.o d with
   |none=>if (af A x).cC then k ((A.aQ d (.box (af A x))).put d (.ptr d [])) else .fail
   |some _=>.fail
  |none=>.fail
 | .aT s x v=>match dst with
  |none=>match af A x with
   | .ptr n p=>match A.o n with
    |some (.box b)=>match b.at p with
     |some old=>if wu s (af A v) old then k (A.aQ n (.box (b.du p (af A v)))) else .fail
     |none=>.fail
    |_=>.fail
   |_=>.fail
  |some _=>.fail
 | .dM e esz bytes z s x=>match af A s with
  | .own n l=>match af A x with
   | .slice sz ys=>match A.o n with
    |some (.bH T sz' es)=>if wm e esz bytes l sz ys T sz' es then k ((A.aQ n (.bH e esz (es++ys))).aP dst (.own n (es.length+ys.length))) else .fail
    |some (.dK T xs)=>if wo e esz bytes l ys T xs z then k ((A.aQ n (.dK e (xs++qd ys))).aP dst (.own n (xs.length+ys.length))) else .fail
    |_=>.fail
   |_=>.fail
  |s'=>ed A dst esz bytes z s' (cW A esz s') (cW A esz (af A x)) k
 | .jI _ esz bytes z s n=>match af A n with
  | .int _ m=>pJ A dst esz bytes z m.toNat (af A s) (cW A esz (af A s)) k
  |_=>.fail
 | .nilS neg x=>if jh (af A x) then .any (fun m=>m<2) (fun m=>k (A.aP dst (.bool (m==0)))) else cq (aV A (.nilS neg x)) fun v=>k (A.aP dst v)
 | .jq esz z x=>match dst with
  |none=>od A esz z k (af A x)
  |some _=>.fail
 | .gp esz x y=>kp A dst esz k (af A x) (kc A esz (af A y))
 | .eM x=>iv A dst k (lK (af A x))
 | .call f args=>.call f (args.map (af A)) (bJ true A (args.map (af A))) (bJ false A (args.map (af A))) dst rest A
 | .fA x args=>match af A x with
  | .func f caps=>.call (kv f) (gR f (args.map (af A)) caps) (bJ true A (gR f (args.map (af A)) caps)) (bJ false A (gR f (args.map (af A)) caps)) dst rest A
  | .raw v=>.lu v (args.map (af A)) dst rest A
  |_=>.fail
 | .gM f args=>.gM f (args.map (af A)) dst rest A
 | .kG=>match dst with
  |some d=>match A.o d with
   |none=>k ((A.aQ d (.cm [] [])).put d (.mref d))
   |some _=>.fail
  |none=>.fail
 | .jz _ bytes z n=>match dst with
  |some d=>match A.o d with
   |none=>match af A n with
    | .int _ n=>if 0≤n∧n.toNat*bytes≤281474976710656∧n.toNat≤maxLen then k ((A.aQ d (.box (.agg (List.replicate n.toNat z)))).put d (.view d [] 1 0 n.toNat)) else .fail
    |_=>.fail
   |some _=>.fail
  |none=>.fail
 | .jY ty m key v=>match dst with
  |none=>match af A m with
   | .mref n=>match A.o n with
    |some (.cm ks vs)=>match qv ty (af A key) (af A v) ks vs with
     |some (ks',vs')=>k (A.aQ n (.cm ks' vs'))
     |none=>.fail
    |_=>.fail
   |_=>.fail
  |some _=>.fail
 | .lD ty m key=>match dst with
  |none=>match af A m with
   | .mref n=>match A.o n with
    |some (.cm ks vs)=>match vZ ty (af A key) ks vs with
     |some (ks',vs')=>k (A.aQ n (.cm ks' vs'))
     |none=>.fail
    |_=>.fail
   |_=>.fail
  |some _=>.fail
 | .ka x=>match dst with
  |some d=>match A.o d with
   |none=>match af A x with
    | .c6 ks vs=>k ((A.aQ d (.it ks vs (List.range ks.length) none)).put d (.cX d))
    |_=>.fail
   |some _=>.fail
  |none=>.fail
 | .jZ x=>match af A x with
  | .cX n=>match A.o n with
   |some (.it ks vs left cur)=>if left=[] then k (A.aP dst (.tuple [.bool false])) else
     .any (fun i=>i∈left) fun i=>match ks[i]?,vs[i]? with
      |some kk,some x=>k ((A.aQ n (.it ks vs (left.filter (· != i)) (some i))).aP dst (.tuple [.bool true,kk,x]))
      |_,_=>.fail
   |_=>.fail
  |_=>.fail
 |op=>cq (aV A op) fun v=>k (A.aP dst v)
noncomputable def ar:List ay→ab→cg
 | [],A=>.done A
 |g::rest,A=>match g.guard with
  |none=>aW A g.dst g.op rest (ar rest)
  |some (t,b)=>match A.t t with
   | .bool b'=>if b'=b then aW A g.dst g.op rest (ar rest) else ar rest (A.aP g.dst .undef)
   | .undef=>ar rest (A.aP g.dst .undef)
   |_=>.fail
def yl(P:Program)(A:ab)(f:FuncId)(avs:List I)(r:I):Prop :=
 ∀ (c:ct) (a:Act) (w:World) (D:aK) (E:aN) (vs:List Value),c.P=P→aM c A a w D E→ea (aR w D E) avs vs→∃ v,(callFunc f vs.toArray).run P w=.ok (.value v) w∧aR w D E r v
inductive aY (P:Program) (Y:Value→List I→List (Nat×ai)→cj→Prop) (dr:Bool) (K:ab→Prop):cg→Prop where
 |done {A:ab} : K A→aY P Y dr K (.done A)
 |flat {f:FuncId} {avs cargs:List I} {a2:Option (List I)} {dst:Option Nat} {rest:List ay} {A:ab} (r:I):aS P f cargs r→r.flat=true→aY P Y dr K (ar rest (A.aP dst r))→aY P Y dr K (.call f avs (some cargs) a2 dst rest A)
 |lead {f:FuncId} {avs cargs:List I} {a1:Option (List I)} {dst:Option Nat} {rest:List ay} {A:ab} (r:I):aS P f cargs r→aY P Y dr K (ar rest (A.aP dst r))→aY P Y dr K (.call f avs a1 (some cargs) dst rest A)
 |jQ {f:FuncId} {avs cargs:List I} {a1 a2:Option (List I)} {dst:Option Nat} {rest:List ay} {ts:List (Nat×I)} {os0:List (Nat×ai)} (ns:List Nat) (r:I):dr=false→aS P f cargs r→bJ true (aq ts (kD ns os0)) avs=some cargs →
   bE (fun n => !ns.contains n) (dD ns os0)→aY P Y dr K (ar rest ((aq (ib ns ts) (dD ns os0)).aP dst r))→aY P Y dr K (.call f avs a1 a2 dst rest (aq ts os0))
 |bB {f:FuncId} {avs:List I} {a1 a2:Option (List I)} {dst:Option Nat} {rest:List ay} {ts:List (Nat×I)} {os0:List (Nat×ai)} (aI:Bool) (ρ:List (Nat×Nat)) (os:List (Nat×ai)) (cargs:List I) (post:cj):dr=false→eW P f cargs os post →
   eP ρ os os0→gl aI (aq ts (dD (iI ρ os) os0)) ρ os avs cargs→(∀ r os',post r os'→dh aI ρ os os0 r os') →
   (∀ r os',post r os'→aY P Y dr K (ar rest ((aq ts (cO ρ os'++os0)).aP dst (r.aO (bh ρ)))))→aY P Y dr K (.call f avs a1 a2 dst rest (aq ts os0))
 |tU {v:Value} {avs:List I} {dst:Option Nat} {rest:List ay} {ts:List (Nat×I)} {os0:List (Nat×ai)} (os:List (Nat×ai)) (cargs:List I) (post:cj):dr=false→Y v cargs os post →
   eP [] os os0→gl false (aq ts (dD (iI [] os) os0)) [] os avs cargs→(∀ r os',post r os'→dh false [] os os0 r os') →
   (∀ r os',post r os'→aY P Y dr K (ar rest ((aq ts (cO [] os'++os0)).aP dst (r.aO (bh [])))))→aY P Y dr K (.lu v avs dst rest (aq ts os0))
 |ext {f:FuncId} {avs:List I} {dst:Option Nat} {rest:List ay} {A:ab} (r:I):dr=false→yl P A f avs r→aY P Y dr K (ar rest (A.aP dst r))→aY P Y dr K (.gM f avs dst rest A)
 |any {p:Nat→Prop} {k:Nat→cg} : dr=false→(∀ m,p m→aY P Y dr K (k m))→aY P Y dr K (.any p k)
def Ay(n:Nat):Option Nat→Bool
 |some d=>decide (d<n)
 |none=>true
def lr(P:Program)(n:Nat)(bl:Array Oper)(o:Oper):Option ay :=
 match cD P o with
 |none=>none
 |some g=>if Ay n o.dst=true then
   match o.guard with
   |none=>some ⟨o.dst,g,none⟩
   |some (j,b)=>match (bl[j]?).bind (·.dst) with
    |some t=>some ⟨o.dst,g,some (t,b)⟩
    |none=>none
  else none
def fJ(P:Program)(n:Nat)(bl:Array Oper):List Oper→Option (List ay)
 | []=>some []
 |o::l=>match lr P n bl o,fJ P n bl l with
  |some g,some gs=>some (g::gs)
  |_,_=>none
end Go.Abs
namespace Go.Abs
open Go Go.RowKit
section
variable {c:ct} {A:ab} {o:Oper} {x:I}
theorem CU{g:bw}(hg:cD c.P o=some g)(h:aV A g=some x):cM c A o x:=by
 unfold cD at hg;split at hg
 -- move
 ·rename_i y ho;simp only[t7] at hg;obtain ⟨z,hz,rfl⟩:=hg;simp only[aV,v6] at h;subst h;exact Bw (.inl ho) hz
 ·rename_i y ho;simp only[t7] at hg;obtain ⟨z,hz,rfl⟩:=hg;simp only[aV,v6] at h;subst h;exact Bw (.inr ho) hz
 -- pick
 ·rename_i q y z ho;split at hg
  ·rename_i q' y' z' h1 h2 h3;simp only[v6] at hg;subst hg;simp only[aV] at h;split at h
   ·rename_i t ht;simp only[v6] at h;subst h;exact Vw ho h1 h2 h3 ht
   ·cases h
  ·cases hg
 -- binOp
 ·rename_i op t y z yt ho;split at hg
  ·rename_i k y' z' hu h1 h2;simp only[v6] at hg;subst hg;exact Bu ho h1 h2 h
  ·rename_i y' z' hu h1 h2;simp only[v6] at hg;subst hg;exact Bu ho h1 h2 h
  ·rename_i e y' z' hu h1 h2;split at hg
   ·rename_i s;split at hg
    ·rename_i hop;simp only[v6] at hg;subst hg;have ho':o.op=.binOp (if (op==.neq)=true then .neq else .eql) t y z yt:=by
      rcases hop with rfl | rfl <;>simpa using ho
     simp only[aV] at h;split at h
     ·rename_i s' hs';simp only[v6] at h;subst h;have:=vC (r:=true) ho' hu h1 h2 (.inl ⟨s',hs',rfl⟩);rw[show (if (op==BinOp.neq)=true then !true else true) = !(op==BinOp.neq) from by cases (op==BinOp.neq) <;>rfl] at this;exact this
     ·rename_i s' es hs';split at h
      ·cases h
      ·rename_i hne;simp only[v6] at h;subst h;have:=vC (r:=false) ho' hu h1 h2 (.inr (.inl ⟨s',es,hs',by simpa using hne,rfl⟩));rw[show (if (op==BinOp.neq)=true then !false else false)=(op==BinOp.neq) from by cases (op==BinOp.neq) <;>rfl] at this;exact this
     ·rename_i n p s' lo k hs';simp only[v6] at h;subst h;have:=vC (r:=false) ho' hu h1 h2 (.inr (.inr ⟨n,p,s',lo,k,hs',rfl⟩));rw[show (if (op==BinOp.neq)=true then !false else false)=(op==BinOp.neq) from by cases (op==BinOp.neq) <;>rfl] at this;exact this
     ·cases h
    ·cases hg
   ·cases hg
  ·rename_i e y' z' hu h1 h2;split at hg
   ·rename_i hop;simp only[v6] at hg;subst hg;have ho':o.op=.binOp (if (op==.neq)=true then .neq else .eql) t y z yt:=by
     rcases hop with rfl | rfl <;>simpa using ho
    simp only[aV] at h;cases hb1:ij (af A y') with
    |none=>rw[hb1] at h;cases h
    |some b1=>cases hb2:ij (af A z') with
     |none=>rw[hb1,hb2] at h;cases h
     |some b2 =>
      rw[hb1,hb2] at h;simp only[mu] at h;split at h
      ·rename_i hor;simp only[v6] at h;subst h;exact Vx ho' hu h1 h2 hb1 hb2 (by simpa using hor)
      ·cases h
   ·cases hg
  ·rename_i ms y' z' hu h1 h2;split at hg
   ·split at hg
    ·rename_i hop;simp only[v6] at hg;subst hg;have ho':o.op=.binOp (if (op==.neq)=true then .neq else .eql) t y z yt:=by
      rcases hop with rfl | rfl <;>simpa using ho
     exact Vu ho' hu h1 h2 (by simpa only[aV,Z3,zz6] using h)
    ·cases hg
   ·cases hg
  ·rename_i d y' z' _ _ _ _ _ hu h1 h2;split at hg
   ·rename_i hop;simp only[t7] at hg;obtain ⟨ty,hty,rfl⟩:=hg;have ho':o.op=.binOp (if (op==.neq)=true then .neq else .eql) t y z yt:=by
     rcases hop.1 with rfl | rfl <;>simpa using ho
    simp only[aV,t7] at h;obtain ⟨r,hr,rfl⟩:=h;exact Vb ho' h1 h2 hop.2 hty hr
   ·cases hg
  ·cases hg
 -- unOp
 ·rename_i op t y ho;simp only[t7] at hg;obtain ⟨z,hz,rfl⟩:=hg;simp only[aV] at h;split at h
  ·rename_i b hb;simp only[v6] at h;subst h;exact Vv ho hz hb
  ·rename_i k n hb;simp only[v6] at h;subst h;exact Vt ho hz hb
  ·rename_i k n hb;simp only[v6] at h;subst h;exact U9 ho hz hb
  ·cases h
 -- nilCheck
 ·rename_i y ho;simp only[t7] at hg;obtain ⟨z,hz,rfl⟩:=hg;simp only[aV] at h;cases hy:af A z <;>rw[hy] at h <;>simp only[na,v6] at h <;>try (cases h;done)
  ·subst h;rw[←hy];exact Bx ho hz (.inr ⟨_,hy⟩)
  ·subst h;rw[←hy];exact Bx ho hz (.inl ⟨_,_,hy⟩)
 -- makeMap
 ·simp only[v6] at hg;subst hg;simp[aV] at h
 -- lookup
 ·rename_i t m k ok ho;split at hg
  ·rename_i kt et m' k' hu h1 h2;split at hg
   ·rename_i ty z hk hz;split at hg
    ·rename_i hp;simp only[v6] at hg;subst hg;simp only[aV] at h;cases hm:gb A (af A m') with
     |none=>rw[hm] at h;cases h
     |some q =>
      obtain ⟨ks,vs⟩:=q;rw[hm] at h;simp only[qm] at h;cases hl:qo ty z (af A k') ks vs with
      |none=>rw[hl] at h;cases h
      |some q =>
       obtain ⟨v,b⟩:=q;rw[hl] at h;simp only[qn,v6] at h;subst h;exact Vn ho hu hk hz hp h1 h2 hm hl
    ·cases hg
   ·cases hg
  ·cases hg
 -- mapUpdate,insert
 iterate 2
  ·split at hg
   ·split at hg
    ·simp only[v6] at hg;subst hg;simp[aV] at h
    ·cases hg
   ·cases hg
 -- makeSlice
 ·split at hg
  ·split at hg
   ·split at hg
    ·simp only[v6] at hg;subst hg;simp[aV] at h
    ·cases hg
   ·cases hg
  ·cases hg
 -- range
 ·split at hg
  ·simp only[t7] at hg;obtain ⟨z,_,rfl⟩:=hg;simp[aV] at h
  ·cases hg
 -- next
 ·simp only[t7] at hg;obtain ⟨z,_,rfl⟩:=hg;simp[aV] at h
 -- entry
 ·rename_i y ho;simp only[t7] at hg;obtain ⟨z,hz,rfl⟩:=hg;simp only[aV] at h;split at h
  ·rename_i n hn;split at h
   ·rename_i ks vs left cur hob;cases cur with
    |none=>cases h
    |some i =>
     simp only[rV] at h;split at h
     ·rename_i kk xx hk hx;simp only[v6] at h;subst h;exact Va ho hz hn hob hk hx
     ·cases h
   ·cases h
  ·cases h
 -- convert
 ·rename_i lR dst y ho;split at hg
  ·rename_i k0 k y' h1 h2 h3;simp only[v6] at hg;subst hg;simp only[aV] at h;split at h
   ·rename_i k1 n hn;simp only[v6] at h;subst h;exact U8 ho h1 h2 h3 hn
   ·cases h
  ·rename_i e y' h1 h2 h3;split at hg
   ·rename_i he;simp only[v6] at hg;subst hg;exact U5 ho h1 he h2 h3 (by simpa only[aV] using h)
   ·cases hg
  ·rename_i e y' h1 h2 h3;split at hg
   ·rename_i he;simp only[v6] at hg;subst hg;simp only[aV] at h;cases h
   ·cases hg
  ·cases hg
 -- load
 ·rename_i t y ho;split at hg
  ·rename_i s y' h1 h2;simp only[v6] at hg;subst hg;simp only[aV] at h;split at h
   ·rename_i v hv;split at h
    ·rename_i hok;simp only[v6] at h;subst h;exact Vm ho h1 h2 hv hok
    ·cases h
   ·cases h
  ·cases hg
 -- fieldAddr
 ·rename_i t y f ho;split at hg
  ·rename_i fs y' hu h1;split at hg
   ·rename_i fd hf;split at hg
    ·cases hg
    ·rename_i hz;simp only[v6] at hg;subst hg;simp only[aV] at h;split at h
     ·rename_i gs hgs;split at h
      ·rename_i v hv;split at h
       ·rename_i hoff;simp only[v6] at h;subst h;exact Ve ho hu hf hz h1 hgs hv hoff
       ·cases h
      ·cases h
     ·rename_i n p hp;split at h
      ·rename_i gs hgs;split at h
       ·rename_i hoff;simp only[v6] at h;subst h;exact Vd ho hu hf hz h1 hp hgs hoff.1 hoff.2
       ·cases h
      ·cases h
     ·cases h
   ·cases hg
  ·cases hg
 -- field
 ·rename_i t y f ho;split at hg
  ·rename_i fs y' hu h1;split at hg
   ·rename_i fd hf;simp only[t7] at hg;obtain ⟨s,hs,rfl⟩:=hg;simp only[aV] at h;split at h
    ·rename_i gs hgs;split at h
     ·rename_i v hv;split at h
      ·rename_i hoff;simp only[v6] at h;subst h;exact Vf ho hu hf hs h1 hgs hv hoff.1 hoff.2
      ·cases h
     ·cases h
    ·cases h
   ·cases hg
  ·cases hg
 -- indexAddr
 ·rename_i t y i ho;split at hg
  ·rename_i n e y' i' hu h1 h2;split at hg
   ·rename_i hinfo;obtain ⟨ti,hti⟩:=zz8.1 hinfo;simp only[v6] at hg;subst hg;simp only[aV] at h;split at h
    ·rename_i kk k hk;split at h
     ·rename_i hb;split at h
      ·rename_i gs hgs;split at h
       ·rename_i hev;simp only[t7] at h;obtain ⟨v,hv,rfl⟩:=h;exact Vh ho hu hti h1 h2 hgs hk hb hev hv
       ·cases h
      ·rename_i m p hp;split at h
       ·rename_i gs hgs;split at h
        ·rename_i hev;simp only[v6] at h;subst h;exact Vg ho hu hti h1 h2 hp hk hb hgs hev
        ·cases h
       ·cases h
      ·cases h
     ·cases h
    ·cases h
   ·cases hg
  ·rename_i e y' i' hu h1 h2;split at hg
   ·rename_i hinfo;obtain ⟨ti,hti⟩:=zz8.1 hinfo;simp only[v6] at hg;subst hg;simp only[aV] at h;split at h
    ·rename_i kk k hk;split at h
     ·rename_i sz es hes;split at h
      ·rename_i hb;obtain ⟨rfl,hb⟩:=hb;simp only[t7] at h;obtain ⟨v,hv,rfl⟩:=h;exact Vi ho hu hti h1 h2 hes hk hb hv
      ·cases h
     ·rename_i m l hm;split at h
      ·rename_i T sz es hes;split at h
       ·rename_i hb;obtain ⟨rfl,rfl,hb⟩:=hb;simp only[t7] at h;obtain ⟨v,hv,rfl⟩:=h;exact Vj ho hu hti h1 h2 hm hes hk hb hv
       ·cases h
      ·cases h
     ·rename_i m p sz lo l hm;split at h
      ·rename_i fs hfs;split at h
       ·rename_i hb;simp only[v6] at h;subst h;exact Vk ho hu hti h1 h2 hb.1 hm hfs hk hb.2
       ·cases h
      ·cases h
     ·cases h
    ·cases h
   ·cases hg
  ·cases hg
 -- index
 ·rename_i t y i ho;split at hg
  ·rename_i n e y' i' hu h1 h2;simp only[t7] at hg;obtain ⟨s,hs,rfl⟩:=hg;simp only[aV] at h;split at h
   ·rename_i kk k hk;split at h
    ·rename_i hb;split at h
     ·rename_i gs hgs;split at h
      ·rename_i hev;split at h
       ·rename_i v hv;split at h
        ·rename_i hok;simp only[v6] at h;subst h;exact Vl ho hu hs h1 h2 hgs hk hb hev hv hok
        ·cases h
       ·cases h
      ·cases h
     ·cases h
    ·cases h
   ·cases h
  ·rename_i y' i' hu h1 h2;simp only[v6] at hg;subst hg;exact Vy ho hu h1 h2 (by simpa only[aV,Z3,zz6] using h)
  ·cases hg
 -- slice
 ·rename_i t y lo hi mx ho;split at hg
  ·rename_i n e y' hu h1;split at hg
   ·split at hg
    ·rename_i hinfo;obtain ⟨ti,hti⟩:=zz8.1 hinfo;simp only[v6] at hg;subst hg;simp only[aV] at h;split at h
     ·rename_i m p hp;split at h
      ·rename_i gs hgs;split at h
       ·rename_i hev;simp only[v6] at h;subst h;exact VD ho hu hti h1 hp hgs hev.1 hev.2.1 hev.2.2
       ·cases h
      ·cases h
     ·rename_i gs hgs;split at h
      ·rename_i hev;simp only[v6] at h;subst h;exact VE ho hu hti h1 hgs hev.1 hev.2.1
      ·cases h
     ·cases h
    ·cases hg
   ·cases hg
  ·rename_i e y' hu h1;split at hg
   ·rename_i lo' hi' mx' q1 q2 q3;split at hg
    ·rename_i hc;obtain ⟨ti,hti⟩:=zz8.1 hc.2;simp only[v6] at hg;subst hg;simp only[aV] at h;split at h
     ·rename_i sz es hes;split at h
      ·rename_i hsz;subst hsz;exact vD ho hu hti h1 q1 q2 q3 hc.1 (.inl hes) h
      ·cases h
     ·rename_i sz hes;split at h
      ·rename_i hsz;subst hsz;exact vD ho hu hti h1 q1 q2 q3 hc.1 (.inr (.inl ⟨hes,rfl⟩)) h
      ·cases h
     ·rename_i sz hes;split at h
      ·rename_i hsz;subst hsz;exact vD ho hu hti h1 q1 q2 q3 hc.1 (.inr (.inr ⟨hes,rfl⟩)) h
      ·cases h
     ·rename_i n p sz l0 k hv;split at h
      ·rename_i fs hfs;split at h
       ·rename_i hsz;exact Vz ho hu hti h1 q1 q2 q3 hc.1 hsz hv hfs h
       ·cases h
      ·cases h
     ·cases h
    ·cases hg
   ·cases hg
  ·rename_i y' hu h1;split at hg
   ·rename_i hi;simp only[t7] at hg;obtain ⟨hi',h2,rfl⟩:=hg;exact VB ho hu h1 h2 (by simpa only[aV,Z3,zz6] using h)
   ·rename_i lo;simp only[t7] at hg;obtain ⟨lo',h2,rfl⟩:=hg;exact VC ho hu h1 h2 (by simpa only[aV,Z3,zz6] using h)
   ·split at hg
    ·rename_i lo' hi' h2 h3;simp only[v6] at hg;subst hg;exact VA ho hu h1 h2 h3 (by simpa only[aV,Z3,zz6] using h)
    ·cases hg
   ·cases hg
  ·cases hg
 -- build
 ·rename_i t parts ho;split at hg
  ·rename_i zs ps hz hp;split at hg
   ·rename_i fs hu;split at hg
    ·rename_i hc;simp only[v6] at hg;subst hg;simp only[aV,t7] at h;obtain ⟨zs',h,rfl⟩:=h;exact Bv ho hz hp (.inl ⟨fs,hu,hc.1,hc.2⟩) h
    ·cases hg
   ·rename_i n e hu;split at hg
    ·rename_i hc;simp only[v6] at hg;subst hg;simp only[aV,t7] at h;obtain ⟨zs',h,rfl⟩:=h;exact Bv ho hz hp (.inr ⟨n,e,hu,hc.1,hc.2.1,hc.2.2⟩) h
    ·cases hg
   ·cases hg
  ·cases hg
 -- buildSlice
 ·rename_i t len parts ho;split at hg
  ·rename_i e hu;split at hg
   ·rename_i ps hp;split at hg
    ·rename_i h0;obtain ⟨rfl,rfl,h0⟩:=h0;obtain ⟨ti,hti⟩:=zz8.1 h0;simp only[v6] at hg;subst hg;simp only[aV,v6] at h;subst h;exact U7 ho hu hti
    split at hg
    ·rename_i hc;obtain ⟨c1,c2,c3,c4,c5⟩:=hc;simp only[v6] at hg;subst hg;simp only[aV] at h;split at h
     ·rename_i es hes;split at h
      ·rename_i hev;simp only[v6] at h;subst h;refine U6 ho hu hp c1 c2 c3 c4 c5 hes (fun y hy =>?_) hev.2;have:=zy5.1 hev.1 y hy;simpa using this
      ·cases h
     ·cases h
    ·cases hg
   ·cases hg
  ·cases hg
 -- extract
 ·rename_i y i ho;simp only[t7] at hg;obtain ⟨z,hz,rfl⟩:=hg;simp only[aV] at h;split at h
  ·rename_i fs hfs;exact Vc ho hz hfs h
  ·cases h
 -- makeFunc
 ·rename_i f first caps ho
  split at hg
  case isFalse=>cases hg
  rename_i hlt;split at hg
  ·rename_i hfirst;simp only[t7] at hg;obtain ⟨ys,hys,rfl⟩:=hg;simp only[aV] at h;split at h
   ·rename_i hv;simp only[v6] at h;subst h;have hf:first = #[]:=by simpa using hfirst
    rw[hf] at ho;refine Vo hlt ho hys (fun y hy =>?_);have:=zy5.1 hv (af A y) (zy3.2 ⟨y,hy,rfl⟩);exact this
   ·cases h
  ·split at hg
   case isFalse=>cases hg
   rename_i hcaps;simp only[t7] at hg;obtain ⟨ys,hys,rfl⟩:=hg;simp only[aV] at h;split at h
   ·rename_i hv;simp only[v6] at h;subst h;have hf:caps = #[]:=by simpa using hcaps
    rw[hf] at ho;refine Vq ho hys (fun y hy =>?_);have:=zy5.1 hv (af A y) (zy3.2 ⟨y,hy,rfl⟩);exact this
   ·cases h
 -- alloc
 ·simp only[t7] at hg;obtain ⟨z,_,rfl⟩:=hg;simp[aV] at h
 -- box
 ·simp only[t7] at hg;obtain ⟨z,_,rfl⟩:=hg;simp[aV] at h
 -- store
 ·split at hg
  ·split at hg
   ·simp only[v6] at hg;subst hg;simp[aV] at h
   ·cases hg
  ·cases hg
 -- call
 ·split at hg
  ·simp only[t7] at hg;obtain ⟨z,_,rfl⟩:=hg;simp[aV] at h
  ·simp only[t7] at hg;obtain ⟨z,_,rfl⟩:=hg;simp[aV] at h
 ·split at hg
  ·simp only[v6] at hg;subst hg;simp[aV] at h
  ·cases hg
 -- len
 ·rename_i args tys ho;split at hg
  ·rename_i y ty hargs htys;have ho':o.op=.call { callee:=.builtin .len,args := #[y],argTypes := #[ty] } :=by
    rw[ho];have e1:args = #[y]:=by apply Array.ext';simpa using hargs
    have e2:tys = #[ty]:=by apply Array.ext';simpa using htys
    rw[e1,e2]
   split at hg
   ·rename_i e hu;simp only[t7] at hg;obtain ⟨y',hy,rfl⟩:=hg;simp only[aV] at h;split at h
    ·rename_i sz es hes;simp only[v6] at h;subst h;refine oA ho' hu (.inl ⟨e,rfl⟩) hy (fun a w D E hs v hv =>?_);rw[hes] at hv;obtain ⟨ad,cap,e1,e2,e3,_⟩:=kR hv;exact ⟨Nat.le_trans e2 e3,fun _=>⟨ad,cap,e1⟩,fun e=>by cases e⟩
    ·rename_i sz hes;simp only[v6] at h;subst h;refine oA (n:=0) ho' hu (.inl ⟨e,rfl⟩) hy (fun a w D E hs v hv =>?_);rw[hes] at hv;obtain ⟨cs,q1,q2⟩:=hv;simp only[ae] at q2;exact ⟨by simp[maxLen],fun _=>⟨none,0,by simpa[aZ,I.isAgg,q2] using q1.symm⟩,fun e=>by cases e⟩
    ·rename_i sz hes;simp only[v6] at h;subst h;refine oA (n:=0) ho' hu (.inl ⟨e,rfl⟩) hy (fun a w D E hs v hv =>?_);rw[hes] at hv;obtain ⟨cs,q1,q2⟩:=hv;simp only[ae] at q2;obtain ⟨ad,q2⟩:=q2;exact ⟨by simp[maxLen],fun _=>⟨ad,0,by simpa[aZ,I.isAgg,q2] using q1.symm⟩,fun e=>by cases e⟩
    ·rename_i m l hm;split at h
     ·rename_i T sz es hes;split at h
      ·rename_i hl;subst hl;simp only[v6] at h;subst h;refine oA ho' hu (.inl ⟨e,rfl⟩) hy (fun a w D E hs v hv =>?_);rw[hm] at hv;rcases hs.own hes hv with ⟨rfl,_,rfl⟩ | ⟨b,cap,cs,pre,rest,_,rfl,_,_,_,_,_,k8,k9,_⟩
       ·exact ⟨by simp[maxLen],fun _=>⟨none,0,rfl⟩,fun e=>by cases e⟩
       ·exact ⟨Nat.le_trans k8 k9,fun _=>⟨_,_,rfl⟩,fun e=>by cases e⟩
      ·cases h
     ·cases h
    ·rename_i n p sz lo k hm;simp only[v6] at h;subst h;refine oA ho' hu (.inl ⟨e,rfl⟩) hy (fun a w D E hs v hv =>?_);rw[hm] at hv;obtain ⟨cs,q1,q2⟩:=hv;simp only[ae] at q2;obtain ⟨b,aL,off,l,_,_,_,q2,q3,q4,_⟩:=q2;exact ⟨by omega,fun _=>⟨_,_,by simpa[aZ,I.isAgg,q2] using q1.symm⟩,fun e=>by cases e⟩
    ·cases h
   ·rename_i hu;simp only[t7] at hg;obtain ⟨y',hy,rfl⟩:=hg;simp only[aV] at h;split at h
    ·rename_i s hs';simp only[v6] at h;subst h;refine oA ho' hu (.inr rfl) hy (fun a w D E hs v hv =>?_);rw[hs'] at hv;obtain ⟨e1,e2⟩:=gh hv;exact ⟨e2,(fun e=>by obtain ⟨_,e⟩:=e;cases e),fun _=>⟨s,e1,rfl⟩⟩
    ·cases h
   ·cases hg
  ·cases hg
 -- append
 ·split at hg
  ·split at hg
   ·split at hg
    ·simp only[t7] at hg;obtain ⟨z,_,rfl⟩:=hg;simp[aV] at h
    ·split at hg
     ·simp only[t7] at hg;obtain ⟨z,_,rfl⟩:=hg;simp[aV] at h
     ·cases hg
   ·cases hg
  ·cases hg
 -- cap
 ·rename_i args tys ho;split at hg
  ·rename_i y ty hargs htys;have ho':o.op=.call { callee:=.builtin .cap,args := #[y],argTypes := #[ty] } :=by
    rw[ho];have e1:args = #[y]:=by apply Array.ext';simpa using hargs
    have e2:tys = #[ty]:=by apply Array.ext';simpa using htys
    rw[e1,e2]
   split at hg
   ·rename_i e hu;simp only[t7] at hg;obtain ⟨y',hy,rfl⟩:=hg;simp only[aV] at h;split at h
    ·rename_i sz hes;simp only[v6] at h;subst h;refine vB ho' hu hy (fun a w D E hs v hv =>?_);rw[hes] at hv;obtain ⟨cs,q1,q2⟩:=hv;simp only[ae] at q2;exact ⟨by simp[maxLen],_,_,by simpa[aZ,I.isAgg,q2] using q1.symm⟩
    ·rename_i sz hes;simp only[v6] at h;subst h;refine vB ho' hu hy (fun a w D E hs v hv =>?_);rw[hes] at hv;obtain ⟨cs,q1,q2⟩:=hv;simp only[ae] at q2;obtain ⟨ad,q2⟩:=q2;exact ⟨by simp[maxLen],_,_,by simpa[aZ,I.isAgg,q2] using q1.symm⟩
    ·rename_i n p sz lo k hm;split at h
     ·rename_i fs hfs;simp only[v6] at h;subst h;refine vB ho' hu hy (fun a w D E hs v hv =>?_);rw[hm] at hv;obtain ⟨_,b,cs,T,off,c1,c2,c3,_,_,_,_,_,_,_,_,_,_,_,q1,q2⟩:=hs.view hv hfs;exact ⟨by omega,_,_,q2⟩
     ·cases h
    ·cases h
   ·cases hg
  ·cases hg
 -- clear
 ·split at hg
  ·split at hg
   ·simp only[t7] at hg;obtain ⟨z,_,rfl⟩:=hg;simp[aV] at h
   ·cases hg
  ·cases hg
 -- copy
 ·split at hg
  ·split at hg
   ·split at hg
    ·simp only[v6] at hg;subst hg;simp[aV] at h
    ·cases hg
   ·cases hg
  ·cases hg
 -- delete
 ·split at hg
  ·split at hg
   ·simp only[t7] at hg;obtain ⟨z,_,rfl⟩:=hg;simp[aV] at h
   ·cases hg
  ·cases hg
 -- max
 ·rename_i args _ ho;split at hg
  ·rename_i x y hargs;split at hg
   ·rename_i x' y' h1 h2;simp only[v6] at hg;subst hg;simp only[aV] at h;have e1:args = #[x,y]:=by apply Array.ext';simpa using hargs
    rw[e1] at ho;exact Vs ho h1 h2 h
   ·cases hg
  ·cases hg
 -- min
 ·rename_i args tys ho;split at hg
  ·rename_i x y hargs;split at hg
   ·rename_i x' y' h1 h2;simp only[v6] at hg;subst hg;have e1:args = #[x,y]:=by apply Array.ext';simpa using hargs
    rw[e1] at ho;exact Vr ho h1 h2 (by simpa only[aV,Z3,zz6] using h)
   ·cases hg
  ·cases hg
 -- makeInterface
 ·rename_i t y ho;split at hg
  ·rename_i hu;simp only[t7] at hg;obtain ⟨y',h1,rfl⟩:=hg;exact Vp ho hu h1 (by simpa only[aV,Z3,zz6] using h)
  ·cases hg
 -- panic
 ·simp only[t7] at hg;obtain ⟨y',_,rfl⟩:=hg;simp[aV,ez] at h
 ·cases hg
theorem ea.append{α β:Type}{R:α→β→Prop} : ∀ {xs:List α} {ys:List β} {xs':List α} {ys':List β},ea R xs ys→ea R xs' ys'→ea R (xs++xs') (ys++ys')
 |_,_,_,_,.nil,h=>h
 |_,_,_,_,.cons h1 h2,h=>.cons h1 (h2.append h)
theorem o7{w:World}{D:aK}{E:aN} : ∀ {xs:List I} {vs:List Value},al w D E xs vs→ea (aR w D E) xs vs
 | [],vs,h=>by simp only[al] at h;subst h;exact .nil
 |x::xs,vs,h=>by
  simp only[al] at h;obtain ⟨v,rest,cs,rfl,h1,h2,h3⟩:=h;exact .cons (fK h1 h2) (o7 h3)
theorem IP {P : Program} {f : FuncId} (h : dS P f = true) : ∃ fn, P.funcs[f]? = some fn ∧ ¬ fn.name = "runtime.NumGoroutine" ∧ ¬ fn.body = none := by
 unfold dS at h;rw[Z0] at h
 replace h:=h.2
 cases hf:P.funcs[f]? with
 |none=>simp[hf] at h
 |some fn =>
  simp only[hf,Option.any_some,Z0,bne_iff_ne,ne_eq] at h;refine ⟨fn,rfl,by simpa using h.1,?_⟩;cases hb:fn.body <;>simp_all
theorem z6{P:Program}{f:FuncId}(h:dS P f=true):f<1000000:=by
 unfold dS at h;rw[Z0] at h;simpa[Nat.blt_eq] using h.1
theorem mz{P:Program}{w:World}{f:FuncId}{args:Array Value}(h:dS P f=true):(callFunc f args).run P w=.ok (.enter f args) w:=by
 obtain ⟨fn,h1,h2,h3⟩:=IP h;simp[callFunc,h1,h2,h3]
theorem aM.jx{A:ab}{a:Act}{w:World}{D:aK}{E:aN}(h:aM c A a w D E){n:Nat}{e:bx}{b:Nat}(he:E n=some e)(hb:e.aB=some b):c.ep b:=by
 have:=h.bB n;unfold cJ at this;split at this
 ·simp[this] at he
 ·obtain ⟨b',cs,T,h1,h2,_⟩:=this;rw[h1,v6] at he;subst he;simp only[bx.aB,v6] at hb;exact hb▸h2
 ·obtain ⟨aB,h1,h2,h3⟩:=this;rw[h1,v6] at he;subst he;split at h3
  ·cases hb
  ·obtain ⟨cs,pre,rest,h4,_⟩:=h3;simp only[bx.aB,v6] at hb;exact hb▸h4
 ·obtain ⟨b',h1,h2,_⟩:=this;rw[h1,v6] at he;subst he;simp only[bx.aB,v6] at hb;exact hb▸h2
 ·obtain ⟨b',es,ck,h1,h2,_⟩:=this;rw[h1,v6] at he;subst he;simp only[bx.aB,v6] at hb;exact hb▸h2
 ·obtain ⟨b',bb,es,ck,dJ,se,la,h1,h2,_⟩:=this;rw[h1,v6] at he;subst he;simp only[bx.aB,v6] at hb;exact hb▸h2
 ·obtain ⟨aB,h1,h2,h3⟩:=this;rw[h1,v6] at he;subst he;split at h3
  ·cases hb
  ·obtain ⟨cs,m,h4,_⟩:=h3;simp only[bx.aB,v6] at hb;exact hb▸h4
theorem aM.qk{A:ab}{a:Act}{w:World}{D:aK}{E:aN}(h:aM c A a w D E):eG c.P w (bX E) :=
 h.eF.1.BQ h.db (fun _ hb=>hb) fun _ ⟨_,_,h1,h2⟩=>h.jx h1 h2
theorem aM.vR{A:ab}{a:Act}{w:World}{D:aK}{E:aN}(h:aM c A a w D E):eG c.P w (fun _=>False):=h.qk.sy fun _ h=>h.elim
theorem aM.oJ{A:ab}{a:Act}{w:World}{D:aK}{E:aN}(h:aM c A a w D E){ρ:List (Nat×Nat)}{os:List (Nat×ai)} : eG c.P w (bX (ak ρ os E)):=h.qk.sy fun b ⟨n,e,h1,h2⟩=>by
 simp only[ak] at h1;split at h1
 ·exact ⟨_,e,h1,h2⟩
 ·cases h1
theorem aS.ZF{f:FuncId}{avs cargs:List I}{r:I}{vs:List Value}{a:Act}{w:World}{D:aK}{E:aN}(hs:aM c A a w D E)(h:aS c.P f cargs r)(hf:r.flat=true)(hc:bJ true A avs=some cargs)(hv:ea (aR w D E) avs vs) :
  Calls c.P f vs.toArray w fun e w'=>∃ v D',e=.returned v∧aM c A a w' D' E∧aR w' D' E r v:=by
 have hw:gO true A D E (fun b _=>b<w.heap.size):=by
  refine ⟨fun b o hd=>hs.cN b o hd,fun n T sz es b cap hn ak o _=>hs.fy ak rfl,fun _ n x b aL hn ak o _=>hs.fy ak rfl,fun _ n ks vs b hn ak=>hs.fy ak rfl⟩
 have hrv:=ly (E':=cB) hs (fun _ _ h=>h) hw avs cargs vs (kS _ _ hv (p7 hc)) hc;refine (h.2 w _ vs hs.vR (fun _ _ hd=>hd) hrv).mono fun e w' ⟨v,D',he,h1,h2,h3,h4⟩=>⟨v,D,he,?_,aR.flat hf h1⟩
 exact hs.grow h2 (fun _ _ hd=>hd) (fun _ _ hd _=>hd) (fun b o hd=>zx9 (hs.cN b o hd) h2.size)
theorem aS.ZH{f:FuncId}{avs cargs:List I}{r:I}{vs:List Value}{a:Act}{w:World}{D:aK}{E:aN}(hs:aM c A a w D E)(h:aS c.P f cargs r)(hc:bJ false A avs=some cargs)(hv:ea (aR w D E) avs vs) :
  Calls c.P f vs.toArray w fun e w'=>∃ v D',e=.returned v∧aM c A a w' D' E∧aR w' D' E r v:=by
 obtain ⟨hs1,hw⟩:=hs.nG;have hrv:=ly (E':=cB) hs (fun _ _ h=>h) hw avs cargs vs (kS _ _ hv (p7 hc)) hc;refine (h.2 w _ vs hs.vR hs1.cN hrv).mono fun e w' ⟨v,D',he,h1,h2,h3,h4⟩=>⟨v,fun b o=>nC A D E b o∨(w.heap.size≤b∧D' b o),he,?_,?_⟩
 ·refine hs1.grow h2 (fun _ _ hd=>.inl hd) ?_ ?_
  ·rintro b o (hd | ⟨hle,_⟩) hlt
   ·exact hd
   ·omega
  ·rintro b o (hd | ⟨_,hd⟩)
   ·exact zx9 (hs1.cN b o hd) h2.size
   ·exact h3 b o hd
 ·refine aR.later (E:=cB) ⟨fun b o hd =>?_,fun _ _ _ _ h=>h,fun n b aL hn=>by simp[cB] at hn,fun n aB l hn=>by simp[cB] at hn,fun n b hn=>by simp[cB] at hn,fun n b hn=>by simp[cB] at hn,fun _ _ _ _ h=>h⟩ h1;rcases Nat.lt_or_ge b w.heap.size with hlt | hge
  ·exact .inl (h4 b o hd hlt)
  ·exact .inr ⟨hge,hd⟩
theorem B8(p:Nat→Bool)(os:List (Nat×ai))(n:Nat):aA (os.filter fun q=>p q.1) n=if p n then aA os n else none:=by
 induction os with
 |nil=>simp[aA]
 |cons q os ih =>
  obtain ⟨k,v⟩:=q;simp only[List.filter_cons];by_cases hk:p k=true
  ·simp only[hk,if_true,aA,ih];by_cases hn:n=k
   ·subst hn;simp only[hk,if_true]
   ·simp only[if_neg hn]
  ·simp only[hk,Z6,if_false,ih,aA];by_cases hn:n=k
   ·subst hn;simp[hk]
   ·simp only[if_neg hn]
theorem sE(ns:List Nat)(os:List (Nat×ai))(n:Nat):aA (dD ns os) n=if ns.contains n then none else aA os n:=by
 rw[dD,B8 (fun n => !ns.contains n)];cases ns.contains n <;>rfl
theorem qp(ns:List Nat)(os:List (Nat×ai))(n:Nat):aA (kD ns os) n=if ns.contains n then aA os n else none:=B8 _ _ _
theorem CF{p:Nat→Bool} : ∀ {os:List (Nat×ai)},bE p os→∀ k x,aA os k=some x→x.only p=true
 | [],_,k,x,hx=>by simp[aA] at hx
 |(j,v)::r,h,k,x,hx=>by
  simp only[bE] at h;simp only[aA] at hx;split at hx
  ·simp only[v6] at hx;subst hx;exact h.1
  ·exact CF h.2 k x hx
theorem B9(ns:List Nat):∀ (ts:List (Nat×I)) (t:Nat),bM (ib ns ts) t=if (bM ts t).only (fun n => !ns.contains n) then bM ts t else .cY
 | [],t=>by simp[ib,bM,I.only]
 |(k,v)::r,t=>by
  simp only[ib,Z3,bM];by_cases h:t=k
  ·simp only[if_pos h]
  ·simp only[if_neg h];exact B9 ns r t
theorem aM.freeze{a:Act}{w:World}{D:aK}{E:aN}{ts:List (Nat×I)}{os0:List (Nat×ai)}(h:aM c (aq ts os0) a w D E)(ns:List Nat)(ho:bE (fun n => !ns.contains n) (dD ns os0)) :
  ∃ D' E',aM c (aq (ib ns ts) (dD ns os0)) a w D' E'∧gO true (aq ts (kD ns os0)) D E D':=by
 have h1:=h.nG.1;have hw1:=h.nG.2;obtain ⟨D1,hD1⟩:∃ D1,D1=nC (aq ts os0) D E:=⟨_,rfl⟩
 rw[←hD1] at h1 hw1;obtain ⟨D2,hD2⟩:∃ D2:aK,D2=fun b o=>D1 b o∨(∃ n x aL,ns.contains n=true∧aA os0 n=some (.box x)∧E n=some (.aI b aL)∧o<x.size)∨∃ n ks vs,ns.contains n=true∧aA os0 n=some (.cm ks vs)∧E n=some (.cm b)∧o=0:=⟨_,rfl⟩
 obtain ⟨E2,hE2⟩:∃ E2:aN,E2=fun n=>if ns.contains n then none else E n:=⟨_,rfl⟩
 have e2:∀ n,(!ns.contains n)=true→E2 n=E n:=fun n hn=>by rw[hE2];simp at hn;simp[hn]
 have hl:dj w D1 E2 w D2 E2:=⟨fun b o hd=>by rw[hD2];exact .inl hd,fun _ _ _ _ h=>h,fun _ _ _ h=>h,fun _ aB l h=>⟨aB,l,h,Z4 _,fun _=>rfl⟩,fun _ _ h=>h,fun _ _ h=>h,fun _ _ _ _ h=>h⟩
 have oN:∀ b o,D2 b o→D1 b o∨∃ n e q,ns.contains n=true∧E n=some e∧e.aB=some b∧c.ep b∧w.heap[b]?=some q:=fun b o hd=>by
  rw[hD2] at hd;rcases hd with hd | ⟨n,x,aL,k1,k2,k3,k4⟩ | ⟨n,ks,vs,k1,k2,k3,_⟩
  ·exact .inl hd
  ·obtain ⟨b',cs,T,q1,q2,q3,_⟩:=h.box (n:=n) (x:=x) (by simpa[aq] using k2);rw[k3] at q1;simp only[v6,bx.aI.injEq] at q1;obtain ⟨rfl,rfl⟩:=q1;obtain ⟨_,q3,_⟩:=q3.bB;exact .inr ⟨n,_,_,k1,k3,rfl,q2,q3⟩
  ·obtain ⟨b',es,ck,q1,q2,q3,_⟩:=h.map (n:=n) (ks:=ks) (vs:=vs) (by simpa[aq] using k2);rw[k3] at q1;cases q1;exact .inr ⟨n,_,_,k1,k3,rfl,q2,q3⟩
 refine ⟨D2,E2,⟨h1.sz,h1.dT,fun t =>?_,h1.db,fun b o hd hm =>?_,fun b o hd =>?_,fun n =>?_,fun n m e e' b g1 g2 g3 g4 =>?_,fun n e hn =>?_,h1.ee,fun b o hd=>hl.cH b o (h1.cz b o hd),h1.eF,h1.fe⟩,?_⟩
 ·simp only[aq,B9];have ht:=h1.dv t;simp only[aq] at ht;split
  ·rename_i hp;exact aR.later hl (aR.dE e2 hp ht)
  ·simp[aR]
 ·rcases oN b o hd with hd | ⟨n,e,q,_,_,_,k,_⟩
  ·exact h1.cH b o hd hm
  ·exact absurd k hm
 ·rcases oN b o hd with hd | ⟨n,e,q,_,_,_,_,k⟩
  ·exact h1.cN b o hd
  ·exact eR k
 ·simp only[aq,sE];by_cases hn:ns.contains n=true
  ·simp only[hn,if_true,cJ];rw[hE2];simp only[hn,if_true]
  ·have hnb:(!ns.contains n)=true:=by simpa using hn
   simp only[hn,Z6,if_false];have hob:=h1.bB n;simp only[aq] at hob;cases hx:aA os0 n with
   |none=>rw[hx] at hob;simp only[cJ] at hob ⊢;rw[e2 n hnb];exact hob
   |some x =>
    have hon:=CF ho n x (by rw[sE,if_neg hn];exact hx);have nD:∀ e b,E n=some e→e.aB=some b→∀ o,D2 b o→D1 b o:=fun e b he hb o hd=>by
     rcases oN b o hd with hd | ⟨m,e',q,k1,k3,k2,_⟩
     ·exact hd
     ·have:=h.cw n m e _ b he k3 hb k2;subst this;exact absurd k1 hn
    rw[hx] at hob;cases x with
    |box x =>
     obtain ⟨b,cs,T,k1,k2,k3,k4,k5⟩:=hob;exact ⟨b,cs,T,(e2 n hnb).trans k1,k2,k3,ae.later hl _ _ (ae.dE e2 _ _ (by simpa[ai.only] using hon) k4),fun o hd=>k5 o (nD _ b k1 rfl o hd)⟩
    |bH T sz es =>
     obtain ⟨aB,k1,k2,k3⟩:=hob;refine ⟨aB,(e2 n hnb).trans k1,k2,?_⟩;cases aB with
     |none=>exact k3
     |some bc =>
      obtain ⟨b,cap⟩:=bc;obtain ⟨cs,pre,rest,q1,q2,q3,q4,q5,q6,q7,q8⟩:=k3;exact ⟨cs,pre,rest,q1,q2,q3,aC.later hl _ _ (aC.dE e2 _ _ (by simpa[ai.only] using hon) q4),q5,q6,q7,fun o hd=>q8 o (nD _ b k1 rfl o hd)⟩
    |dK T xs =>
     obtain ⟨aB,k1,k2,k3⟩:=hob;refine ⟨aB,(e2 n hnb).trans k1,k2,?_⟩;cases aB with
     |none=>exact k3
     |some bc =>
      obtain ⟨b,cap⟩:=bc;obtain ⟨cs,r,q1,q2,q3,q4,q5,q6,q7⟩:=k3;exact ⟨cs,r,q1,q2,q3,q4,q5,q6,fun o hd=>q7 o (nD _ b k1 rfl o hd)⟩
    |da x =>
     obtain ⟨b,k1,k2,k3,k4,k5⟩:=hob;exact ⟨b,(e2 n hnb).trans k1,k2,k3,k4,fun o hd=>k5 o (nD _ b k1 rfl o hd)⟩
    |cm ks vs =>
     obtain ⟨b,es,ck,k1,k2,k3,k4,k5,k6,k7⟩:=hob;simp only[ai.only,Z0] at hon;exact ⟨b,es,ck,(e2 n hnb).trans k1,k2,k3,k4,al.later hl _ _ (al.dE e2 _ _ hon.1 k5),al.later hl _ _ (al.dE e2 _ _ hon.2 k6),fun o hd=>k7 o (nD _ b k1 rfl o hd)⟩
    |it ks vs left cur =>
     obtain ⟨r,b,es,ck,dJ,se,la,k1,k2,k3,k4,k5,k6,k7,k8,k9,k9',k10⟩:=hob;simp only[ai.only,Z0] at hon;exact ⟨r,b,es,ck,dJ,se,la,(e2 n hnb).trans k1,k2,k3,k4.later hl,al.later hl _ _ (al.dE e2 _ _ hon.1 k5),al.later hl _ _ (al.dE e2 _ _ hon.2 k6),k7,k8,k9,k9',fun o hd=>k10 o (nD _ r k1 rfl o hd)⟩
 ·have oh:∀ n e,E2 n=some e→E n=some e:=fun n e he=>by
   rw[hE2] at he;simp only at he;split at he
   ·cases he
   ·exact he
  exact h.cw n m e e' b (oh n e g1) (oh m e' g2) g3 g4
 ·by_cases hm:ns.contains n=true
  ·left;rw[hE2];simp only[hm,if_true]
  ·rw[e2 n (by simpa using hm)];exact h.dp n e hn
 ·refine ⟨fun b o hd=>by rw[hD2];exact .inl (hw1.cH b o hd),fun n T sz es b cap hn ak o hlt =>?_,fun _ n x b aL hn ak o hlt =>?_,fun _ n ks vs b hn ak =>?_⟩
  ·simp only[aq,qp] at hn;split at hn
   ·rw[hD2];exact .inl (hw1.bH n T sz es b cap hn ak o hlt)
   ·cases hn
  ·simp only[aq,qp] at hn;split at hn
   ·rename_i hk;rw[hD2];exact .inr (.inl ⟨n,x,aL,hk,hn,ak,hlt⟩)
   ·cases hn
  ·simp only[aq,qp] at hn;split at hn
   ·rename_i hk;rw[hD2];exact .inr (.inr ⟨n,ks,vs,hk,hn,ak,rfl⟩)
   ·cases hn
theorem aS.ZG{f:FuncId}{avs cargs:List I}{r:I}{vs:List Value}{a:Act}{w:World}{D:aK}{E:aN}{ts:List (Nat×I)}{os0:List (Nat×ai)}(hs:aM c (aq ts os0) a w D E)(ns:List Nat)(ho:bE (fun n => !ns.contains n) (dD ns os0))
  (h:aS c.P f cargs r) (hc:bJ true (aq ts (kD ns os0)) avs=some cargs) (hv:ea (aR w D E) avs vs) :
  Calls c.P f vs.toArray w fun e w'=>∃ v D' E',e=.returned v∧aM c (aq (ib ns ts) (dD ns os0)) a w' D' E'∧aR w' D' E' r v:=by
 obtain ⟨D1,E1,hs1,hw⟩:=hs.freeze ns ho;have hu:dy (aq ts (kD ns os0)) (aq ts os0):=fun n x hx=>by
  simp only[aq,qp] at hx ⊢;split at hx
  ·exact hx
  ·cases hx
 have hrv:=ly (E':=cB) hs hu hw avs cargs vs (kS _ _ hv (p7 hc)) hc;refine (h.2 w _ vs hs.vR hs1.cN hrv).mono fun e w' ⟨v,D',he,h1,h2,h3,h4⟩=>⟨v,fun b o=>D1 b o∨(w.heap.size≤b∧D' b o),E1,he,?_,?_⟩
 ·refine hs1.grow h2 (fun _ _ hd=>.inl hd) ?_ ?_
  ·rintro b o (hd | ⟨hle,_⟩) hlt
   ·exact hd
   ·omega
  ·rintro b o (hd | ⟨_,hd⟩)
   ·exact zx9 (hs1.cN b o hd) h2.size
   ·exact h3 b o hd
 ·refine aR.later (E:=cB) ⟨fun b o hd =>?_,fun _ _ _ _ h=>h,fun n b aL hn=>by simp[cB] at hn,fun n aB l hn=>by simp[cB] at hn,fun n b hn=>by simp[cB] at hn,fun n b hn=>by simp[cB] at hn,fun _ _ _ _ h=>h⟩ h1;rcases Nat.lt_or_ge b w.heap.size with hlt | hge
  ·exact .inl (h4 b o hd hlt)
  ·exact .inr ⟨hge,hd⟩
theorem uw{a:Act}{w:World}{D D1:aK}{E:aN}{ts:List (Nat×I)}{os0 os:List (Nat×ai)}{ρ:List (Nat×Nat)}{aI:Bool}{A0:ab}(hs:aM c (aq ts os0) a w D E)(hu:dy A0 (aq ts os0))(hD:∀ b o,D b o→D1 b o)(hw:gO aI A0 D E D1) :
  ∀ (avs cargs:List I) (vs:List Value),gl aI A0 ρ os avs cargs→ea (aR w D E) avs vs→al w D1 (ak ρ os E) cargs vs
 | [],[],vs,_,hv=>by cases hv;simp[al]
 | [],_::_,_,h,_=>by simp[gl] at h
 |_::_,[],_,h,_=>by simp[gl] at h
 |x::xs,y::ys,vs,h,hv=>by
  cases hv with
  |cons hv hvs =>
  rename_i v vs;simp only[gl] at h;have ih:=uw hs hu hD hw xs ys vs h.2 hvs;have hl:dj w D (ak ρ os E) w D1 (ak ρ os E):=⟨hD,fun _ _ _ _ h=>h,fun _ _ _ h=>h,fun _ aB l h=>⟨aB,l,h,Z4 _,fun _=>rfl⟩,fun _ _ h=>h,fun _ _ h=>h,fun _ _ _ _ h=>h⟩
  have h1:∃ cs,aZ y v cs∧ae w D1 (ak ρ os E) y cs:=by
   rcases h.1 with ⟨k1,k2,k3⟩ | k
   ·rw[k1] at hv;have h2:=aR.later hl ((aR.aO (w:=w) (D:=D) (p:=ao os) (ρ:=bh ρ) (E:=ak ρ os E) (E':=E) (fun n hn=>by simp only[ak,hn,if_true]) k2).1 hv);cases y <;>simp only[aR] at h2 <;>first | (simp[I.cC] at k3;done) | exact h2
   ·have h2:al w D E [x] [v]:=kS [x] [v] (.cons hv .nil) (by
     intro z hz;simp only[zy6] at hz;subst hz;cases z <;>simp_all[bd,I.cC])
    have h3:=ly (E':=ak ρ os E) hs hu hw [x] [y] [v] h2 (by simp[bJ,k]);simp only[al] at h3;obtain ⟨v',rest,cs,e,k1,k2,_⟩:=h3;simp only[zy1] at e;obtain ⟨rfl,_⟩:=e;exact ⟨cs,k1,k2⟩
  obtain ⟨cs,k1,k2⟩:=h1;simp only[al];exact ⟨v,vs,cs,rfl,k1,k2,ih⟩
theorem dy.drop(ts:List (Nat×I))(ns:List Nat)(os0:List (Nat×ai)):dy (aq ts (dD ns os0)) (aq ts os0):=fun n x hx=>by
 simp only[aq,sE] at hx ⊢;split at hx
 ·cases hx
 ·exact hx
theorem mI.use{run:Array Value→World→(Ending→World→Prop)→Prop}{since:World→aK→aN→Prop}{avs cargs:List I}{post:cj}{vs:List Value}{a:Act}{w:World}{D:aK}{E:aN}{ts:List (Nat×I)}{os0 os:List (Nat×ai)}{ρ:List (Nat×Nat)}
  (hs:aM c (aq ts os0) a w D E) (h:mI run since cargs os post) (aI:Bool) (hmono:∀ {vs w R R'},run vs w R→(∀ e w,R e w→R' e w)→run vs w R') (hsince:(aI=true→∀ D,since w D (ak ρ os E))∧(aI=false→since w (nC (aq ts os0) D E) (ak ρ os E)))
  (hg:eP ρ os os0) (ha:gl aI (aq ts (dD (iI ρ os) os0)) ρ os avs cargs) (hb:∀ r os',post r os'→dh aI ρ os os0 r os') (hv:ea (aR w D E) avs vs) :
  run vs.toArray w fun e w'=>∃ v r os' D2 E2,e=.returned v∧post r os'∧aM c (aq ts (cO ρ os'++os0)) a w' D2 E2∧aR w' D2 E2 (r.aO (bh ρ)) v∧∀ m e,ak ρ os E m=some e→ao os' m=true→∃ e',E2 (bh ρ m)=some e'∧e.fC e':=by
 have notName:∀ n,(iI ρ os).contains n=false→∀ m,ao os m=true→bh ρ m≠n:=fun n hn m hm he=>by
  obtain ⟨q,hq,rfl⟩:=vK.1 hm;have:(iI ρ os).contains n=true:=by simp only[iI,List.contains_iff_mem,zy3];exact ⟨q,hq,he⟩
  rw[this] at hn;cases hn
 have other:∀ {D:aK},aM c (aq ts os0) a w D E→∀ n e b x,aA (dD (iI ρ os) os0) n=some x→E n=some e→e.aB=some b→¬ bX (ak ρ os E) b:=fun hs n e b x hx he hb ho=>by
  obtain ⟨m,e',h1,h2,hb',_⟩:=hs.sa hg ho;rw[sE] at hx;split at hx
  ·cases hx
  ·rename_i hc;have:=hs.cw n (bh ρ m) e _ b he h2 hb hb';exact notName n (by simpa using hc) m h1 this.symm
 cases aI with
 |true =>
  obtain ⟨D1,hD1⟩:∃ D1:aK,D1=fun b o=>D b o∨(b<w.heap.size∧¬ bX (ak ρ os E) b):=⟨_,rfl⟩
  have hD:∀ b o,D b o→D1 b o:=fun b o hd=>by rw[hD1];exact .inl hd
  have hw:gO true (aq ts (dD (iI ρ os) os0)) D E D1:=by
   refine ⟨hD,fun n T sz es b cap hn ak o _ =>?_,fun _ n x b aL hn ak o _ =>?_,fun _ n ks vs b hn ak =>?_⟩
   ·rw[hD1];exact .inr ⟨hs.fy ak rfl,other hs n _ b _ hn ak rfl⟩
   ·rw[hD1];exact .inr ⟨hs.fy ak rfl,other hs n _ b _ hn ak rfl⟩
   ·rw[hD1];exact .inr ⟨hs.fy ak rfl,other hs n _ b _ hn ak rfl⟩
  have hrv:=uw hs (dy.drop ts _ os0) hD hw avs cargs vs ha hv;refine hmono (h w D1 (ak ρ os E) vs (hsince.1 rfl _) (fun b o hd=>by
   rw[hD1] at hd;rcases hd with hd | hd
   ·exact hs.cN b o hd
   ·exact hd.1) (hs.BC hg hD fun b o hd ho=>by
    rw[hD1] at hd;rcases hd with hd | hd
    ·exact hd
    ·exact absurd ho hd.2) hrv) ?_
  rintro e w' ⟨v,D',E',r,os',he,hp,h1,h2,h3,h4,h5,h6,h7,h8⟩;obtain ⟨D2,E2,k1,k2⟩:=hs.ln hg hD (fun h=>by cases h) (hb r os' hp) h1 h2 h3 h5 h4 h8 h6 h7;exact ⟨v,r,os',D2,E2,he,hp,k1,k2⟩
 |false =>
  obtain ⟨hs1,hw⟩:=hs.nG;have hw':gO false (aq ts (dD (iI ρ os) os0)) D E (nC (aq ts os0) D E):=⟨hw.cH,fun n T sz es b cap hn ak o hlt=>hw.bH n T sz es b cap (dy.drop ts _ os0 n _ hn) ak o hlt,(fun hb=>by cases hb),fun hb=>by cases hb⟩
  have hrv:=uw hs (dy.drop ts _ os0) hw.cH hw' avs cargs vs ha hv;refine hmono (h w _ (ak ρ os E) vs (hsince.2 rfl) hs1.cN (hs1.BC hg (fun _ _ h=>h) fun b o hd _=>hd) hrv) ?_;rintro e w' ⟨v,D',E',r,os',he,hp,h1,h2,h3,h4,h5,h6,h7,h8⟩;obtain ⟨D2,E2,k1,k2⟩:=hs1.ln hg (fun _ _ h=>h) (fun _ _ _ h=>h) (hb r os' hp) h1 h2 h3 h5 h4 h8 h6 h7;exact ⟨v,r,os',D2,E2,he,hp,k1,k2⟩
theorem aM.since{A:ab}{a:Act}{w:World}{D:aK}{E E':aN}(h:aM c A a w D E)(ak:∀ n,E' n=E n∨E' n=none):yj c w D E' :=
 ⟨h.db,h.cz,h.cH,fun n e hn=>by
  rcases ak n with k | k
  ·rw[k];exact h.dp n e hn
  ·exact .inl k,h.fe,h.qk.sy fun b ⟨n,e,h1,h2⟩=>by
   rcases ak n with k | k
   ·rw[k] at h1;exact ⟨n,e,h1,h2⟩
   ·rw[k] at h1;cases h1⟩
theorem lz(c:ct)(f:FuncId):c.bm.fn f:=by unfold ct.bm;split <;>trivial
theorem uX(c:ct):c.bm.depth.isSome=true→1≤9:=fun _=>by omega
theorem jn{a:Act}{w:World} : ∀ f,o.about c.P w a.eval=some f→c.bm.fn f:=fun f _=>lz c f
theorem jE{g:bw}(hg:cD c.P o=some g)(r:Option Nat)(ρ:Operand→Value):o.semAt r ρ=execOp ρ o:=by
 cases r with
 |none=>rfl
 |some l =>
  refine Oper.semAt_some l ρ o fun cl h =>?_;unfold cD at hg;rw[h] at hg;simp at hg
theorem z7{f:FuncId}{args:Array Value}{w:World}{R:Ending→World→Prop}(h:Calls c.P f args w R):CallsIn c.bm (9-1) c.P f args w R:=by
 have h1:CallsIn Fence.wide (9-1) c.P f args w R:=callsIn_wide.2 h;unfold ct.bm;split
 ·exact h1
 ·exact h1
theorem rz.mono{P:Program}{v:Value}{vs:Array Value}{w:World}{R R':Ending→World→Prop}(h:rz P v vs w R)(hr:∀ e w,R e w→R' e w):rz P v vs w R':=by
 obtain ⟨l,h1,fn,tmps,assign,body,h2,h3⟩:=h;exact ⟨l,h1,fn,tmps,assign,body,h2,h3.mono hr⟩
theorem YW{l:Nat}{f:FuncId}{tmps:Array Value}{assign body:Code}{w:World}{R:Ending→World→Prop}(h:RoundIn Fence.wide 9 c.P l f tmps assign body w R):RoundIn c.bm (9-1) c.P l f tmps assign body w R:=by
 have h1:RoundIn Fence.wide (9-1) c.P l f tmps assign body w R:=⟨h.1,fun cc cs _=>h.2 cc cs (room_wide _)⟩
 unfold ct.bm;split
 ·exact h1
 ·exact h1
theorem gz.wp{B:ab}{g:bw}(hg:cD c.P o=some g)(h:gz c A o B){a:Act}{w:World}{K:Act→World→Prop}{Q:Exit→Act→World→Prop}(hs:bD c A a w)(hK:∀ a w,bD c B a w→K a w):o.wpIn c.bm 9 c.P a w K Q:=by
 obtain ⟨D,E,hs⟩:=hs;obtain ⟨w',h⟩:=h a w D E hs;refine ⟨jn,?_⟩;rw[jE hg];rcases h with ⟨v,h1,h2⟩ | ⟨h1,h2⟩
 ·rw[h1];exact hK _ _ h2
 ·rw[h1];exact hK _ _ h2
theorem uL{dr:Bool}{K:ab→Prop}{f:FuncId}{avs:List I}{a1 a2:Option (List I)}{vs:List Value}{dst:Option Nat}{rest:List ay}{a:Act}{w:World}{Kw:Act→World→Prop}{Q:Exit→Act→World→Prop}{g:bw}(hg:cD c.P o=some g)(h1:bJ true A avs=a1)(h2:bJ false A avs=a2)
  (hs:∀ D E,aM c A a w D E→ea (aR w D E) avs vs) (hsim:bD c A a w) (hwp:aY c.P c.Y dr K (.call f avs a1 a2 dst rest A)) (hd:o.dst=dst) (hdn:∀ k,dst=some k→k<c.n)
  (hrun:dS c.P f=true→(execOp a.eval o).run c.P w=.ok (.enter f vs.toArray) w)
  (hK:∀ B a' w',aY c.P c.Y dr K (ar rest B)→bD c B a' w'→Kw a' w'):o.wpIn c.bm 9 c.P a w Kw Q:=by
 obtain ⟨D,E,hsw⟩:=hsim;have nN:∀ {R:Ending→World→Prop},dS c.P f=true→Calls c.P f vs.toArray w R→(∀ e w',R e w'→∃ v,e=.returned v∧Kw (a.put o.dst v) w')→o.wpIn c.bm 9 c.P a w Kw Q:=fun {R} hc hcl hR=>by
  refine ⟨jn,?_⟩;rw[jE hg,hrun hc,Oper.uponIn_enter];refine ⟨uX c,z7 (hcl.mono fun e w' he =>?_)⟩;obtain ⟨v,rfl,hv⟩:=hR e w' he;exact hv
 cases hwp with
 |flat r hspec hflat hrest =>
  refine nN hspec.1 (hspec.ZF hsw hflat h1 (hs D E hsw)) ?_;rintro e w' ⟨v,D',he,hs',hv⟩;refine ⟨v,he,?_⟩;rw[hd];exact hK _ _ _ hrest ⟨D',E,hs'.aP hdn hv⟩
 |lead r hspec hrest =>
  refine nN hspec.1 (hspec.ZH hsw h2 (hs D E hsw)) ?_;rintro e w' ⟨v,D',he,hs',hv⟩;refine ⟨v,he,?_⟩;rw[hd];exact hK _ _ _ hrest ⟨D',E,hs'.aP hdn hv⟩
 |jQ ns r hdr hspec hf ho hrest =>
  refine nN hspec.1 (hspec.ZG hsw ns ho hf (hs D E hsw)) ?_;rintro e w' ⟨v,D',E',he,hs',hv⟩;refine ⟨v,he,?_⟩;rw[hd];exact hK _ _ _ hrest ⟨D',E',hs'.aP hdn hv⟩
 |bB aI ρ os cargs post hdr hspec hgv ha hb hrest =>
  refine nN hspec.1 (hspec.2.use hsw aI (fun h=>h.mono) ⟨fun _ _=>hsw.oJ,fun _=>hsw.oJ⟩ hgv ha hb (hs D E hsw)) ?_;rintro e w' ⟨v,r,os',D2,E2,he,hp,hs',hv,_⟩;refine ⟨v,he,?_⟩;rw[hd];exact hK _ _ _ (hrest r os' hp) ⟨D2,E2,hs'.aP hdn hv⟩
theorem IS{dr:Bool}{K:ab→Prop}{v:Value}{avs:List I}{vs:List Value}{dst:Option Nat}{rest:List ay}{a:Act}{w:World}{Kw:Act→World→Prop}{Q:Exit→Act→World→Prop}{g:bw}(hg:cD c.P o=some g)
  (hs:∀ D E,aM c A a w D E→ea (aR w D E) avs vs) (hsim:bD c A a w) (hwp:aY c.P c.Y dr K (.lu v avs dst rest A)) (hd:o.dst=dst) (hdn:∀ k,dst=some k→k<c.n)
  (hrun:∀ l,v=.func (.yield l) #[] #[]→(execOp a.eval o).run c.P w=(Instr.yield l vs.toArray).run c.P w)
  (hK:∀ B a' w',aY c.P c.Y dr K (ar rest B)→bD c B a' w'→Kw a' w'):o.wpIn c.bm 9 c.P a w Kw Q:=by
 obtain ⟨D,E,hsw⟩:=hsim;cases hwp with
 |tU os cargs post hdr hY hgv ha hb hrest =>
  have hyr:=(hsw.eF.2 _ _ _ _ hY).use (ρ:=[]) hsw false (fun h=>h.mono) ⟨(fun h=>by cases h),fun _=>hsw.nG.1.since (fun n=>by simp only[ak,bh];split <;>simp)⟩ hgv ha hb (hs D E hsw);obtain ⟨l,rfl,fn,tmps,assign,body,h2,h3⟩:=hyr;refine ⟨jn,?_⟩;rw[jE hg,hrun l rfl,h2,Oper.uponIn_round];refine ⟨uX c,YW (h3.mono fun e w' he =>?_)⟩;obtain ⟨v,r,os',D2,E2,rfl,hp,hs',hv,_⟩:=he;rw[hd];exact hK _ _ _ (hrest r os' hp) ⟨D2,E2,hs'.aP hdn hv⟩
end
section
variable {c:ct} {A:ab} {o:Oper}
theorem oc{P:Program}{n:Nat}{bl:Array Oper}{g:ay}(h:lr P n bl o=some g):cD P o=some g.op∧g.dst=o.dst∧(∀ k,o.dst=some k→k<n) ∧
  ((o.guard=none∧g.guard=none)∨∃ j b t,o.guard=some (j,b)∧(bl[j]?).bind (·.dst)=some t∧g.guard=some (t,b)):=by
 unfold lr at h;split at h
 ·cases h
 rename_i g' hg';split at h
 case isFalse=>cases h
 rename_i hd;have hdst:∀ k,o.dst=some k→k<n:=by
  intro k hk;rw[hk] at hd;simpa[Ay] using hd
 split at h
 ·rename_i hgd;simp only[v6] at h;subst h;exact ⟨hg',rfl,hdst,.inl ⟨hgd,rfl⟩⟩
 ·rename_i j b hgd;split at h
  ·rename_i t ht;simp only[v6] at h;subst h;exact ⟨hg',rfl,hdst,.inr ⟨j,b,t,hgd,ht,rfl⟩⟩
  ·cases h
theorem Br{dr:Bool}{K:ab→Prop}{op:bw}{dst:Option Nat}{rest:List ay}{a:Act}{w:World}{Kw:Act→World→Prop}{Q:Exit→Act→World→Prop}(hop:cD c.P o=some op)(hd:o.dst=dst)(hdn:∀ k,dst=some k→k<c.n)
  (hsim:bD c A a w) (hK:∀ B a' w',aY c.P c.Y dr K (ar rest B)→bD c B a' w'→Kw a' w') (h:aY c.P c.Y dr K (cq (aV A op) fun v=>ar rest (A.aP dst v))):o.wpIn c.bm 9 c.P a w Kw Q:=by
 cases hv:aV A op with
 |some v =>
  rw[hv] at h;exact ((CU hop hv).does (by rw[hd];exact hdn)).wp hop hsim (fun a' w' hs=>by rw[hd] at hs;exact hK _ a' w' h hs)
 |none=>rw[hv] at h;cases h
theorem UC{dr:Bool}{K:ab→Prop}{dst:Option Nat}{rest:List ay}{a:Act}{w:World}{Kw:Act→World→Prop}{Q:Exit→Act→World→Prop}{z:I}(hop:cD c.P o=some (.alloc z))(hd:o.dst=dst)(hdn:∀ k,dst=some k→k<c.n)
  (hwp:aY c.P c.Y dr K (aW A dst (.alloc z) rest (ar rest))) (hsim:bD c A a w) (hK:∀ B a' w',aY c.P c.Y dr K (ar rest B)→bD c B a' w'→Kw a' w'):o.wpIn c.bm 9 c.P a w Kw Q:=by
 have hop0:=hop;simp only[aW] at hwp;split at hwp
 case h_2=>cases hwp
 rename_i d;split at hwp
 case h_2=>cases hwp
 rename_i hf;unfold cD at hop;split at hop <;>try (first | (simp at hop;done) | ((repeat' split at hop) <;>simp at hop;done))
 rename_i t ho;simp only[t7,bw.alloc.injEq] at hop;obtain ⟨z',hz,rfl⟩:=hop;exact (LU ho hz hd (hdn d rfl) hf).wp hop0 hsim (fun a' w' hs=>hK _ a' w' hwp hs)
theorem UF{dr:Bool}{K:ab→Prop}{dst:Option Nat}{rest:List ay}{a:Act}{w:World}{Kw:Act→World→Prop}{Q:Exit→Act→World→Prop}{x:az}(hop:cD c.P o=some (.box x))(hd:o.dst=dst)(hdn:∀ k,dst=some k→k<c.n)
  (hwp:aY c.P c.Y dr K (aW A dst (.box x) rest (ar rest))) (hsim:bD c A a w) (hK:∀ B a' w',aY c.P c.Y dr K (ar rest B)→bD c B a' w'→Kw a' w'):o.wpIn c.bm 9 c.P a w Kw Q:=by
 have hop0:=hop;simp only[aW] at hwp;split at hwp
 case h_2=>cases hwp
 rename_i d;split at hwp
 case h_2=>cases hwp
 rename_i hf;split at hwp
 case isFalse=>cases hwp
 rename_i hv;unfold cD at hop;split at hop <;>try (first | (simp at hop;done) | ((repeat' split at hop) <;>simp at hop;done))
 rename_i t y ho;simp only[t7,bw.box.injEq] at hop;obtain ⟨z',hz,rfl⟩:=hop;exact (LZ ho hz hv hd (hdn d rfl) hf).wp hop0 hsim (fun a' w' hs=>hK _ a' w' hwp hs)
theorem US{dr:Bool}{K:ab→Prop}{dst:Option Nat}{rest:List ay}{a:Act}{w:World}{Kw:Act→World→Prop}{Q:Exit→Act→World→Prop}{s:Option Nat}{x v:az}(hop:cD c.P o=some (.aT s x v))(hd:o.dst=dst)(hdn:∀ k,dst=some k→k<c.n)
  (hwp:aY c.P c.Y dr K (aW A dst (.aT s x v) rest (ar rest))) (hsim:bD c A a w) (hK:∀ B a' w',aY c.P c.Y dr K (ar rest B)→bD c B a' w'→Kw a' w'):o.wpIn c.bm 9 c.P a w Kw Q:=by
 have hop0:=hop;simp only[aW] at hwp;split at hwp
 case h_2=>cases hwp
 split at hwp
 case h_2=>cases hwp
 rename_i n p hp;split at hwp
 case h_2=>cases hwp
 rename_i b hb;split at hwp
 case h_2=>cases hwp
 rename_i old hat;split at hwp
 case isFalse=>cases hwp
 rename_i hok;unfold cD at hop;split at hop <;>try (first | (simp at hop;done) | ((repeat' split at hop) <;>simp at hop;done))
 rename_i t y z ho;split at hop
 case h_2=>cases hop
 rename_i s' x' v' h1 h2 h3;split at hop
 case isFalse=>cases hop
 rename_i hk;simp only[v6,bw.aT.injEq] at hop;obtain ⟨rfl,rfl,rfl⟩:=hop;exact (L7 ho h1 hk h2 h3 hp hb hat hok.1 hok.2.1 hok.2.2 hd).wp hop0 hsim (fun a' w' hs=>hK _ a' w' hwp hs)
theorem UG{dr:Bool}{K:ab→Prop}{dst:Option Nat}{rest:List ay}{a:Act}{w:World}{Kw:Act→World→Prop}{Q:Exit→Act→World→Prop}{f:FuncId}{args:List az}(hop:cD c.P o=some (.call f args))(hd:o.dst=dst)(hdn:∀ k,dst=some k→k<c.n)
  (hwp:aY c.P c.Y dr K (aW A dst (.call f args) rest (ar rest))) (hsim:bD c A a w) (hK:∀ B a' w',aY c.P c.Y dr K (ar rest B)→bD c B a' w'→Kw a' w'):o.wpIn c.bm 9 c.P a w Kw Q:=by
 have hop0:=hop;simp only[aW] at hwp;unfold cD at hop;split at hop <;>try (first | (simp at hop;done) | ((repeat' split at hop) <;>simp at hop;done))
 rename_i f' xs ts ho;split at hop
 case isFalse=>simp at hop
 simp only[t7,bw.call.injEq] at hop;obtain ⟨ys,hys,rfl,rfl⟩:=hop;refine uL (vs:=xs.toList.map a.eval) hop0 rfl rfl (fun D E hs=>ki hs xs.toList ts.toList ys hys) hsim hwp hd hdn (fun hc =>?_) hK;have e:xs.map a.eval=(xs.toList.map a.eval).toArray:=by apply Array.ext';simp
 simp only[execOp,ho,resolve,Act.eval,Deferred.ofValue,Sem.run_bind,Sem.run_pure,Result.andThen_ok,invoke,Array.append_empty,Array.empty_append,mz hc];rw[←e]
theorem UT{dr:Bool}{K:ab→Prop}{dst:Option Nat}{rest:List ay}{a:Act}{w:World}{Kw:Act→World→Prop}{Q:Exit→Act→World→Prop}{f:FuncId}{args:List az}(hop:cD c.P o=some (.gM f args))(hd:o.dst=dst)(hdn:∀ k,dst=some k→k<c.n)
  (hwp:aY c.P c.Y dr K (aW A dst (.gM f args) rest (ar rest))) (hsim:bD c A a w) (hK:∀ B a' w',aY c.P c.Y dr K (ar rest B)→bD c B a' w'→Kw a' w'):o.wpIn c.bm 9 c.P a w Kw Q:=by
 have hop0:=hop;simp only[aW] at hwp;unfold cD at hop;split at hop <;>try (first | (simp at hop;done) | ((repeat' split at hop) <;>simp at hop;done))
 rename_i f' xs ts ho;split at hop
 case isTrue=>simp at hop
 simp only[t7,bw.gM.injEq] at hop;obtain ⟨ys,hys,rfl,rfl⟩:=hop;obtain ⟨D,E,hs⟩:=hsim;cases hwp with
 |ext r hdr hx hw =>
  obtain ⟨v,g1,g2⟩:=hx c a w D E (xs.toList.map a.eval) rfl hs (ki hs xs.toList ts.toList ys hys);have e:xs.map a.eval=(xs.toList.map a.eval).toArray:=by apply Array.ext';simp
  have hrun:(execOp a.eval o).run c.P w=.ok (.value v) w:=by
   simp only[execOp,ho,resolve,Act.eval,Deferred.ofValue,Sem.run_bind,Sem.run_pure,Result.andThen_ok,invoke,Array.append_empty,Array.empty_append];rw[←e] at g1;exact g1
  refine ⟨jn,?_⟩;rw[jE hop0,hrun,Oper.uponIn_value];exact hK _ _ _ hw ⟨D,E,by rw[hd];exact hs.aP hdn g2⟩
theorem UL{dr:Bool}{K:ab→Prop}{dst:Option Nat}{rest:List ay}{a:Act}{w:World}{Kw:Act→World→Prop}{Q:Exit→Act→World→Prop} (hop:cD c.P o=some (.kG))(hd:o.dst=dst)(hdn:∀ k,dst=some k→k<c.n)
  (hwp:aY c.P c.Y dr K (aW A dst (.kG) rest (ar rest))) (hsim:bD c A a w) (hK:∀ B a' w',aY c.P c.Y dr K (ar rest B)→bD c B a' w'→Kw a' w'):o.wpIn c.bm 9 c.P a w Kw Q:=by
 have hop0:=hop;simp only[aW] at hwp;split at hwp
 case h_2=>cases hwp
 rename_i d;split at hwp
 case h_2=>cases hwp
 rename_i hf;unfold cD at hop;split at hop <;>try (first | (simp at hop;done) | ((repeat' split at hop) <;>simp at hop;done))
 rename_i t ho;exact (L4 ho hd (hdn d rfl) hf).wp hop0 hsim (fun a' w' hs=>hK _ a' w' hwp hs)
theorem UM{dr:Bool}{K:ab→Prop}{dst:Option Nat}{rest:List ay}{a:Act}{w:World}{Kw:Act→World→Prop}{Q:Exit→Act→World→Prop}{e:TypeId}{bytes:Nat}{z:I}{n:az}(hop:cD c.P o=some (.jz e bytes z n))(hd:o.dst=dst)(hdn:∀ k,dst=some k→k<c.n)
  (hwp:aY c.P c.Y dr K (aW A dst (.jz e bytes z n) rest (ar rest))) (hsim:bD c A a w) (hK:∀ B a' w',aY c.P c.Y dr K (ar rest B)→bD c B a' w'→Kw a' w'):o.wpIn c.bm 9 c.P a w Kw Q:=by
 have hop0:=hop;simp only[aW] at hwp;split at hwp
 case h_2=>cases hwp
 rename_i d;split at hwp
 case h_2=>cases hwp
 rename_i hf;split at hwp
 case h_2=>cases hwp
 rename_i k m hn;split at hwp
 case isFalse=>cases hwp
 rename_i hc;unfold cD at hop;split at hop <;>try (first | (simp at hop;done) | ((repeat' split at hop) <;>simp at hop;done))
 rename_i t l l' ho;split at hop
 case h_2=>cases hop
 rename_i e' n' hu hl;split at hop
 case h_2=>cases hop
 rename_i z' hz;split at hop
 case isFalse=>cases hop
 rename_i hc2;simp only[v6,bw.jz.injEq] at hop;obtain ⟨rfl,rfl,rfl,rfl⟩:=hop;obtain ⟨j,rfl⟩:=zz7 hc.1;simp only[Int.toNat_natCast] at hc hwp;exact (L5 ho (Y4 hc2.1) hu hl hn hz hc2.2.1 hc2.2.2 hc.2.1 hc.2.2 hd (hdn d rfl) hf).wp hop0 hsim (fun a' w' hs=>hK _ a' w' hwp hs)
theorem UN{dr:Bool}{K:ab→Prop}{dst:Option Nat}{rest:List ay}{a:Act}{w:World}{Kw:Act→World→Prop}{Q:Exit→Act→World→Prop}{ty:cn}{m k v:az}(hop:cD c.P o=some (.jY ty m k v))(hd:o.dst=dst)(hdn:∀ k,dst=some k→k<c.n)
  (hwp:aY c.P c.Y dr K (aW A dst (.jY ty m k v) rest (ar rest))) (hsim:bD c A a w) (hK:∀ B a' w',aY c.P c.Y dr K (ar rest B)→bD c B a' w'→Kw a' w'):o.wpIn c.bm 9 c.P a w Kw Q:=by
 have hop0:=hop;simp only[aW] at hwp;split at hwp
 case h_2=>cases hwp
 split at hwp
 case h_2=>cases hwp
 rename_i n hm;split at hwp
 case h_2=>cases hwp
 rename_i ks vs hn;split at hwp
 case h_2=>cases hwp
 rename_i ks' vs' hl;unfold cD at hop;split at hop <;>try (first | (simp at hop;done) | ((repeat' split at hop) <;>simp at hop;done))
 all_goals
  rename_i t mo ko vo ho;split at hop
  case h_2=>cases hop
  rename_i kt et m' k' hu h1 h2;split at hop
  case h_2=>cases hop
  rename_i ty' v' hk h3;simp only[v6,bw.jY.injEq] at hop;obtain ⟨rfl,rfl,rfl,rfl⟩:=hop
 ·exact (Ax (.inl ho) hu hk h1 h2 h3 hm hn hl hd).wp hop0 hsim (fun a' w' hs=>hK _ a' w' hwp hs)
 ·exact (Ax (.inr ho) hu hk h1 h2 h3 hm hn hl hd).wp hop0 hsim (fun a' w' hs=>hK _ a' w' hwp hs)
theorem UK{dr:Bool}{K:ab→Prop}{dst:Option Nat}{rest:List ay}{a:Act}{w:World}{Kw:Act→World→Prop}{Q:Exit→Act→World→Prop}{ty:cn}{m k:az}(hop:cD c.P o=some (.lD ty m k))(hd:o.dst=dst)(hdn:∀ k,dst=some k→k<c.n)
  (hwp:aY c.P c.Y dr K (aW A dst (.lD ty m k) rest (ar rest))) (hsim:bD c A a w) (hK:∀ B a' w',aY c.P c.Y dr K (ar rest B)→bD c B a' w'→Kw a' w'):o.wpIn c.bm 9 c.P a w Kw Q:=by
 have hop0:=hop;simp only[aW] at hwp;split at hwp
 case h_2=>cases hwp
 split at hwp
 case h_2=>cases hwp
 rename_i n hm;split at hwp
 case h_2=>cases hwp
 rename_i ks vs hn;split at hwp
 case h_2=>cases hwp
 rename_i ks' vs' hl;unfold cD at hop;split at hop <;>try (first | (simp at hop;done) | ((repeat' split at hop) <;>simp at hop;done))
 rename_i args tys ho;split at hop
 case h_2=>cases hop
 rename_i mo ko t t' ha ht;split at hop
 case h_2=>cases hop
 rename_i kt et m' k' hu h1 h2;simp only[t7,bw.lD.injEq] at hop;obtain ⟨ty',hk,rfl,rfl,rfl⟩:=hop;have ha':args = #[mo,ko]:=by apply Array.ext';simpa using ha
 have ht':tys = #[t,t']:=by apply Array.ext';simpa using ht
 subst ha' ht';exact (L3 ho hu hk h1 h2 hm hn hl hd).wp hop0 hsim (fun a' w' hs=>hK _ a' w' hwp hs)
theorem UQ{dr:Bool}{K:ab→Prop}{dst:Option Nat}{rest:List ay}{a:Act}{w:World}{Kw:Act→World→Prop}{Q:Exit→Act→World→Prop}{x:az}(hop:cD c.P o=some (.ka x))(hd:o.dst=dst)(hdn:∀ k,dst=some k→k<c.n)
  (hwp:aY c.P c.Y dr K (aW A dst (.ka x) rest (ar rest))) (hsim:bD c A a w) (hK:∀ B a' w',aY c.P c.Y dr K (ar rest B)→bD c B a' w'→Kw a' w'):o.wpIn c.bm 9 c.P a w Kw Q:=by
 have hop0:=hop;simp only[aW] at hwp;split at hwp
 case h_2=>cases hwp
 rename_i d;split at hwp
 case h_2=>cases hwp
 rename_i hf;split at hwp
 case h_2=>cases hwp
 rename_i ks vs hx;unfold cD at hop;split at hop <;>try (first | (simp at hop;done) | ((repeat' split at hop) <;>simp at hop;done))
 rename_i t y ho;split at hop
 case h_2=>cases hop
 rename_i kt et hu;simp only[t7,bw.ka.injEq] at hop;obtain ⟨z,hz,rfl⟩:=hop;exact (L6 ho hu hz hx hd (hdn d rfl) hf).wp hop0 hsim (fun a' w' hs=>hK _ a' w' hwp hs)
theorem UP{dr:Bool}{K:ab→Prop}{dst:Option Nat}{rest:List ay}{a:Act}{w:World}{Kw:Act→World→Prop}{Q:Exit→Act→World→Prop}{x:az}(hop:cD c.P o=some (.jZ x))(hd:o.dst=dst)(hdn:∀ k,dst=some k→k<c.n)
  (hwp:aY c.P c.Y dr K (aW A dst (.jZ x) rest (ar rest))) (hsim:bD c A a w) (hK:∀ B a' w',aY c.P c.Y dr K (ar rest B)→bD c B a' w'→Kw a' w'):o.wpIn c.bm 9 c.P a w Kw Q:=by
 have hop0:=hop;simp only[aW] at hwp;split at hwp
 case h_2=>cases hwp
 rename_i n hx;split at hwp
 case h_2=>cases hwp
 rename_i ks vs left cur hn;unfold cD at hop;split at hop <;>try (first | (simp at hop;done) | ((repeat' split at hop) <;>simp at hop;done))
 rename_i y ho;simp only[t7,bw.jZ.injEq] at hop;obtain ⟨z,hz,rfl⟩:=hop;obtain ⟨D,E,hs⟩:=hsim;obtain ⟨w',v,hrun,hor⟩:=WU ho hz hx hn (by rw[hd];exact hdn) hs;refine ⟨jn,?_⟩;rw[jE hop0,hrun,Oper.uponIn_value];rw[hd] at hor;split at hwp
 ·rename_i hl;rcases hor with ⟨_,hor⟩ | ⟨i,k,x,hi,_⟩
  ·exact hK _ _ _ hwp (by rw[hd];exact hor)
  ·rw[hl] at hi;cases hi
 ·rename_i hl;rcases hor with ⟨h,_⟩ | ⟨i,k,x,hi,hk,hx,hor⟩
  ·exact absurd h hl
  ·cases hwp with
   |any hdr hall =>
    have:=hall i hi;simp only[hk,hx] at this;exact hK _ _ _ this (by rw[hd];exact hor)
theorem UH{dr:Bool}{K:ab→Prop}{dst:Option Nat}{rest:List ay}{a:Act}{w:World}{Kw:Act→World→Prop}{Q:Exit→Act→World→Prop}{x:az}{args:List az}(hop:cD c.P o=some (.fA x args))(hd:o.dst=dst)(hdn:∀ k,dst=some k→k<c.n)
  (hwp:aY c.P c.Y dr K (aW A dst (.fA x args) rest (ar rest))) (hsim:bD c A a w) (hK:∀ B a' w',aY c.P c.Y dr K (ar rest B)→bD c B a' w'→Kw a' w'):o.wpIn c.bm 9 c.P a w Kw Q:=by
 have hop0:=hop;simp only[aW] at hwp;unfold cD at hop;split at hop <;>try (first | (simp at hop;done) | ((repeat' split at hop) <;>simp at hop;done))
 rename_i y xs ts _ ho;split at hop
 case h_2=>cases hop
 rename_i y' ys h1 h2;simp only[v6,bw.fA.injEq] at hop;obtain ⟨rfl,rfl⟩:=hop;obtain ⟨D,E,hs⟩:=hsim;have hv:=bp hs h1;split at hwp
 ·rename_i f caps hx;rw[hx] at hv;obtain ⟨cs,q1,q2⟩:=hv;simp only[ae] at q2;obtain ⟨vs,q3,q4⟩:=q2;have hval:a.eval y=iZ f vs:=by simpa[aZ,I.isAgg,q3] using q1.symm
  have caps_ok:∀ D' E',aM c A a w D' E'→ea (aR w D' E') caps vs:=fun D' E' hs'=>by
   have hv':=bp hs' h1;rw[hx] at hv';obtain ⟨cs',q1',q2'⟩:=hv';simp only[ae] at q2';obtain ⟨vs',q3',q4'⟩:=q2';have hval':a.eval y=iZ f vs':=by simpa[aZ,I.isAgg,q3'] using q1'.symm
   rw[hval] at hval';have:=MR hval';subst this;exact o7 q4'
  have e:xs.map a.eval=(xs.toList.map a.eval).toArray:=by apply Array.ext';simp
  rcases Nat.lt_or_ge f 1000000 with hf | hf
  ·rw[vg hf,vf hf] at hwp;rw[mc hf] at hval;refine uL (vs:=xs.toList.map a.eval++vs) hop0 rfl rfl (fun D' E' hs'=>(ki hs' xs.toList ts.toList ys h2).append (caps_ok D' E' hs')) ⟨D,E,hs⟩ hwp hd hdn (fun hc =>?_) hK;simp only[execOp,ho,resolve,hval,Deferred.ofValue,Sem.run_bind,Sem.run_pure,Result.andThen_ok,invoke,Array.empty_append,mz hc];rw[e];simp
  ·obtain ⟨g,rfl⟩:∃ g:Nat,f=g+1000000:=⟨Nat.sub f 1000000,(Nat.sub_add_cancel hf).symm⟩
   rw[AR,AQ] at hwp;rw[p8] at hval;refine uL (vs:=vs++xs.toList.map a.eval) hop0 rfl rfl (fun D' E' hs'=>(caps_ok D' E' hs').append (ki hs' xs.toList ts.toList ys h2)) ⟨D,E,hs⟩ hwp hd hdn (fun hc =>?_) hK;simp only[execOp,ho,resolve,hval,Deferred.ofValue,Sem.run_bind,Sem.run_pure,Result.andThen_ok,invoke,Array.append_empty,mz hc];rw[e];simp
 ·rename_i u hx;rw[hx] at hv;obtain ⟨cs,q1,q2⟩:=hv;simp only[ae] at q2;have hval:a.eval y=u:=by simpa[aZ,I.isAgg,q2.1] using q1.symm
  refine IS (vs:=xs.toList.map a.eval) hop0 (fun D' E' hs'=>ki hs' xs.toList ts.toList ys h2) ⟨D,E,hs⟩ hwp hd hdn (fun l hl =>?_) hK;subst hl;have e:xs.map a.eval=(xs.toList.map a.eval).toArray:=by apply Array.ext';simp
  simp only[execOp,ho,resolve,hval,Deferred.ofValue,Sem.run_bind,Sem.run_pure,Result.andThen_ok,invoke,Array.empty_append];rw[e]
 ·cases hwp
theorem UO{dr:Bool}{K:ab→Prop}{dst:Option Nat}{rest:List ay}{a:Act}{w:World}{Kw:Act→World→Prop}{Q:Exit→Act→World→Prop}{neg:Bool}{x:az}(hop:cD c.P o=some (.nilS neg x))(hd:o.dst=dst)(hdn:∀ k,dst=some k→k<c.n)
  (hwp:aY c.P c.Y dr K (aW A dst (.nilS neg x) rest (ar rest))) (hsim:bD c A a w) (hK:∀ B a' w',aY c.P c.Y dr K (ar rest B)→bD c B a' w'→Kw a' w'):o.wpIn c.bm 9 c.P a w Kw Q:=by
 have hop0:=hop;simp only[aW] at hwp;split at hwp
 case isFalse=>exact Br hop hd hdn hsim hK hwp
 rename_i hu;cases hwp with
 |any hdr hall =>
 unfold cD at hop;split at hop <;>try (first | (simp at hop;done) | ((repeat' split at hop) <;>simp at hop;done))
 rename_i bop t y z yt ho;split at hop
 ·simp at hop
 ·simp at hop
 ·rename_i e y' z' hut h1 h2;split at hop
  ·rename_i s;split at hop
   ·rename_i hopp;simp only[v6,bw.nilS.injEq] at hop;obtain ⟨rfl,rfl⟩:=hop;have ho':o.op=.binOp (if (bop==.neq)=true then .neq else .eql) t y z yt:=by
     rcases hopp with rfl | rfl <;>simpa using ho
    obtain ⟨D,E,hs⟩:=hsim;have hund:∃ sz,af A y'=.slice sz []∨af A y'=.c0 sz:=by
     generalize af A y'=q at hu;cases q <;>simp only[jh,Z6,List.isEmpty_iff] at hu
     ·rename_i sz;exact ⟨sz,.inr rfl⟩
     ·rename_i sz es;subst hu;exact ⟨sz,.inl rfl⟩
    obtain ⟨b,hrun⟩:=WW ho' hut h1 h2 hund hs;refine ⟨jn,?_⟩;rw[jE hop0,hrun,Oper.uponIn_value];have hb:=hall (if b then 0 else 1) (by cases b <;>simp);refine hK _ _ _ hb ⟨D,E,?_⟩;rw[hd];have e:((if b=true then (0:Nat) else 1)==0)=b:=by cases b <;>rfl
    rw[e];exact hs.aP hdn (kF b)
   ·cases hop
  ·cases hop
 ·split at hop <;>simp at hop
 ·(repeat' split at hop) <;>simp at hop
 ·split at hop <;>simp at hop
 ·cases hop
theorem UD{dr:Bool}{K:ab→Prop}{dst:Option Nat}{rest:List ay}{a:Act}{w:World}{Kw:Act→World→Prop}{Q:Exit→Act→World→Prop}{e:TypeId}{esz bytes:Nat}{z:I}{s x:az}(hop:cD c.P o=some (.dM e esz bytes z s x))(hd:o.dst=dst)(hdn:∀ k,dst=some k→k<c.n)
  (hwp:aY c.P c.Y dr K (aW A dst (.dM e esz bytes z s x) rest (ar rest))) (hsim:bD c A a w) (hK:∀ B a' w',aY c.P c.Y dr K (ar rest B)→bD c B a' w'→Kw a' w'):o.wpIn c.bm 9 c.P a w Kw Q:=by
 have hop0:=hop;simp only[aW] at hwp;unfold cD at hop;split at hop <;>try (first | (simp at hop;done) | ((repeat' split at hop) <;>simp at hop;done))
 rename_i args tys ho;split at hop
 case h_2=>cases hop
 rename_i y q t t' ha ht;split at hop
 case h_2=>cases hop
 rename_i e' s' x' k1 k2 k3;split at hop
 case isFalse=>split at hop <;>simp at hop
 rename_i hk;simp only[t7,bw.dM.injEq] at hop;obtain ⟨zz,hz1,rfl,rfl,rfl,rfl,rfl,rfl⟩:=hop;obtain ⟨rfl,hk2,hk3⟩:=hk;have ha':args = #[y,q]:=by apply Array.ext';simpa using ha
 have ht':tys = #[t,t]:=by apply Array.ext';simpa using ht
 subst ha' ht';rw[hz1] at hk3;simp only[zz0,v6] at hk3;have hinfo:(c.P.info? e').isSome=true:=by
  obtain ⟨ti,_,hti,_⟩:=kW hz1;rw[hti];rfl
 have grow:∀ es ys,cW A (c.P.cellsOf e') (af A s')=some es→cW A (c.P.cellsOf e') (af A x')=some ys→ys≠[]→(∀ a w D E,aM c A a w D E→∀ ad l cp,a.eval y=.slice ad l cp→cp<l+ys.length) →
   aY c.P c.Y dr K (fh A dst (c.P.cellsOf e') (c.P.bytesOf e') zz es ys (ar rest))→o.wpIn c.bm 9 c.P a w Kw Q:=fun es ys hse hsx hne hfull h=>by
  simp only[fh] at h;split at h
  case h_2=>cases h
  rename_i d;split at h
  case h_2=>cases h
  rename_i hf;split at h
  case isFalse=>cases h
  rename_i hb;cases h with
  |any hdr hall =>
   obtain ⟨D,E,hs⟩:=hsim;obtain ⟨v,w',m,g1,g2,g3⟩:=GW ho k1 k2 k3 hz1 hk3 hse hsx hb.1 hd (hdn d rfl) hf hne hs (hfull a w D E hs) hb.2;refine ⟨jn,?_⟩;rw[jE hop0,g1,Oper.uponIn_value,hd];rw[hd] at g3;exact hK _ _ _ (hall m g2) g3
 split at hwp
 ·rename_i n l hs';split at hwp
  case h_2=>cases hwp
  rename_i sz ys hx';split at hwp
  case h_3=>cases hwp
  case h_2 =>
   rename_i T xs hn;split at hwp
   case isFalse=>cases hwp
   rename_i hok;obtain ⟨h1,h2,h3,h4,h5,h6,h7,h8⟩:=hok;subst h3 h4;have hl5:ys.length=(qd ys).length:=(congrArg List.length h5).trans (by simp);rw[hl5] at h7 h8 hwp;rw[h5] at hx';have hd':=LW (o:=o) ho k1 k2 k3 hz1 h2 hs' hn h1 hx' (fun e=>h6 (by rw[h5,e];rfl)) h7 h8 (by rw[hd];exact hdn);exact hd'.wp hop0 hsim (fun a' w' hs=>by rw[hd] at hs;exact hK _ a' w' hwp hs)
  rename_i T sz' es hn;split at hwp
  case isFalse=>cases hwp
  rename_i hok;obtain ⟨h1,h2,h3,h4,h5,h6,h7⟩:=hok;subst h2 h3 h4;have hd':=LV (o:=o) ho k1 k2 k3 hz1 hk3 hk2 hs' hn h1 hx' rfl h5 h6 h7 (by rw[hd];exact hdn);exact hd'.wp hop0 hsim (fun a' w' hs=>by rw[hd] at hs;exact hK _ a' w' hwp hs)
 ·simp only[ed] at hwp;split at hwp
  case h_2=>cases hwp
  rename_i es ys hse hsx;split at hwp
  ·rename_i hne;subst hne;exact ((LY ho k1 hinfo k2 k3 hse hsx).does (by rw[hd];exact hdn)).wp hop0 hsim (fun a' w' hs=>by rw[hd] at hs;exact hK _ a' w' hwp hs)
  ·rename_i hne;have hpos:0<ys.length:=List.length_pos_iff.2 hne;split at hwp
   ·rename_i z0 hsv;refine grow es ys hse hsx hne (fun a w D E hs ad l cp hv =>?_) hwp;have h0:=bp hs k2;rw[hsv] at h0;obtain ⟨cs,q1,q2⟩:=h0;simp only[ae] at q2;have:a.eval y=.slice none 0 0:=by simpa[aZ,I.isAgg,q2] using q1.symm
    rw[this] at hv;simp only[Value.slice.injEq] at hv;omega
   ·rename_i z0 hsv;refine grow es ys hse hsx hne (fun a w D E hs ad l cp hv =>?_) hwp;have h0:=bp hs k2;rw[hsv] at h0;obtain ⟨cs,q1,q2⟩:=h0;simp only[ae] at q2;obtain ⟨ad',q2⟩:=q2;have:a.eval y=.slice ad' 0 0:=by simpa[aZ,I.isAgg,q2] using q1.symm
    rw[this] at hv;simp only[Value.slice.injEq] at hv;omega
   ·rename_i n p sz lo l hsv;split at hwp
    case h_2=>cases hwp
    rename_i b hn;split at hwp
    case h_2=>cases hwp
    rename_i fs hat;split at hwp
    ·rename_i hroom;split at hwp
     case isFalse=>cases hwp
     rename_i hok;obtain ⟨rfl,hsh⟩:=hok;exact (LX ho k1 hinfo k2 k3 hsv hn hat hsx hroom hsh (by rw[hd];exact hdn)).wp hop0 hsim (fun a' w' hs=>by rw[hd] at hs;exact hK _ a' w' hwp hs)
    ·rename_i hroom;refine grow es ys hse hsx hne (fun a w D E hs ad l' cp hv =>?_) hwp;have h0:=bp hs k2;rw[hsv] at h0;obtain ⟨_,bb,cs,T,off,c1,c2,c3,_,_,_,_,_,_,_,_,_,_,r1,iL,tf⟩:=hs.view (fs:=fs) h0 (by simp only[bW,hn,hat]);rw[tf] at hv;simp only[Value.slice.injEq] at hv;omega
   ·cases hwp
theorem UE{dr:Bool}{K:ab→Prop}{dst:Option Nat}{rest:List ay}{a:Act}{w:World}{Kw:Act→World→Prop}{Q:Exit→Act→World→Prop}{e:TypeId}{esz bytes:Nat}{z:I}{s n:az}(hop:cD c.P o=some (.jI e esz bytes z s n))(hd:o.dst=dst)(hdn:∀ k,dst=some k→k<c.n)
  (hwp:aY c.P c.Y dr K (aW A dst (.jI e esz bytes z s n) rest (ar rest))) (hsim:bD c A a w) (hK:∀ B a' w',aY c.P c.Y dr K (ar rest B)→bD c B a' w'→Kw a' w'):o.wpIn c.bm 9 c.P a w Kw Q:=by
 have hop0:=hop;simp only[aW] at hwp;unfold cD at hop;split at hop <;>try (first | (simp at hop;done) | ((repeat' split at hop) <;>simp at hop;done))
 rename_i args tys ho;split at hop
 case h_2=>cases hop
 rename_i y q t t' ha ht;split at hop
 case h_2=>cases hop
 rename_i e' s' x' k1 k2 k3;split at hop
 case isTrue=>simp at hop
 split at hop
 case isFalse=>cases hop
 rename_i hk;simp only[t7,bw.jI.injEq] at hop;obtain ⟨zz,hz1,rfl,rfl,rfl,rfl,rfl,rfl⟩:=hop;obtain ⟨hint,hk2,hk3⟩:=hk;have ha':args = #[y,q]:=by apply Array.ext';simpa using ha
 have ht':tys = #[t,t']:=by apply Array.ext';simpa using ht
 subst ha' ht';rw[hz1] at hk3;simp only[zz0,v6] at hk3;obtain ⟨kt,hkt⟩:∃ kt,c.P.underlying t'=some (.int kt):=by
  cases hu:c.P.underlying t' with
  |none=>rw[hu] at hint;cases hint
  |some dsc=>cases dsc <;>rw[hu] at hint <;>first | exact ⟨_,rfl⟩ | cases hint
 split at hwp
 case h_2=>cases hwp
 rename_i kx bq hx';simp only[pJ] at hwp;split at hwp
 case h_2=>cases hwp
 rename_i es hse;split at hwp
 case h_2=>cases hwp
 rename_i nn p sz lo l hsv;split at hwp
 case h_2=>cases hwp
 rename_i bb hn;split at hwp
 case h_2=>cases hwp
 rename_i fs hat;split at hwp
 case isFalse=>cases hwp
 rename_i hroom;simp only[fh] at hwp;split at hwp
 case h_2=>cases hwp
 rename_i d;split at hwp
 case h_2=>cases hwp
 rename_i hf;split at hwp
 case isFalse=>cases hwp
 rename_i hb;rw[List.length_replicate] at hb;cases hwp with
 |any hdr hall =>
  obtain ⟨D,E,hs⟩:=hsim;obtain ⟨v,w',m,g1,g2,g3⟩:=GY ho k1 k2 k3 hkt hx' rfl hroom.1 hk2 hz1 hk3 hse hb.1 hd (hdn d rfl) hf hs (fun ad l' cp hv=>by
   have h0:=bp hs k2;rw[hsv] at h0;have hsv':=hse;obtain ⟨_,b1,cs,T,off,c1,c2,c3,_,_,_,_,_,_,_,_,_,_,r1,iL,tf⟩:=hs.view (fs:=fs) h0 (by simp only[bW,hn,hat]);rw[tf] at hv;simp only[Value.slice.injEq] at hv;have hel:es.length=l:=by
    rw[hsv] at hse;simp only[cW,bW,hn,hat] at hse;split at hse
    ·simp only[v6] at hse;rw[←hse,zz1,List.length_drop];omega
    ·cases hse
   omega) hb.2
  refine ⟨jn,?_⟩;rw[jE hop0,g1,Oper.uponIn_value,hd];rw[hd] at g3;have:=hall m (by rw[List.length_replicate];exact g2);rw[List.length_replicate] at this;exact hK _ _ _ this g3
theorem UI{dr:Bool}{K:ab→Prop}{dst:Option Nat}{rest:List ay}{a:Act}{w:World}{Kw:Act→World→Prop}{Q:Exit→Act→World→Prop}{esz:Nat}{z:I}{x:az}(hop:cD c.P o=some (.jq esz z x))(hd:o.dst=dst)(hdn:∀ k,dst=some k→k<c.n)
  (hwp:aY c.P c.Y dr K (aW A dst (.jq esz z x) rest (ar rest))) (hsim:bD c A a w) (hK:∀ B a' w',aY c.P c.Y dr K (ar rest B)→bD c B a' w'→Kw a' w'):o.wpIn c.bm 9 c.P a w Kw Q:=by
 have hop0:=hop;simp only[aW] at hwp;split at hwp
 case h_2=>cases hwp
 unfold cD at hop;split at hop <;>try (first | (simp at hop;done) | ((repeat' split at hop) <;>simp at hop;done))
 rename_i args tys ho;split at hop
 case h_2=>cases hop
 rename_i y t ha ht;split at hop
 case h_2=>cases hop
 rename_i e' x' k1 k2;simp only[t7,bw.jq.injEq] at hop;obtain ⟨zz,hz1,rfl,rfl,rfl⟩:=hop;have ha':args = #[y]:=by apply Array.ext';simpa using ha
 have ht':tys = #[t]:=by apply Array.ext';simpa using ht
 subst ha' ht';have nothing:aY c.P c.Y dr K (ar rest A)→(∀ a w D E,aM c A a w D E→∃ ad cp,a.eval y=.slice ad 0 cp)→o.wpIn c.bm 9 c.P a w Kw Q:=fun h hv=>by
  obtain ⟨D,E,hs⟩:=hsim;obtain ⟨ad,cp,hv⟩:=hv a w D E hs;refine ⟨jn,?_⟩;have hrun:(execOp a.eval o).run c.P w=.ok (.value (.tuple #[])) w:=by
   cases ad <;>simp[execOp,ho,resolve,invoke,builtin,Builtin.clear_,run_underlying k1,hv]
  rw[jE hop0,hrun,Oper.uponIn_value,hd];exact hK _ _ _ h ⟨D,E,hs⟩
 unfold od at hwp;split at hwp
 ·rename_i n p sz lo l hv;split at hwp
  case h_2=>cases hwp
  rename_i b hn;split at hwp
  case h_2=>cases hwp
  rename_i fs hat;split at hwp
  case isFalse=>cases hwp
  rename_i hok;obtain ⟨rfl,hsh⟩:=hok;exact (L0 ho k1 k2 hz1 hv hn hat hsh hd).wp hop0 hsim (fun a' w' hs=>hK _ a' w' hwp hs)
 ·rename_i z0 hv;refine nothing hwp fun a w D E hs =>?_;have h0:=bp hs k2;rw[hv] at h0;obtain ⟨cs,q1,q2⟩:=h0;simp only[ae] at q2;exact ⟨none,0,by simpa[aZ,I.isAgg,q2] using q1.symm⟩
 ·rename_i z0 hv;refine nothing hwp fun a w D E hs =>?_;have h0:=bp hs k2;rw[hv] at h0;obtain ⟨cs,q1,q2⟩:=h0;simp only[ae] at q2;obtain ⟨ad,q2⟩:=q2;exact ⟨ad,0,by simpa[aZ,I.isAgg,q2] using q1.symm⟩
 ·cases hwp
theorem UJ{dr:Bool}{K:ab→Prop}{dst:Option Nat}{rest:List ay}{a:Act}{w:World}{Kw:Act→World→Prop}{Q:Exit→Act→World→Prop}{esz:Nat}{x y:az}(hop:cD c.P o=some (.gp esz x y))(hd:o.dst=dst)(hdn:∀ k,dst=some k→k<c.n)
  (hwp:aY c.P c.Y dr K (aW A dst (.gp esz x y) rest (ar rest))) (hsim:bD c A a w) (hK:∀ B a' w',aY c.P c.Y dr K (ar rest B)→bD c B a' w'→Kw a' w'):o.wpIn c.bm 9 c.P a w Kw Q:=by
 have hop0:=hop;simp only[aW] at hwp;unfold cD at hop;split at hop <;>try (first | (simp at hop;done) | ((repeat' split at hop) <;>simp at hop;done))
 rename_i args tys ho;split at hop
 case h_2=>cases hop
 rename_i u v t t' ha ht;split at hop
 case h_2=>cases hop
 rename_i e' x' y' k1 k2 k3;split at hop
 case isFalse=>cases hop
 rename_i hk;simp only[v6,bw.gp.injEq] at hop;obtain ⟨rfl,rfl,rfl⟩:=hop;obtain ⟨_,hinfo⟩:=hk;have ha':args = #[u,v]:=by apply Array.ext';simpa using ha
 have ht':tys = #[t,t']:=by apply Array.ext';simpa using ht
 subst ha' ht';unfold kp at hwp;split at hwp
 ·rename_i n p sz lo l ys hv hsx;split at hwp
  case h_2=>cases hwp
  rename_i b hn;split at hwp
  case h_2=>cases hwp
  rename_i fs hat;split at hwp
  case isFalse=>cases hwp
  rename_i hok;obtain ⟨rfl,hsh⟩:=hok;exact (L1 ho k1 hinfo k2 k3 hv hn hat hsx rfl hsh (by rw[hd];exact hdn)).wp hop0 hsim (fun a' w' hs=>by rw[hd] at hs;exact hK _ a' w' hwp hs)
 ·rename_i z0 ys hv hsx;exact (L2 ho k1 hinfo k2 k3 hv hsx (by rw[hd];exact hdn)).wp hop0 hsim (fun a' w' hs=>by rw[hd] at hs;exact hK _ a' w' hwp hs)
 ·cases hwp
theorem UR{dr:Bool}{K:ab→Prop}{dst:Option Nat}{rest:List ay}{a:Act}{w:World}{Kw:Act→World→Prop}{Q:Exit→Act→World→Prop}{x:az}(hop:cD c.P o=some (.eM x))(hd:o.dst=dst)(hdn:∀ k,dst=some k→k<c.n)
  (hwp:aY c.P c.Y dr K (aW A dst (.eM x) rest (ar rest))) (hsim:bD c A a w) (hK:∀ B a' w',aY c.P c.Y dr K (ar rest B)→bD c B a' w'→Kw a' w'):o.wpIn c.bm 9 c.P a w Kw Q:=by
 have hop0:=hop;simp only[aW] at hwp;unfold cD at hop;split at hop <;>try (first | (simp at hop;done) | ((repeat' split at hop) <;>simp at hop;done))
 rename_i t t' y ho;split at hop
 case h_1=>simp at hop
 case h_2=>(repeat' split at hop) <;>simp at hop
 case h_4=>cases hop
 rename_i e y' k1 k2 k3;split at hop
 case h_2=>cases hop
 rename_i k4;simp only[v6,bw.eM.injEq] at hop;subst hop;cases hse:lK (af A y') with
 |none=>rw[hse] at hwp;simp only[iv] at hwp;cases hwp
 |some ys =>
  rw[hse] at hwp;simp only[iv] at hwp;split at hwp
  case h_2=>cases hwp
  rename_i d;split at hwp
  case h_2=>cases hwp
  rename_i hf;cases hwp with
  |any hdr hall =>
   obtain ⟨D,E,hs⟩:=hsim;obtain ⟨v,w',m,g1,g2,g3⟩:=Y2 ho k1 k2 k4 k3 hse hd (hdn d rfl) hf hs;refine ⟨jn,?_⟩;rw[jE hop0,g1,Oper.uponIn_value,hd];rw[hd] at g3;exact hK _ _ _ (hall m g2) g3
theorem r8{dr:Bool}{K:ab→Prop}{op:bw}{dst:Option Nat}{rest:List ay}{a:Act}{w:World}{Kw:Act→World→Prop}{Q:Exit→Act→World→Prop}(hop:cD c.P o=some op)(hd:o.dst=dst)(hdn:∀ k,dst=some k→k<c.n)
  (hwp:aY c.P c.Y dr K (aW A dst op rest (ar rest))) (hsim:bD c A a w) (hK:∀ B a' w',aY c.P c.Y dr K (ar rest B)→bD c B a' w'→Kw a' w'):o.wpIn c.bm 9 c.P a w Kw Q:=by
 cases op with
 |alloc z=>exact UC hop hd hdn hwp hsim hK
 |box x=>exact UF hop hd hdn hwp hsim hK
 |aT s x v=>exact US hop hd hdn hwp hsim hK
 |call f args=>exact UG hop hd hdn hwp hsim hK
 |gM f args=>exact UT hop hd hdn hwp hsim hK
 |kG=>exact UL hop hd hdn hwp hsim hK
 |jz e bytes z n=>exact UM hop hd hdn hwp hsim hK
 |jY ty m k v=>exact UN hop hd hdn hwp hsim hK
 |lD ty m k=>exact UK hop hd hdn hwp hsim hK
 |ka x=>exact UQ hop hd hdn hwp hsim hK
 |jZ x=>exact UP hop hd hdn hwp hsim hK
 |fA x args=>exact UH hop hd hdn hwp hsim hK
 |nilS neg x=>exact UO hop hd hdn hwp hsim hK
 |dM e esz bytes z s x=>exact UD hop hd hdn hwp hsim hK
 |jI e esz bytes z s n=>exact UE hop hd hdn hwp hsim hK
 |jq esz z x=>exact UI hop hd hdn hwp hsim hK
 |gp esz x y=>exact UJ hop hd hdn hwp hsim hK
 |eM x=>exact UR hop hd hdn hwp hsim hK
 |_=>exact Br hop hd hdn hsim hK (by simpa only[aW] using hwp)
theorem sf{j t:Nat}{bl:Array Oper}{a:Act}{w:World}{b b':Bool}(hs:bD c A a w)(hg:o.guard=some (j,b))(ht:(bl[j]?).bind (·.dst)=some t)(hv:A.t t=.bool b'):Region.wanted o (yielded bl a.tmps)=(b'==b):=by
 obtain ⟨D,E,hs⟩:=hs;have h:=hs.dv t;rw[hv] at h;have h:=kP h;have hy:yielded bl a.tmps j=some b':=by
  unfold yielded;rw[ht];simp only[Option.bind_some];simp only[Array.getD_eq_getD_getElem?] at h;cases hh:a.tmps[t]? with
  |none=>simp[hh,undef] at h
  |some v=>simp only[hh,Option.getD_some] at h;subst h;rfl
 unfold Region.wanted;rw[hg];simp only[hy];cases b <;>cases b' <;>rfl
theorem sg{j t:Nat}{bl:Array Oper}{a:Act}{w:World}{b:Bool}(hs:bD c A a w)(hg:o.guard=some (j,b))(ht:(bl[j]?).bind (·.dst)=some t)(hv:A.t t=.undef):Region.wanted o (yielded bl a.tmps)=false:=by
 obtain ⟨D,E,hs⟩:=hs;have h:=hs.dv t;rw[hv] at h;simp only[aR] at h;have hy:yielded bl a.tmps j=none:=by
  unfold yielded;rw[ht];simp only[Option.bind_some];simp only[Array.getD_eq_getD_getElem?] at h;cases hh:a.tmps[t]? with
  |none=>rfl
  |some v=>simp only[hh,Option.getD_some] at h;subst h;rfl
 unfold Region.wanted;rw[hg];simp only[hy];rfl
theorem bD.mw{a:Act}{w:World}(h:bD c A a w){d:Option Nat}(hd:∀ k,d=some k→k<c.n):bD c (A.aP d .undef) (a.put d undef) w:=by
 obtain ⟨D,E,h⟩:=h;exact ⟨D,E,h.aP hd (by simp[aR])⟩
theorem sd{dr:Bool}{K:ab→Prop}{bl:Array Oper}{Q:Exit→Act→World→Prop}(hQ:∀ B a w,K B→bD c B a w→Q .normal a w):∀ (l:List Oper) (gs:List ay) (A:ab) (a:Act) (w:World),fJ c.P c.n bl l=some gs→aY c.P c.Y dr K (ar gs A) →
  bD c A a w→wpListIn c.bm 9 c.P bl Q l a w
 | [],gs,A,a,w,hc,hwp,hs=>by
  simp only[fJ,v6] at hc;subst hc;simp only[ar] at hwp;cases hwp with
  |done hk=>exact hQ A a w hk hs
 |o::l,gs,A,a,w,hc,hwp,hs=>by
  simp only[fJ] at hc;split at hc
  case h_2=>cases hc
  rename_i g gs' hg hgs;simp only[v6] at hc;subst hc;obtain ⟨h1,h2,h3,h4⟩:=oc hg;have step:aY c.P c.Y dr K (aW A g.dst g.op gs' (ar gs'))→o.wpIn c.bm 9 c.P a w (wpListIn c.bm 9 c.P bl Q l) Q:=fun h =>
   r8 h1 h2.symm (by rw[h2];exact h3) h hs (fun B a' w' hw hs'=>sd hQ l gs' B a' w' hgs hw hs')
  simp only[wpListIn];simp only[ar] at hwp;rcases h4 with ⟨h5,h6⟩ | ⟨j,b,t,h5,h6,h7⟩
  ·rw[h6] at hwp;have hw:Region.wanted o (yielded bl a.tmps)=true:=by simp[Region.wanted,h5]
   rw[hw,if_pos rfl];exact step hwp
  ·rw[h7] at hwp;simp only at hwp;split at hwp
   ·rename_i b' hb';rw[sf hs h5 h6 hb'];split at hwp
    ·rename_i hbb;subst hbb;simp only[BEq.rfl,if_true];exact step hwp
    ·rename_i hbb;have:(b'==b)=false:=by simpa using hbb
     rw[this];simp only[Z6,if_false];exact ⟨fun f _=>lz c f,sd hQ l gs' _ _ w hgs hwp (by rw[h2];exact hs.mw h3)⟩
   ·rename_i hb';rw[sg hs h5 h6 hb'];simp only[Z6,if_false];exact ⟨fun f _=>lz c f,sd hQ l gs' _ _ w hgs hwp (by rw[h2];exact hs.mw h3)⟩
   ·cases hwp
end
def az.sl:az→List Nat
 | .t n=>[n]
 | .c _=>[]
def sT:Option az→List Nat
 |some x=>x.sl
 |none=>[]
def iS(l:List az):List Nat:=l.flatMap az.sl
def bw.cv:bw→List Nat
 | .mv x=>x.sl
 | .pick c a b=>c.sl++(a.sl++b.sl)
 | .bin _ x y=>x.sl++y.sl
 | .eqv _ _ x y=>x.sl++y.sl
 | .nilS _ x=>x.sl
 | .conv _ x=>x.sl
 | .un _ x=>x.sl
 | .ld _ x=>x.sl
 | .fa _ _ x=>x.sl
 | .fl _ _ _ x=>x.sl
 | .ia _ _ x i=>x.sl++i.sl
 | .is _ x i=>x.sl++i.sl
 | .ix _ _ _ x i=>x.sl++i.sl
 | .len x=>x.sl
 | .lenT x=>x.sl
 | .va _ _ x=>x.sl
 | .sl _ x lo hi mx=>x.sl++(sT lo++(sT hi++sT mx))
 | .bld _ ps=>iS (ps.map (·.2))
 | .bs _ _ ps=>iS ps
 | .ext x _=>x.sl
 | .mk _ caps=>iS caps
 | .alloc _=>[]
 | .box x=>x.sl
 | .aT _ x v=>x.sl++v.sl
 | .dM _ _ _ _ s x=>s.sl++x.sl
 | .jI _ _ _ _ s x=>s.sl++x.sl
 | .cap x=>x.sl
 | .bs0 _=>[]
 | .jq _ _ x=>x.sl
 | .gp _ x y=>x.sl++y.sl
 | .call _ args=>iS args
 | .fA x args=>x.sl++iS args
 | .gM _ args=>iS args
 | .nilC x=>x.sl
 | .ptrE _ x y=>x.sl++y.sl
 | .max2 x y=>x.sl++y.sl
 | .prim _ xs=>iS xs
 | .b2s x=>x.sl
 | .eM x=>x.sl
 | .jz _ _ _ n=>n.sl
 | .kG=>[]
 | .lk _ _ _ m k=>m.sl++k.sl
 | .jY _ m k v=>m.sl++(k.sl++v.sl)
 | .lD _ m k=>m.sl++k.sl
 | .ka x=>x.sl
 | .jZ x=>x.sl
 | .ent x=>x.sl
def ay.cv(g:ay):List Nat:=g.op.cv++(match g.guard with | some (t,_)=>[t] | none=>[])
def bw.fY:bw→Nat
 | .mv _ | .pick .. | .bin .. | .eqv .. | .nilS .. | .conv .. | .un .. | .fl .. | .ix .. | .lenT _ | .bld .. | .ext .. | .mk .. | .nilC _ | .ptrE .. | .max2 .. | .prim .. =>0
 | .ld .. | .fa .. | .ia .. | .is .. | .len _ | .va .. | .bs .. | .sl .. | .cap _ | .bs0 _ | .lk .. | .ent _ | .b2s _=>1
 | .call .. | .fA .. =>2
 | .alloc _ | .box _=>3
 | .aT .. =>4
 | .dM .. | .jI .. | .jq .. | .gp .. | .gM .. | .jz .. | .kG | .jY .. | .lD .. | .ka _ | .jZ _ | .eM _=>5
def uR(a b:Nat):Bool:=(decide (a≤2)&&decide (b≤3))||(a==0&&b==4)
def mg(g h:ay):Bool:=uR g.op.fY h.op.fY&&(match g.dst with
  |some d => !h.cv.contains d&&h.dst != some d
  |none=>true)&&(match h.dst with
  |some d => !g.cv.contains d
  |none=>true)
def dx(A A':ab)(l:List Nat):Prop:=∀ k∈l,A'.t k=A.t k
section
variable {A A':ab}
theorem cE{x:az}(h:dx A A' x.sl):af A' x=af A x:=by
 cases x with
 |t n=>exact h n (by simp[az.sl])
 |c x=>rfl
theorem dx.l{l m:List Nat}(h:dx A A' (l++m)):dx A A' l:=fun k hk=>h k (List.mem_append_left _ hk)
theorem dx.r{l m:List Nat}(h:dx A A' (l++m)):dx A A' m:=fun k hk=>h k (List.mem_append_right _ hk)
theorem ku:∀ {l:List az},dx A A' (iS l)→l.map (af A')=l.map (af A)
 | [],_=>rfl
 |x::l,h=>by
  simp only[iS,List.flatMap_cons] at h;simp only[Z3,cE h.l,ku (l:=l) h.r]
theorem ot{x:Option az}(h:dx A A' (sT x)):x.map (af A')=x.map (af A):=by
 cases x with
 |none=>rfl
 |some x=>simp only[zz0,cE (x:=x) h]
theorem AN:∀ {l:List (Nat×az)},dx A A' (iS (l.map (·.2)))→(l.map fun p=>(p.1,af A' p.2))=l.map fun p=>(p.1,af A p.2)
 | [],_=>rfl
 |x::l,h=>by
  simp only[iS,Z3,List.flatMap_cons] at h;simp only[Z3,cE h.l,AN (l:=l) h.r]
theorem qu{f g:I→Option I}(h:∀ x v,f x=some v→g x=some v):∀ {xs vs:List I},gW f xs=some vs→gW g xs=some vs
 | [],vs,hx=>by simpa only[gW] using hx
 |x::xs,vs,hx=>by
  simp only[gW] at hx ⊢;cases h1:f x with
  |none=>rw[h1] at hx;cases hx
  |some y=>cases h2:gW f xs with
   |none=>rw[h1,h2] at hx;cases hx
   |some ys=>rw[h1,h2] at hx;rw[h x y h1,qu h h2];exact hx
theorem vk(hu:dy A A'):∀ (k:Nat) (x v:I),gr A k x=some v→gr A' k x=some v
 |0,_,_,h=>by simp[gr] at h
 |k+1,x,v,h=>by
  have ih:=vk hu k;simp only[gr] at h ⊢;split at h
  ·rename_i hc;rw[if_pos hc];exact h
  ·rename_i hc;rw[if_neg hc];cases x <;>simp only[] at h ⊢ <;>try (cases h;done)
   case agg fs =>
    simp only[t7] at h ⊢;obtain ⟨a,h1,h2⟩:=h;exact ⟨a,qu ih h1,h2⟩
   case func f fs =>
    split at h
    case isFalse hf=>rw[if_neg hf];exact h
    rename_i hf;rw[if_pos hf];simp only[t7] at h ⊢;obtain ⟨a,h1,h2⟩:=h;exact ⟨a,qu ih h1,h2⟩
   case ptr n p =>
    cases hd:bW A (.ptr n p) with
    |none=>rw[hd] at h;cases h
    |some y =>
     rw[hd] at h;rw[iE hu hd];simp only[t7] at h ⊢;obtain ⟨a,h1,h2⟩:=h;exact ⟨a,ih _ _ h1,h2⟩
   case view n p sz lo l =>
    cases hd:bW A (.ptr n p) with
    |none=>rw[hd] at h;cases h
    |some y=>rw[hd] at h;rw[iE hu hd];exact h
   case mref n =>
    cases ho:A.o n with
    |none=>rw[ho] at h;cases h
    |some y =>
     rw[ho] at h;rw[hu n y ho];cases y <;>try (cases h;done)
     simp only at h ⊢;split at h
     ·rename_i hk;rw[if_pos hk];simp only[t7] at h ⊢;obtain ⟨a,h1,h2⟩:=h;exact ⟨a,qu ih h1,h2⟩
     ·cases h
   case own n l =>
    cases ho:A.o n with
    |none=>rw[ho] at h;cases h
    |some y=>rw[ho] at h;rw[hu n y ho];exact h
mutual
theorem AX(hu:dy A A'){aI:Bool} : ∀ {x v:I},bd aI A x=some v→bd aI A' x=some v
 | .ptr n p,v,h=>by
  simp only[bd] at h ⊢;cases aI <;>simp only[Z6,if_false,if_true] at h ⊢
  ·exact h
  ·cases hd:bW A (.ptr n p) with
   |none=>rw[hd] at h;cases h
   |some y =>
    rw[hd] at h;rw[iE hu hd];simp only at h ⊢;split at h
    ·rename_i hc;rw[if_pos hc];exact h
    ·rename_i hc;rw[if_neg hc];simp only[t7] at h ⊢;obtain ⟨a,h1,h2⟩:=h;exact ⟨a,vk hu 9 _ _ h1,h2⟩
 | .mref n,v,h=>by
  simp only[bd] at h ⊢;cases aI <;>simp only[Z6,if_false,if_true] at h ⊢
  ·exact h
  ·cases ho:A.o n with
   |none=>rw[ho] at h;cases h
   |some y =>
    rw[ho] at h;rw[hu n y ho];cases y <;>try (cases h;done)
    simp only at h ⊢;split at h
    ·rename_i hk;rw[if_pos hk];simp only[t7] at h ⊢;obtain ⟨a,h1,h2⟩:=h;exact ⟨a,qu (vk hu 9) h1,h2⟩
    ·cases h
 | .cX _,_,h=>by simp[bd] at h
 | .c6 _ _,_,h=>by simpa only[bd] using h
 | .own n k,v,h=>by
  simp only[bd] at h ⊢;cases ho:A.o n with
  |none=>rw[ho] at h;cases h
  |some y=>rw[ho] at h;rw[hu n y ho];exact h
 | .view n p sz lo k,v,h=>by
  simp only[bd] at h ⊢;cases aI <;>simp only[Z6,if_false,if_true] at h ⊢
  ·exact h
  ·cases hd:bW A (.ptr n p) with
   |none=>rw[hd] at h;cases h
   |some y=>rw[hd] at h;rw[iE hu hd];exact h
 | .func f caps,v,h=>by
  simp only[bd] at h ⊢;split at h
  case isFalse hf=>rw[if_neg hf];exact h
  rename_i hf;rw[if_pos hf];simp only[t7] at h ⊢;obtain ⟨a,h1,h2⟩:=h;exact ⟨a,kz hu h1,h2⟩
 | .agg fs,v,h=>by
  simp only[bd,t7] at h ⊢;obtain ⟨a,h1,h2⟩:=h;exact ⟨a,kz hu h1,h2⟩
 | .nils _,_,h | .c0 _,_,h | .tuple _,_,h | .undef,_,h | .cY,_,h | .bool _,_,h | .int _ _,_,h | .aj _,_,h | .nilp,_,h | .de,_,h | .cS,_,h | .any,_,h | .raw _,_,h | .slice _ _,_,h | .ref _,_,h | .iface _ _,_,h=>by simpa only[bd] using h
theorem kz(hu:dy A A'){aI:Bool} : ∀ {xs vs:List I},bJ aI A xs=some vs→bJ aI A' xs=some vs
 | [],vs,h=>by simpa only[bJ] using h
 |x::xs,vs,h=>by
  simp only[bJ] at h ⊢;cases h1:bd aI A x with
  |none=>rw[h1] at h;cases h
  |some y=>cases h2:bJ aI A xs with
   |none=>rw[h1,h2] at h;cases h
   |some ys=>rw[h1,h2] at h;rw[AX hu h1,kz hu h2];exact h
end
theorem wI{op:bw}(hc:op.fY=0)(h:dx A A' op.cv):aV A' op=aV A op:=by
 cases op <;>simp only[bw.fY] at hc <;>try (cases hc;done)
 all_goals simp only[bw.cv] at h
 case mv x=>simp only[aV,cE h]
 case pick c a b=>simp only[aV,cE h.l,cE h.r.l,cE h.r.r]
 case bin _ x y=>simp only[aV,cE h.l,cE h.r]
 case eqv _ _ x y=>simp only[aV,cE h.l,cE h.r]
 case nilS x=>simp only[aV,cE h]
 case conv x=>simp only[aV,cE h]
 case un x=>simp only[aV,cE h]
 case fl x=>simp only[aV,cE h]
 case ix x i=>simp only[aV,cE h.l,cE h.r]
 case lenT x=>simp only[aV,cE h]
 case bld zs ps=>simp only[aV,AN h]
 case ext x i=>simp only[aV,cE h]
 case mk f caps=>simp only[aV,ku h]
 case nilC x=>simp only[aV,cE h]
 case ptrE neg x y=>simp only[aV,cE h.l,cE h.r]
 case max2 x y=>simp only[aV,cE h.l,cE h.r]
 case prim p xs=>simp only[aV,ku h]
theorem WH(hu:dy A A'){m:I}{q:List I×List I}(h:gb A m=some q):gb A' m=some q:=by
 cases m with
 |mref n =>
  simp only[gb] at h ⊢;cases hd:A.o n with
  |none=>simp only[hd] at h;cases h
  |some y=>simp only[hd] at h;simp only[hu n y hd];exact h
 |raw v=>cases v <;>first | (cases h;done) | (rename_i m;cases m <;>first | exact h | cases h)
 |c6 ks vs=>exact h
 |_=>simp only[gb] at h;cases h
theorem Zl(hu:dy A A'){sz:Nat}{x:I}{es:List I}(h:cW A sz x=some es):cW A' sz x=some es:=by
 cases x <;>simp only[cW] at h ⊢ <;>try (exact h)
 ·rename_i n l;cases hd:A.o n with
  |none=>rw[hd] at h;cases h
  |some y=>rw[hd] at h;rw[hu n y hd];exact h
 ·rename_i n p z lo k;cases hd:bW A (.ptr n p) with
  |none=>rw[hd] at h;cases h
  |some y=>rw[hd] at h;rw[iE hu hd];exact h
theorem CT{op:bw}(hu:dy A A')(h:dx A A' op.cv){v:I}(hv:aV A op=some v):aV A' op=some v:=by
 by_cases hc:op.fY=0
 ·rw[wI hc h];exact hv
 cases op <;>try (exact absurd rfl hc)
 all_goals simp only[bw.cv] at h
 case ld s x =>
  simp only[aV,cE h] at hv ⊢;cases hd:bW A (af A x) with
  |none=>rw[hd] at hv;cases hv
  |some y=>rw[hd] at hv;rw[iE hu hd];exact hv
 case fa f off x =>
  simp only[aV,cE h] at hv ⊢;generalize af A x=z at *;cases z <;>try (first | exact hv | (rename_i y;cases y <;>exact hv))
  rename_i n p;cases hd:bW A (.ptr n p) with
  |none=>simp only[hd] at hv;cases hv
  |some y=>simp only[hd] at hv;simp only[iE hu hd];exact hv
 case ia n esz x i =>
  simp only[aV,cE h.l,cE h.r] at hv ⊢;generalize af A x=z at *;cases z <;>try (first | exact hv | (rename_i y;cases y <;>exact hv))
  rename_i n p;cases hd:bW A (.ptr n p) with
  |none=>simp only[hd] at hv;(repeat' split at hv) <;>cases hv
  |some y=>simp only[hd] at hv;simp only[iE hu hd];exact hv
 case is esz x i =>
  simp only[aV,cE h.l,cE h.r] at hv ⊢;generalize af A i=q at *;cases q <;>try (exact hv)
  simp only at hv ⊢;generalize af A x=z at *;cases z <;>try (first | exact hv | (rename_i y;cases y <;>exact hv))
  ·rename_i n p;cases hd:A.o n with
   |none=>simp only[hd] at hv;cases hv
   |some y=>simp only[hd] at hv;simp only[hu n y hd];exact hv
  ·rename_i n p sz lo k;simp only at hv ⊢;cases hd:bW A (.ptr n p) with
   |none=>simp only[hd] at hv;cases hv
   |some y=>simp only[hd] at hv;simp only[iE hu hd];exact hv
 case len x =>
  simp only[aV,cE h] at hv ⊢;generalize af A x=z at *;cases z <;>try (first | exact hv | (rename_i y;cases y <;>exact hv))
  rename_i n p;cases hd:A.o n with
  |none=>simp only[hd] at hv;cases hv
  |some y=>simp only[hd] at hv;simp only[hu n y hd];exact hv
 case cap x =>
  simp only[aV,cE h] at hv ⊢;generalize af A x=z at *;cases z <;>try (first | exact hv | (rename_i y;cases y <;>exact hv))
  rename_i n p sz lo k;simp only at hv ⊢;cases hd:bW A (.ptr n p) with
  |none=>simp only[hd] at hv;cases hv
  |some y=>simp only[hd] at hv;simp only[iE hu hd];exact hv
 case bs0 esz=>exact hv
 case sl esz x lo hi mx =>
  simp only[aV,cE h.l,ot h.r.l,ot h.r.r.l,ot h.r.r.r] at hv ⊢;generalize af A x=z at *;cases z <;>try (first | exact hv | (rename_i y;cases y <;>exact hv))
  rename_i n p sz l0 k;simp only at hv ⊢;cases hd:bW A (.ptr n p) with
  |none=>simp only[hd] at hv;cases hv
  |some y=>simp only[hd] at hv;simp only[iE hu hd];exact hv
 case va n esz x =>
  simp only[aV,cE h] at hv ⊢;generalize af A x=z at *;cases z <;>try (first | exact hv | (rename_i y;cases y <;>exact hv))
  rename_i n p;cases hd:bW A (.ptr n p) with
  |none=>simp only[hd] at hv;cases hv
  |some y=>simp only[hd] at hv;simp only[iE hu hd];exact hv
 case lk ty z ok m k =>
  simp only[aV,cE h.l,cE h.r] at hv ⊢;cases hd:gb A (af A m) with
  |none=>rw[hd] at hv;cases hv
  |some y=>rw[hd] at hv;rw[WH hu hd];exact hv
 case ent x =>
  simp only[aV,cE h] at hv ⊢;generalize af A x=z at *;cases z <;>try (exact hv)
  rename_i n;simp only at hv ⊢;cases hd:A.o n with
  |none=>simp only[hd] at hv;cases hv
  |some y=>simp only[hd] at hv;simp only[hu n y hd];exact hv
 case b2s x =>
  simp only[aV,cE h] at hv ⊢;cases hd:cW A 1 (af A x) with
  |none=>rw[hd] at hv;cases hv
  |some y=>rw[hd] at hv;rw[Zl hu hd];exact hv
 case bs esz ps =>
  simp only[aV,ku h] at hv ⊢;cases hd:bJ false A (ps.map (af A)) with
  |none=>rw[hd] at hv;cases hv
  |some y=>rw[hd] at hv;rw[kz hu hd];exact hv
 all_goals (simp only[aV] at hv;cases hv)
end
def pass(A:ab)(g:ay):Prop:=match g.guard with | none=>True | some (t,b)=>A.t t=.bool b
def fR(A:ab)(g:ay):Prop:=match g.guard with | none=>False | some (t,b)=>A.t t=.bool (!b)∨A.t t=.undef
inductive iU (P:Program) (A:ab):bw→I→Prop where
 |pure {op:bw} {v:I} : aV A op=some v→iU P A op v
 |flat {f:FuncId} {args:List az} {cargs:List I} {r:I} : bJ true A (args.map (af A))=some cargs→aS P f cargs r→r.flat=true→iU P A (.call f args) r
 |lead {f:FuncId} {args:List az} {cargs:List I} {r:I} : bJ false A (args.map (af A))=some cargs→aS P f cargs r→iU P A (.call f args) r
 |tO {x:az} {f:FuncId} {caps:List I} {args:List az} {cargs:List I} {r:I} : af A x=.func f caps→bJ true A (gR f (args.map (af A)) caps)=some cargs→aS P (kv f) cargs r→r.flat=true→iU P A (.fA x args) r
 |tP {x:az} {f:FuncId} {caps:List I} {args:List az} {cargs:List I} {r:I} : af A x=.func f caps→bJ false A (gR f (args.map (af A)) caps)=some cargs→aS P (kv f) cargs r→iU P A (.fA x args) r
def rv(A:ab)(op:bw)(x:I):Prop:=op=.alloc x∨∃ y,op=.box y∧(af A y).cC=true∧x=af A y
def ry(A:ab)(op:bw)(n:Nat)(z:ai):Prop:=∃ s x v p b old,op=.aT s x v∧af A x=.ptr n p∧A.o n=some (.box b)∧b.at p=some old∧wu s (af A v) old∧z=.box (b.du p (af A v))
def Gp(A:ab)(dst:Option Nat)(op:bw)(B:ab):Prop:=op.fY=5∧∀ (rest:List ay) (k:ab→cg),aW A dst op rest k=k B
theorem ZE{A:ab}{neg:Bool}{x:az}{v:I}(h:aV A (.nilS neg x)=some v):jh (af A x)=false:=by
 simp only[aV] at h;generalize af A x=q at *;cases q <;>simp only[jh] <;>simp only at h <;>try (cases h;done)
 rename_i sz es;cases es with
 |nil=>simp at h
 |cons=>rfl
inductive eH (P:Program) (g:ay) (A:ab):ab→Prop where
 |skip:fR A g→eH P g A (A.aP g.dst .undef)
 |val {v:I} : pass A g→iU P A g.op v→eH P g A (A.aP g.dst v)
 |fk {d:Nat} {x:I} : pass A g→g.dst=some d→rv A g.op x→A.o d=none→eH P g A ((A.aQ d (.box x)).put d (.ptr d []))
 |aT {n:Nat} {z:ai} : pass A g→g.dst=none→ry A g.op n z→eH P g A (A.aQ n z)
 |gq {B:ab} : pass A g→Gp A g.dst g.op B→eH P g A B
theorem uF{b' b:Bool}(h:b'≠b):b' = !b:=by cases b <;>cases b' <;>simp_all
section
variable {P:Program} {Y:Value→List I→List (Nat×ai)→cj→Prop} {K:ab→Prop}
theorem eH.Cs{A:ab}{g:ay}{rest:List ay}(hp:pass A g)(h:aY P Y true K (aW A g.dst g.op rest (ar rest))):∃ B,eH P g A B∧aY P Y true K (ar rest B):=by
 have pure:aY P Y true K (cq (aV A g.op) fun v=>ar rest (A.aP g.dst v))→∃ B,eH P g A B∧aY P Y true K (ar rest B):=by
  intro h;cases hv:aV A g.op with
  |none=>rw[hv] at h;cases h
  |some v=>rw[hv] at h;exact ⟨_,.val hp (.pure hv),h⟩
 obtain ⟨dst,op,gd⟩:=g;cases op with
 |alloc z =>
  simp only[aW] at h;split at h
  case h_2=>cases h
  split at h
  case h_2=>cases h
  rename_i hd _ ho;exact ⟨_,.fk hp rfl (.inl rfl) ho,h⟩
 |box x =>
  simp only[aW] at h;split at h
  case h_2=>cases h
  split at h
  case h_2=>cases h
  rename_i hd _ ho;split at h
  case isFalse=>cases h
  rename_i hv;exact ⟨_,.fk hp rfl (.inr ⟨x,rfl,hv,rfl⟩) ho,h⟩
 |aT s x v =>
  simp only[aW] at h;split at h
  case h_2=>cases h
  split at h
  case h_2=>cases h
  rename_i n p hx;split at h
  case h_2=>cases h
  rename_i b hb;split at h
  case h_2=>cases h
  rename_i old hat;split at h
  case isFalse=>cases h
  rename_i hok;exact ⟨_,.aT hp rfl ⟨s,x,v,p,b,old,rfl,hx,hb,hat,hok,rfl⟩,h⟩
 |nilS neg x =>
  simp only[aW] at h;split at h
  ·cases h with | any hdr=>cases hdr
  ·exact pure h
 |dM e esz bytes z s x =>
  simp only[aW] at h;split at h
  ·rename_i n l hs';split at h
   case h_2=>cases h
   rename_i sz ys hx';split at h
   case h_3=>cases h
   case h_2 =>
    rename_i T xs hn;split at h
    case isFalse=>cases h
    rename_i hok;exact ⟨_,.gq hp ⟨rfl,fun rest k=>by simp only[aW,hs',hx',hn,if_pos hok]⟩,h⟩
   rename_i T sz' es hn;split at h
   case isFalse=>cases h
   rename_i hok;exact ⟨_,.gq hp ⟨rfl,fun rest k=>by simp only[aW,hs',hx',hn,if_pos hok]⟩,h⟩
  ·rename_i hno;have hg:∀ (rest:List ay) (k:ab→cg),aW A dst (.dM e esz bytes z s x) rest k=ed A dst esz bytes z (af A s) (cW A esz (af A s)) (cW A esz (af A x)) k:=fun rest k=>by
    simp only[aW]
   simp only[ed] at h hg;split at h
   case h_2=>cases h
   rename_i es ys hse hsx;simp only[hse,hsx] at hg;have grow:¬ aY P Y true K (fh A dst esz bytes z es ys (ar rest)):=fun h=>by
    simp only[fh] at h;split at h
    case h_2=>cases h
    split at h
    case h_2=>cases h
    split at h
    case isFalse=>cases h
    cases h with | any hdr=>cases hdr
   split at h
   ·rename_i hne;simp only[if_pos hne] at hg;exact ⟨_,.gq hp ⟨rfl,hg⟩,h⟩
   ·rename_i hne;simp only[if_neg hne] at hg;split at h
    ·exact absurd h grow
    ·exact absurd h grow
    ·rename_i n p sz lo l hsv;split at h
     case h_2=>cases h
     rename_i b hn;split at h
     case h_2=>cases h
     rename_i fs hat;split at h
     ·rename_i hroom;split at h
      case isFalse=>cases h
      rename_i hok;simp only[hsv,hn,hat,if_pos hroom,if_pos hok] at hg;exact ⟨_,.gq hp ⟨rfl,hg⟩,h⟩
     ·exact absurd h grow
    ·cases h
 |gM f args =>
  simp only[aW] at h;cases h with | ext r hdr=>cases hdr
 |jI e esz bytes z s n =>
  exfalso
  simp only[aW] at h;split at h
  case h_2=>cases h
  simp only[pJ] at h;split at h
  case h_2=>cases h
  split at h
  case h_2=>cases h
  split at h
  case h_2=>cases h
  split at h
  case h_2=>cases h
  split at h
  case isFalse=>cases h
  simp only[fh] at h;split at h
  case h_2=>cases h
  split at h
  case h_2=>cases h
  split at h
  case isFalse=>cases h
  cases h with | any hdr=>cases hdr
 |kG =>
  simp only[aW] at h;split at h
  case h_2=>cases h
  rename_i d;split at h
  case h_2=>cases h
  rename_i hf;exact ⟨_,.gq hp ⟨rfl,fun rest k=>by simp only[aW,hf]⟩,h⟩
 |jz e bytes z n =>
  simp only[aW] at h;split at h
  case h_2=>cases h
  rename_i d;split at h
  case h_2=>cases h
  rename_i hf;split at h
  case h_2=>cases h
  rename_i k m hn;split at h
  case isFalse=>cases h
  rename_i hc;exact ⟨_,.gq hp ⟨rfl,fun rest k=>by simp only[aW,hf,hn,if_pos hc]⟩,h⟩
 |jY ty m key v =>
  simp only[aW] at h;split at h
  case h_2=>cases h
  split at h
  case h_2=>cases h
  rename_i n hm;split at h
  case h_2=>cases h
  rename_i ks vs hn;split at h
  case h_2=>cases h
  rename_i ks' vs' hl;exact ⟨_,.gq hp ⟨rfl,fun rest k=>by simp only[aW,hm,hn,hl]⟩,h⟩
 |lD ty m key =>
  simp only[aW] at h;split at h
  case h_2=>cases h
  split at h
  case h_2=>cases h
  rename_i n hm;split at h
  case h_2=>cases h
  rename_i ks vs hn;split at h
  case h_2=>cases h
  rename_i ks' vs' hl;exact ⟨_,.gq hp ⟨rfl,fun rest k=>by simp only[aW,hm,hn,hl]⟩,h⟩
 |ka x =>
  simp only[aW] at h;split at h
  case h_2=>cases h
  rename_i d;split at h
  case h_2=>cases h
  rename_i hf;split at h
  case h_2=>cases h
  rename_i ks vs hx;exact ⟨_,.gq hp ⟨rfl,fun rest k=>by simp only[aW,hf,hx]⟩,h⟩
 |jZ x =>
  simp only[aW] at h;split at h
  case h_2=>cases h
  rename_i n hx;split at h
  case h_2=>cases h
  rename_i ks vs left cur hn;split at h
  ·rename_i hl;exact ⟨_,.gq hp ⟨rfl,fun rest k=>by simp only[aW,hx,hn,if_pos hl]⟩,h⟩
  ·cases h with | any hdr=>cases hdr
 |jq esz z x =>
  simp only[aW] at h;split at h
  case h_2=>cases h
  have hg:∀ (rest:List ay) (k:ab→cg),aW A none (.jq esz z x) rest k=od A esz z k (af A x):=fun rest k=>rfl;simp only[od] at h hg;split at h
  ·rename_i n p sz lo l hv;split at h
   case h_2=>cases h
   rename_i b hn;split at h
   case h_2=>cases h
   rename_i fs hat;split at h
   case isFalse=>cases h
   rename_i hok;simp only[hv,hn,hat,if_pos hok] at hg;exact ⟨_,.gq hp ⟨rfl,hg⟩,h⟩
  ·rename_i z0 hv;simp only[hv] at hg;exact ⟨_,.gq hp ⟨rfl,hg⟩,h⟩
  ·rename_i z0 hv;simp only[hv] at hg;exact ⟨_,.gq hp ⟨rfl,hg⟩,h⟩
  ·cases h
 |gp esz x y =>
  have hg:∀ (rest:List ay) (k:ab→cg),aW A dst (.gp esz x y) rest k=kp A dst esz k (af A x) (kc A esz (af A y)):=fun rest k=>rfl;simp only[aW] at h;simp only[kp] at h hg;split at h
  ·rename_i n p sz lo l ys hv hsx;split at h
   case h_2=>cases h
   rename_i b hn;split at h
   case h_2=>cases h
   rename_i fs hat;split at h
   case isFalse=>cases h
   rename_i hok;simp only[hv,hsx,hn,hat,if_pos hok] at hg;exact ⟨_,.gq hp ⟨rfl,hg⟩,h⟩
  ·rename_i z0 ys hv hsx;simp only[hv,hsx] at hg;exact ⟨_,.gq hp ⟨rfl,hg⟩,h⟩
  ·cases h
 |eM x =>
  simp only[aW] at h;unfold iv at h;split at h
  case h_2=>cases h
  split at h
  case h_2=>cases h
  split at h
  case h_2=>cases h
  cases h with | any hdr=>cases hdr
 |call f args =>
  simp only[aW] at h;generalize h1:bJ true A (args.map (af A))=a1 at h;generalize h2:bJ false A (args.map (af A))=a2 at h;cases h with
  |flat r hc hf hw=>exact ⟨_,.val hp (.flat h1 hc hf),hw⟩
  |lead r hc hw=>exact ⟨_,.val hp (.lead h2 hc),hw⟩
  |jQ ns r hdr=>cases hdr
  |bB aI ρ os cargs post hdr=>cases hdr
 |fA x args =>
  simp only[aW] at h;split at h
  case h_3=>cases h
  case h_2=>cases h with | tU os cargs post hdr=>cases hdr
  rename_i f caps hx;generalize h1:bJ true A (gR f (args.map (af A)) caps)=a1 at h;generalize h2:bJ false A (gR f (args.map (af A)) caps)=a2 at h;cases h with
  |flat r hc hf hw=>exact ⟨_,.val hp (.tO hx h1 hc hf),hw⟩
  |lead r hc hw=>exact ⟨_,.val hp (.tP hx h2 hc),hw⟩
  |jQ ns r hdr=>cases hdr
  |bB aI ρ os cargs post hdr=>cases hdr
 |_=>exact pure (by simpa only[aW] using h)
theorem eH.wj{A:ab}{g:ay}{rest:List ay}(h:aY P Y true K (ar (g::rest) A)):∃ B,eH P g A B∧aY P Y true K (ar rest B):=by
 simp only[ar] at h;split at h
 ·rename_i hg;exact eH.Cs (by simp only[pass,hg]) h
 ·rename_i t b hg;split at h
  ·rename_i b' hb;split at h
   ·rename_i hbb;subst hbb;exact eH.Cs (by simp only[pass,hg];exact hb) h
   ·rename_i hbb;refine ⟨_,.skip (by simp only[fR,hg];exact .inl (by rw[hb,uF hbb])),h⟩
  ·rename_i hb;exact ⟨_,.skip (by simp only[fR,hg];exact .inr hb),h⟩
  ·cases h
theorem mN{A:ab}{g:ay}{rest:List ay}(hp:pass A g):ar (g::rest) A=aW A g.dst g.op rest (ar rest):=by
 simp only[ar];cases hg:g.guard with
 |none=>rfl
 |some tb =>
  obtain ⟨t,b⟩:=tb;simp only[pass,hg] at hp;simp only[hp,if_true]
theorem eH.xE{A B:ab}{g:ay}{rest:List ay}(h:eH P g A B)(hw:aY P Y true K (ar rest B)):aY P Y true K (ar (g::rest) A):=by
 cases h with
 |skip hn =>
  simp only[ar];cases hg:g.guard with
  |none=>simp only[fR,hg] at hn
  |some tb =>
   obtain ⟨t,b⟩:=tb;simp only[fR,hg] at hn;rcases hn with hn | hn
   ·simp only[hn];rw[if_neg (by cases b <;>simp)];exact hw
   ·simp only[hn];exact hw
 |val hp hv =>
  rw[mN hp];obtain ⟨dst,op,gd⟩:=g;cases hv with
  |pure hv =>
   have hv':aV A op=some _:=hv;cases op <;>try (simp only[aW,hv',cq] <;>first | exact hw | (simp only[aV] at hv';cases hv');done)
   all_goals first
    |(simp only[aV] at hv';cases hv';done)
    |(simp only[aW,ZE hv',Z6,if_false,hv',cq];exact hw)
  |flat h1 h2 h3=>simp only[aW,h1];exact .flat _ h2 h3 hw
  |lead h1 h2=>simp only[aW,h1];exact .lead _ h2 hw
  |tO h0 h1 h2 h3=>simp only[aW,h0,h1];exact .flat _ h2 h3 hw
  |tP h0 h1 h2=>simp only[aW,h0,h1];exact .lead _ h2 hw
 |fk hp hd hm ho =>
  rw[mN hp];obtain ⟨dst,op,gd⟩:=g;simp only at hd;subst hd;rcases hm with hm | ⟨y,hm,hv,rfl⟩ <;>simp only at hm <;>subst hm
  ·simp only[aW,ho];exact hw
  ·simp only[aW,ho,hv,if_true];exact hw
 |aT hp hd hm =>
  rw[mN hp];obtain ⟨dst,op,gd⟩:=g;simp only at hd;subst hd;obtain ⟨s,x,v,p,b,old,h1,h2,h3,h4,h5,rfl⟩:=hm;simp only at h1;subst h1;simp only[aW,h2,h3,h4,if_pos h5];exact hw
 |gq hp hm =>
  rw[mN hp,hm.2];exact hw
theorem iU.cz{A A':ab}{op:bw}{v:I}(h:iU P A op v)(hu:dy A A')(ha:dx A A' op.cv):iU P A' op v:=by
 cases h with
 |pure h=>exact .pure (CT hu ha h)
 |flat h1 h2 h3=>exact .flat (by rw[ku ha];exact kz hu h1) h2 h3
 |lead h1 h2=>exact .lead (by rw[ku ha];exact kz hu h1) h2
 |tO h0 h1 h2 h3=>simp only[bw.cv] at ha;exact .tO (by rw[cE ha.l];exact h0) (by rw[ku ha.r];exact kz hu h1) h2 h3
 |tP h0 h1 h2=>simp only[bw.cv] at ha;exact .tP (by rw[cE ha.l];exact h0) (by rw[ku ha.r];exact kz hu h1) h2
theorem iU.jQ{A A':ab}{op:bw}{v:I}(h:iU P A op v)(hc:op.fY=0)(ha:dx A A' op.cv):iU P A' op v:=by
 cases h with
 |pure h=>exact .pure (by rw[wI hc ha];exact h)
 |_=>simp[bw.fY] at hc
theorem mr{A A':ab}{g:ay}(ha:dx A A' g.cv)(h:pass A g):pass A' g:=by
 unfold pass at *;cases hg:g.guard with
 |none=>trivial
 |some tb=>simp only[hg] at h ⊢;rw[ha tb.1 (by simp[ay.cv,hg])];exact h
theorem oQ{A A':ab}{g:ay}(ha:dx A A' g.cv)(h:fR A g):fR A' g:=by
 unfold fR at *;cases hg:g.guard with
 |none=>simp only[hg] at h
 |some tb=>simp only[hg] at h ⊢;rw[ha tb.1 (by simp[ay.cv,hg])];exact h
theorem ay.jc{A A':ab}{g:ay}(ha:dx A A' g.cv):dx A A' g.op.cv:=fun k hk=>ha k (List.mem_append_left _ hk)
def kh(P:Program)(g:ay)(A:ab)(v:I):Prop:=(fR A g∧v=.undef)∨(pass A g∧iU P A g.op v)
theorem kh.step{A:ab}{g:ay}{v:I}(h:kh P g A v):eH P g A (A.aP g.dst v):=by
 rcases h with ⟨h,rfl⟩ | ⟨h,k⟩
 ·exact .skip h
 ·exact .val h k
theorem kh.cz{A A':ab}{g:ay}{v:I}(h:kh P g A v)(hu:dy A A')(ha:dx A A' g.cv):kh P g A' v:=by
 rcases h with ⟨h,rfl⟩ | ⟨h,k⟩
 ·exact .inl ⟨oQ ha h,rfl⟩
 ·exact .inr ⟨mr ha h,k.cz hu (ay.jc ha)⟩
theorem kh.jQ{A A':ab}{g:ay}{v:I}(h:kh P g A v)(hc:g.op.fY=0)(ha:dx A A' g.cv):kh P g A' v:=by
 rcases h with ⟨h,rfl⟩ | ⟨h,k⟩
 ·exact .inl ⟨oQ ha h,rfl⟩
 ·exact .inr ⟨mr ha h,k.jQ hc (ay.jc ha)⟩
theorem eH.hE{A B:ab}{g:ay}(h:eH P g A B)(hc:g.op.fY≤2):∃ v,kh P g A v∧B=A.aP g.dst v:=by
 cases h with
 |skip h=>exact ⟨_,.inl ⟨h,rfl⟩,rfl⟩
 |val h k=>exact ⟨_,.inr ⟨h,k⟩,rfl⟩
 |fk h1 h2 h3 h4=>rcases h3 with h3 | ⟨y,h3,_⟩ <;>(rw[h3] at hc;simp[bw.fY] at hc)
 |aT h1 h2 h3=>obtain ⟨s,x,v,p,b,old,h4,_⟩:=h3;rw[h4] at hc;simp[bw.fY] at hc
 |gq h1 h3=>rw[h3.1] at hc;omega
theorem oV{A:ab}{a b:Option Nat}{v u:I}(h:∀ d,a=some d→b≠some d):(A.aP a v).aP b u=(A.aP b u).aP a v:=by
 cases a with
 |none=>rfl
 |some d=>cases b with
  |none=>rfl
  |some e =>
   have hne:d≠e:=fun he=>h d rfl (by rw[he]);simp only[ab.aP,ab.put,ab.mk.injEq,and_true]
   funext k
   by_cases h1:k=e <;>by_cases h2:k=d <;>simp_all
theorem gJ{A:ab}{d:Option Nat}{v:I} : (A.aP d v).o=A.o:=by cases d <;>rfl
theorem lE{A:ab}{d:Option Nat}{v:I}{l:List Nat}(h:∀ k,d=some k→k∉l):dx A (A.aP d v) l:=by
 cases d with
 |none=>exact fun _ _=>rfl
 |some e =>
  intro k hk;have:k≠e:=fun he=>h e rfl (he▸hk);simp[ab.aP,ab.put,this]
theorem dx.symm{A A':ab}{l:List Nat}(h:dx A A' l):dx A' A l:=fun k hk=>(h k hk).symm
theorem rv.same{A A':ab}{op:bw}{x:I}(h:rv A op x)(ha:dx A A' op.cv):rv A' op x:=by
 rcases h with h | ⟨y,h1,h2,h3⟩
 ·exact .inl h
 ·subst h1;have:=cE (x:=y) ha;exact .inr ⟨y,rfl,by rw[this];exact h2,by rw[this];exact h3⟩
theorem ry.same{A A':ab}{op:bw}{n:Nat}{z:ai}(h:ry A op n z)(ho:A'.o=A.o)(ha:dx A A' op.cv):ry A' op n z:=by
 obtain ⟨s,x,v,p,b,old,h1,h2,h3,h4,h5,h6⟩:=h;subst h1;simp only[bw.cv] at ha;have e1:=cE ha.l;have e2:=cE ha.r;exact ⟨s,x,v,p,b,old,rfl,by rw[e1];exact h2,by rw[ho];exact h3,h4,by rw[e2];exact h5,by rw[e2];exact h6⟩
theorem VM{g h:ay}(hi:mg g h=true):uR g.op.fY h.op.fY=true∧(∀ d,g.dst=some d→d∉h.cv)∧(∀ d,g.dst=some d→h.dst≠some d)∧(∀ d,h.dst=some d→d∉g.cv):=by
 simp only[mg,Z0] at hi;obtain ⟨⟨h1,h2⟩,h3⟩:=hi;refine ⟨h1,fun d hd =>?_,fun d hd =>?_,fun d hd =>?_⟩
 ·rw[hd] at h2;simp at h2;exact h2.1
 ·rw[hd] at h2;simp at h2;exact h2.2
 ·rw[hd] at h3;simpa using h3
theorem eH.qZ{A B C:ab}{g h:ay}(hi:mg g h=true)(h1:eH P g A B)(h2:eH P h B C):∃ B',eH P h A B'∧eH P g B' C:=by
 obtain ⟨hc,i1,i2,i3⟩:=VM hi;simp only[uR,Bool.or_eq_true,Z0,decide_eq_true_eq,beq_iff_eq] at hc;have hg2:g.op.fY≤2:=by rcases hc with hc | hc <;>omega
 obtain ⟨v,hv,rfl⟩:=h1.hE hg2;have ag:dx (A.aP g.dst v) A h.cv:=(lE i1).symm;have cz:dy (A.aP g.dst v) A:=fun n x hx=>by rwa [gJ] at hx
 cases h2 with
 |skip hn =>
  exact ⟨_,.skip (oQ ag hn),by
   rw[oV i2];exact (hv.cz (by intro n x hx;rwa [gJ]) (lE i3)).step⟩
 |val hp hu =>
  exact ⟨_,.val (mr ag hp) (hu.cz cz (ay.jc ag)),by
   rw[oV i2];exact (hv.cz (by intro n x hx;rwa [gJ]) (lE i3)).step⟩
 |fk hp hd hm ho =>
  rename_i d x;rw[gJ] at ho;refine ⟨_,.fk (mr ag hp) hd (hm.same (ay.jc ag)) ho,?_⟩;have e:((A.aP g.dst v).aQ d (.box x)).put d (.ptr d [])=((A.aQ d (.box x)).put d (.ptr d [])).aP g.dst v:=by
   cases hgd:g.dst with
   |none=>rfl
   |some e =>
    have hne:e≠d:=fun he=>i2 e hgd (by rw[hd,he]);simp only[ab.aP,ab.put,ab.aQ,ab.mk.injEq,and_true]
    funext k
    by_cases h1:k=e <;>by_cases h2:k=d <;>simp_all
  rw[e];refine (hv.cz (fun n y hy =>?_) (fun k hk =>?_)).step
  ·have:n≠d:=fun he=>by rw[he,ho] at hy;cases hy
   simp only[ab.put,ab.aQ,this,if_false];exact hy
  ·have:k≠d:=fun he=>i3 d hd (he▸hk);simp only[ab.put,ab.aQ,this,if_false]
 |aT hp hd hm =>
  rename_i n z;have hc0:g.op.fY=0:=by
   obtain ⟨s,x,v,p,b,old,h4,_⟩:=hm;rcases hc with hc | hc
   ·rw[h4] at hc;exact absurd hc.2 (by simp[bw.fY])
   ·exact hc.1
  refine ⟨_,.aT (mr ag hp) hd (hm.same gJ.symm (ay.jc ag)),?_⟩;have e:(A.aP g.dst v).aQ n z=(A.aQ n z).aP g.dst v:=by cases g.dst <;>rfl
  rw[e];exact (kh.jQ (A':=A.aQ n z) hv hc0 (fun _ _=>rfl)).step
 |gq hp hm =>
  exfalso
  rw[hm.1] at hc;omega
theorem aY.qZ{A:ab}{g h:ay}{rest:List ay}(hi:mg g h=true)(hw:aY P Y true K (ar (g::h::rest) A)):aY P Y true K (ar (h::g::rest) A):=by
 obtain ⟨B,h1,h2⟩:=eH.wj hw;obtain ⟨C,h3,h4⟩:=eH.wj h2;obtain ⟨B',h5,h6⟩:=eH.qZ hi h1 h3;exact h5.xE (h6.xE h4)
theorem aY.pO{g:ay} : ∀ {l:List ay} {r:List ay} {A:ab},(∀ j∈l,mg j g=true)→aY P Y true K (ar (l++g::r) A)→aY P Y true K (ar (g::(l++r)) A)
 | [],r,A,_,h=>h
 |j::l,r,A,hi,h=>by
  obtain ⟨B,h1,h2⟩:=eH.wj (g:=j) (rest:=l++g::r) h;have h3:=aY.pO (l:=l) (r:=r) (fun k hk=>hi k (by simp[hk])) h2;exact aY.qZ (hi j (by simp)) (h1.xE h3)
end
def dP(o:Oper):List Nat:=(o.after.toList.filter fun e=>Region.binds .any e).map (·.on)
def nQ(cl:List Nat):List Nat→Nat
 | []=>0
 |k::ks=>(2^k ||| cl.getD k 0) ||| nQ cl ks
def rT(on:List (List Nat))(gs:List ay)(cl:List Nat):Bool :=
 (List.range gs.length).all fun i=>(on.getD i []).all (fun k=>decide (k<i))&&Nat.beq (cl.getD i 0) (nQ cl (on.getD i [])) &&
  (List.range i).all fun j=>(cl.getD i 0).testBit j||mg (gs.getD j default) (gs.getD i default)
theorem xH{cl:List Nat}{j:Nat} : ∀ {l:List Nat},(nQ cl l).testBit j=true→j∈l∨∃ k∈l,(cl.getD k 0).testBit j=true
 | [],h=>by simp[nQ] at h
 |k::ks,h=>by
  simp only[nQ,Nat.testBit_or,Bool.or_eq_true,Nat.testBit_two_pow,decide_eq_true_eq] at h;rcases h with (h | h) | h
  ·exact .inl (by simp[h])
  ·exact .inr ⟨k,by simp,h⟩
  ·rcases xH h with h | ⟨m,h1,h2⟩
   ·exact .inl (by simp[h])
   ·exact .inr ⟨m,by simp[h1],h2⟩
structure tX (l:List Oper) (gs:List ay):Prop where
 ln:∀ i o,l[i]?=some o→∀ k∈dP o,k<i
 vG:∀ (S:Nat→Prop),(∀ i o,l[i]?=some o→S i→∀ k∈dP o,S k)→∀ i o g j,l[i]?=some o→gs[i]?=some g→(∀ k∈dP o,S k)→j<i→¬ S j→mg (gs.getD j default) g=true
theorem Mb{l:List Oper}{gs:List ay}{cl:List Nat}(hlen:gs.length=l.length)(h:rT (l.map dP) gs cl=true):tX l gs:=by
 simp only[rT,zy5,List.mem_range] at h;have bf:∀ i o,l[i]?=some o→∃ g,gs[i]?=some g∧(∀ k∈dP o,k<i)∧(∀ j,(cl.getD i 0).testBit j=true→j∈dP o∨∃ k∈dP o,(cl.getD k 0).testBit j=true)∧∀ j,j<i→(cl.getD i 0).testBit j=true∨mg (gs.getD j default) g=true:=by
  intro i o ho;have hi:i<l.length:=(Z7.1 ho).1;have h1:=h i (by omega);have hon:(l.map dP).getD i []=dP o:=by simp[zz5,ho]
  have hgi:i<gs.length:=by omega
  have hg:gs[i]?=some gs[i]:=zz2 hgi;have hgd:gs.getD i default=gs[i]:=by simp[zz5,hg]
  rw[hon,hgd] at h1;simp only[Z0,zy5,decide_eq_true_eq,Bool.or_eq_true,List.mem_range] at h1;have hb:=Nat.eq_of_beq_eq_true h1.1.2;exact ⟨_,hg,h1.1.1,fun j hj=>xH (by rw[←hb];exact hj),h1.2⟩
 refine ⟨fun i o ho=>(bf i o ho).choose_spec.2.1,?_⟩;intro S hS i o g j ho hg hon hj hnj;have key:∀ n i o,i≤n→l[i]?=some o→(∀ k∈dP o,S k)→∀ j,(cl.getD i 0).testBit j=true→S j:=by
  intro n
  induction n with
  |zero =>
   intro i o hi ho hon j hj;obtain ⟨g,_,h1,h2,_⟩:=bf i o ho;rcases h2 j hj with h | ⟨k,hk,_⟩
   ·exact hon j h
   ·have:=h1 k hk;omega
  |succ n ih =>
   intro i o hi ho hon j hj;obtain ⟨g,_,h1,h2,_⟩:=bf i o ho;rcases h2 j hj with h | ⟨k,hk,hjk⟩
   ·exact hon j h
   ·have hki:=h1 k hk;have hkl:k<l.length:=Nat.lt_trans hki (Z7.1 ho).1;obtain ⟨ok,hok⟩:∃ ok,l[k]?=some ok:=⟨l[k],zz2 hkl⟩
    exact ih k ok (by omega) hok (hS k ok hok (hon k hk)) j hjk
 obtain ⟨g',hg',_,_,h3⟩:=bf i o ho;rw[hg,v6] at hg';subst hg';rcases h3 j hj with h | h
 ·exact absurd (key i i o (Z4 _) ho hon j h) hnj
 ·exact h
def ir(listed:Array Bool)(n:Nat):List Nat:=(List.range n).filter fun i => !listed.getD i true
def nq(gs:List ay)(listed:Array Bool)(n:Nat):List ay:=(ir listed n).map fun i=>gs.getD i default
theorem D5{i n:Nat}(h:i<n):List.range n=List.range i++i::(List.range (n-(i+1))).map (i+1 + ·):=by
 conv=>lhs;rw[show n=(i+1)+(n-(i+1)) by omega,List.range_add]
 rw[List.range_succ];simp
theorem YB{listed:Array Bool}{i n:Nat}(h:i<n)(hs:listed.size=n)(hu:listed.getD i true=false):∃ l1 l2,ir listed n=l1++i::l2∧ir (listed.setIfInBounds i true) n=l1++l2∧∀ j∈l1,j<i∧listed.getD j true=false:=by
 have same:∀ j,j≠i→(listed.setIfInBounds i true).getD j true=listed.getD j true:=fun j hj=>getD_set_ne true (Ne.symm hj);have jS:(listed.setIfInBounds i true).getD i true=true:=by simp[hs,h]
 refine ⟨(List.range i).filter fun j => !listed.getD j true,((List.range (n-(i+1))).map (i+1 + ·)).filter fun j => !listed.getD j true,?_,?_,?_⟩
 ·simp only[ir];rw[D5 h,List.filter_append,List.filter_cons];simp only[hu,Bool.not_false,if_true]
 ·simp only[ir];rw[D5 h,List.filter_append,List.filter_cons];simp only[jS,Bool.not_true,Z6,if_false]
  congr 1
  ·refine List.filter_congr fun j hj =>?_;rw[same j (by have:=List.mem_range.1 hj;omega)]
  ·refine List.filter_congr fun j hj =>?_;obtain ⟨k,_,rfl⟩:=zy3.1 hj;rw[same _ (by omega)]
 ·intro j hj;simp only[List.mem_filter,List.mem_range,Bool.not_eq_true'] at hj;exact hj
theorem Eo{n:Nat} : ir (Array.replicate n false) n=List.range n:=by
 simp only[ir];refine List.filter_eq_self.2 fun i hi =>?_;have:=List.mem_range.1 hi;simp[this]
theorem WI(gs:List ay):((List.range gs.length).map fun i=>gs.getD i default)=gs:=by
 apply List.ext_getElem
 ·simp
 ·intro i h1 h2;simp[zz5,h2]
section
variable {c:ct}
theorem l8{P:Program}{n:Nat}{bl:Array Oper} : ∀ {l:List Oper} {gs:List ay},fJ P n bl l=some gs→gs.length=l.length∧∀ (i:Nat) (o:Oper),l[i]?=some o→∃ g,gs[i]?=some g∧lr P n bl o=some g
 | [],gs,h=>by simp only[fJ,v6] at h;subst h;exact ⟨rfl,fun i o ho=>by simp at ho⟩
 |o::l,gs,h=>by
  simp only[fJ] at h;split at h
  case h_2=>cases h
  rename_i g gs' hg hgs;simp only[v6] at h;subst h;obtain ⟨h1,h2⟩:=l8 (l:=l) hgs;refine ⟨by simp[h1],fun i o' ho =>?_⟩;cases i with
  |zero=>simp only[List.getElem?_cons_zero,v6] at ho;subst ho;exact ⟨g,rfl,hg⟩
  |succ i=>simpa using h2 i o' (by simpa using ho)
theorem Uw{K:ab→Prop}{bl:Array Oper}{Q:Exit→Act→World→Prop}{o:Oper}{g:ay}{rest:List ay}{A:ab}{a:Act}{w:World}{Kw:Act→World→Prop}(hg:lr c.P c.n bl o=some g)(hwp:aY c.P c.Y true K (ar (g::rest) A))(hs:bD c A a w)
  (hK:∀ B a' w',aY c.P c.Y true K (ar rest B)→bD c B a' w'→Kw a' w'):if Region.wanted o (yielded bl a.tmps) then o.wpIn c.bm 9 c.P a w Kw Q else (∀ f,o.about c.P w a.eval=some f→c.bm.fn f)∧Kw (a.put o.dst undef) w:=by
 obtain ⟨h1,h2,h3,h4⟩:=oc hg;have step:aY c.P c.Y true K (aW A g.dst g.op rest (ar rest))→o.wpIn c.bm 9 c.P a w Kw Q:=fun h =>
  r8 h1 h2.symm (by rw[h2];exact h3) h hs (fun B a' w' hw hs'=>hK B a' w' hw hs')
 simp only[ar] at hwp;rcases h4 with ⟨h5,h6⟩ | ⟨j,b,t,h5,h6,h7⟩
 ·rw[h6] at hwp;have hw:Region.wanted o (yielded bl a.tmps)=true:=by simp[Region.wanted,h5]
  rw[hw,if_pos rfl];exact step hwp
 ·rw[h7] at hwp;simp only at hwp;split at hwp
  ·rename_i b' hb';rw[sf hs h5 h6 hb'];split at hwp
   ·rename_i hbb;subst hbb;simp only[BEq.rfl,if_true];exact step hwp
   ·rename_i hbb;have:(b'==b)=false:=by simpa using hbb
    rw[this];simp only[Z6,if_false];exact ⟨fun f _=>lz c f,hK _ _ _ hwp (by rw[h2];exact hs.mw h3)⟩
  ·rename_i hb';rw[sg hs h5 h6 hb'];simp only[Z6,if_false];exact ⟨fun f _=>lz c f,hK _ _ _ hwp (by rw[h2];exact hs.mw h3)⟩
  ·cases hwp
theorem GI{K:ab→Prop}{bl:Array Oper}{gs:List ay}{Q:Exit→Act→World→Prop}(hQ:∀ B a w,K B→bD c B a w→Q .normal a w)(hgs:fJ c.P c.n bl bl.toList=some gs)(hd:tX bl.toList gs) :
  ∀ (fuel:Nat) (listed:Array Bool) (A:ab) (a:Act) (w:World),listed.size=bl.size→(∀ i o,bl.toList[i]?=some o→listed.getD i false=true→∀ k∈dP o,listed.getD k false=true)→(ir listed bl.size).length≤fuel →
   aY c.P c.Y true K (ar (nq gs listed bl.size) A)→bD c A a w→wpAnyIn c.bm 9 c.P .any bl Q fuel listed a w:=by
 obtain ⟨hlen,hat⟩:=l8 hgs;have onOf_mem:∀ (o:Oper) (e:Edge),e∈o.after→Region.binds .any e=true→e.on∈dP o:=fun o e he hb=>by
  simp only[dP,zy3,List.mem_filter];exact ⟨e,⟨by simpa using he,hb⟩,rfl⟩
 have of_onOf:∀ (o:Oper) (k:Nat),k∈dP o→∃ e∈o.after,Region.binds .any e=true∧e.on=k:=fun o k hk=>by
  simp only[dP,zy3,List.mem_filter] at hk;obtain ⟨e,⟨h1,h2⟩,h3⟩:=hk;exact ⟨e,by simpa using h1,h2,h3⟩
 have last:∀ (listed:Array Bool) (A:ab) (a:Act) (w:World),listed.size=bl.size→Region.ready .any bl listed=[]→aY c.P c.Y true K (ar (nq gs listed bl.size) A)→bD c A a w→Q .normal a w:=by
  intro listed A a w hsz hr hwp hs;have hnone:ir listed bl.size=[]:=by
   have all:∀ n,∀ i,i<n→i<bl.size→listed.getD i true=true:=by
    intro n
    induction n with
    |zero=>intro i hi;omega
    |succ n ih =>
     intro i hi his;cases hb:listed.getD i true with
     |true=>rfl
     |false =>
      exfalso
      have ho:bl[i]?=some bl[i]:=zx7 his;have:i∈Region.ready .any bl listed:=mem_ready.2 ⟨hb,bl[i],ho,fun e he hbd=>by
       have hlt:=hd.ln i bl[i] (by simp) e.on (onOf_mem _ e he hbd);have h1:=ih e.on (by omega) (by omega);have h2:e.on<listed.size:=by omega
       simpa[Array.getD_eq_getD_getElem?,h2] using h1⟩
      rw[hr] at this;cases this
   simp only[ir];refine List.filter_eq_nil_iff.2 fun i hi =>?_;have:=all (i+1) i (by omega) (List.mem_range.1 hi);simp only[this,Bool.not_true,Z6,not_false_eq_true]
  simp only[nq,hnone,zz6,ar] at hwp;cases hwp with
  |done hk=>exact hQ A a w hk hs
 intro fuel
 induction fuel with
 |zero =>
  intro listed A a w hsz hcl hcnt hwp hs;have hnone:ir listed bl.size=[]:=List.length_eq_zero_iff.1 (by omega);have hr:Region.ready .any bl listed=[]:=by
   refine List.eq_nil_iff_forall_not_mem.2 fun i hi =>?_;obtain ⟨h1,o,ho,_⟩:=mem_ready.1 hi;have:i∈ir listed bl.size:=by
    simp only[ir,List.mem_filter,List.mem_range,h1,Bool.not_false,and_true];exact (zz4.1 ho).1
   rw[hnone] at this;cases this
  exact ⟨hr,last listed A a w hsz hr hwp hs⟩
 |succ fuel ih =>
  intro listed A a w hsz hcl hcnt hwp hs;refine ⟨fun hr=>last listed A a w hsz hr hwp hs,fun i hi =>?_⟩;obtain ⟨hun,o,ho,hall⟩:=mem_ready.1 hi;have hin:i<bl.size:=(zz4.1 ho).1;obtain ⟨l1,l2,e1,e2,hl1⟩:=YB hin hsz hun;have hol:bl.toList[i]?=some o:=by simpa using ho
  obtain ⟨g,hgi,hcg⟩:=hat i o hol;have hon:∀ k∈dP o,listed.getD k false=true:=fun k hk=>by
   obtain ⟨e,h1,h2,h3⟩:=of_onOf o k hk;exact h3▸hall e h1 h2
  have hgd:gs.getD i default=g:=by simp[zz5,hgi]
  have hwp':aY c.P c.Y true K (ar (g::nq gs (listed.setIfInBounds i true) bl.size) A):=by
   simp only[nq,e1,zy7,Z3,hgd] at hwp;simp only[nq,e2,zy7];refine aY.pO (fun j hj =>?_) hwp;obtain ⟨k,hk,rfl⟩:=zy3.1 hj;obtain ⟨hk1,hk2⟩:=hl1 k hk;refine hd.vG (fun k=>listed.getD k false=true) hcl i o g k hol hgi hon hk1 ?_;have hks:k<listed.size:=by omega
   simp[Array.getD_eq_getD_getElem?,hks] at hk2 ⊢;exact hk2
  unfold wpOpIn;rw[ho];refine Uw hcg hwp' hs fun B a' w' hw hs'=>ih _ B a' w' (by simpa using hsz) ?_ ?_ hw hs'
  ·intro m om hom hm k hk;by_cases hmi:m=i
   ·subst hmi;rw[hol,v6] at hom;subst hom;exact getD_set_true (hon k hk)
   ·rw[getD_set_ne false (Ne.symm hmi)] at hm;exact getD_set_true (hcl m om hom hm k hk)
  ·have:(ir listed bl.size).length=(ir (listed.setIfInBounds i true) bl.size).length+1:=by
    rw[e1,e2];simp;omega
   omega
theorem YA{K:ab→Prop}{bl:Array Oper}{gs:List ay}{Q:Exit→Act→World→Prop}{id:Nat}{A:ab}{a:Act}{w:World}(hm:c.P.follows .mixedOrders=true)(hQ:∀ B a w,K B→bD c B a w→Q .normal a w)(hgs:fJ c.P c.n bl bl.toList=some gs)(hd:tX bl.toList gs)
  (hwp:aY c.P c.Y true K (ar gs A)) (hs:bD c A a w):(Code.region id bl true).wpIn c.bm 9 c.P Q a w:=by
 refine wpIn_region_any hm (GI hQ hgs hd bl.size (Array.replicate bl.size false) A a _ (by simp) ?_ ?_ ?_ ?_)
 ·intro i o _ h
  exfalso
  simp only[Array.getD_eq_getD_getElem?,Array.getElem?_replicate] at h;split at h <;>simp at h
 ·rw[Eo];simp
 ·have hl:=(l8 hgs).1;simp only[zy4] at hl;simp only[nq,Eo];rw[←hl,WI];exact hwp
 ·obtain ⟨D,E,hs⟩:=hs;exact ⟨D,E,hs.grow (w' := { w with drawn:=w.drawn+1 }) ⟨rfl,rfl,rfl,Z4 _,fun _ _=>rfl⟩ (fun _ _ h=>h) (fun _ _ h _=>h) (fun b o h=>hs.cN b o h)⟩
end
inductive bj where
 |b7 (on:Option (List (List Nat))) (gs:List ay)
 |seq (x y:bj)
 |cond (b:az) (x y:bj)
 |block (id:Nat) (x:bj)
 |loop (x:bj)
 |exit (id:Nat)
 |ret
 |skip
 |scope (x:bj)
 |label
 |pM
 |nA (f:az) (ps:List Nat) (x y:bj)
 deriving Inhabited
def dR(P:Program)(n:Nat):Code→Option bj
 | .region _ bl draw=>match fJ P n bl bl.toList with
  |some gs=>if (!draw||P.follows .mixedOrders)=true then some (.b7 (bif draw then some (bl.toList.map dP) else none) gs) else none
  |none=>some .pM
 | .seq x y=>match dR P n x,dR P n y with
  |some x,some y=>some (.seq x y)
  |_,_=>none
 | .cond b x y=>match aU P 0 b,dR P n x,dR P n y with
  |some b,some x,some y=>some (.cond b x y)
  |_,_,_=>none
 | .block id x=>match dR P n x with
  |some x=>some (.block id x)
  |none=>none
 | .loop x=>match dR P n x with
  |some x=>some (.loop x)
  |none=>none
 | .exit id=>some (.exit id)
 | .ret=>some .ret
 | .skip=>some .skip
 | .scope x=>match dR P n x with
  |some x=>some (.scope x)
  |none=>none
 | .label _=>some .label
 | .rangeFunc f ps x y=>match aU P 0 f,dR P n x,dR P n y with
  |some f,some x,some y=>if (ps.toList.all fun p=>p<n)=true then some (.nA f ps.toList x y) else none
  |_,_,_=>none
 |_=>none
def sA(c:ct)(Q:Exit→ab→Prop):Exit→Act→World→Prop:=fun e a w=>∃ A,Q e A∧bD c A a w
def U(c:ct)(x:bj)(Q:Exit→ab→Prop)(A:ab):Prop :=
 ∀ code,dR c.P c.n code=some x→∀ a w,bD c A a w→code.wpIn c.bm 9 c.P (sA c Q) a w
def cQ(k:ab→Prop)(Q:Exit→ab→Prop):Exit→ab→Prop
 | .normal,A=>k A
 |e,A=>Q e A
def lq(id:Nat)(Q:Exit→ab→Prop):Exit→ab→Prop
 | .exit id',A=>if id'=id then Q .normal A else Q (.exit id') A
 |e,A=>Q e A
section
variable {c:ct} {A:ab} {Q:Exit→ab→Prop}
def LO(d:Option (List (List Nat)))(gs:List ay)(cl:List Nat):Bool:=match d with
 |none=>true
 |some on=>rT on gs cl
theorem U.b7{d:Option (List (List Nat))}{gs:List ay}{cl:List Nat}(hd:LO d gs cl=true)(h:∀ K:ab→Prop,(∀ B,Q .normal B→K B)→aY c.P c.Y d.isSome K (ar gs A)):U c (.b7 d gs) Q A:=by
 intro code hc a w hs;cases code <;>simp only[dR] at hc <;>try (first | (cases hc;done) | ((repeat' split at hc) <;>cases hc;done))
 rename_i id bl draw;split at hc
 ·rename_i gs' hgs;split at hc
  case isFalse=>cases hc
  rename_i hok;simp only[v6,bj.b7.injEq] at hc;obtain ⟨rfl,rfl⟩:=hc;cases draw with
  |false=>exact wpIn_region_list (sd (K:=Q .normal) (fun B a w hk hs=>⟨B,hk,hs⟩) bl.toList gs' A a w hgs (h _ fun _ hb=>hb) hs)
  |true =>
   simp only[Bool.not_true,Bool.false_or] at hok;exact YA (K:=Q .normal) hok (fun B a w hk hs=>⟨B,hk,hs⟩) hgs (Mb (l8 hgs).1 hd) (h _ fun _ hb=>hb) hs
 ·cases hc
theorem U.seq{x y:bj}(h:U c x (cQ (fun B=>U c y Q B) Q) A):U c (.seq x y) Q A:=by
 intro code hc a w hs;cases code <;>simp only[dR] at hc <;>try (first | (cases hc;done) | ((repeat' split at hc) <;>cases hc;done))
 rename_i cx cy;split at hc
 ·rename_i x' y' hx hy;simp only[v6,bj.seq.injEq] at hc;obtain ⟨rfl,rfl⟩:=hc;refine wpIn_seq (wpIn_mono (h cx hx a w hs) ?_);rintro e a' w' ⟨B,hq,hs'⟩;cases e <;>simp only[cQ,Exit.then] at * <;>first | exact hq cy hy a' w' hs' | exact ⟨B,hq,hs'⟩
 ·cases hc
theorem U.cond{b:az}{x y:bj}{t:Bool}(hb:af A b=.bool t)(h1:t=true→U c x Q A)(h2:t=false→U c y Q A):U c (.cond b x y) Q A:=by
 intro code hc a w hs;cases code <;>simp only[dR] at hc <;>try (first | (cases hc;done) | ((repeat' split at hc) <;>cases hc;done))
 rename_i cb cx cy;split at hc
 ·rename_i b' x' y' hb' hx hy;simp only[v6,bj.cond.injEq] at hc;obtain ⟨rfl,rfl,rfl⟩:=hc;obtain ⟨D,E,hs'⟩:=hs;have hv:=bp hs' hb';rw[hb] at hv;exact wpIn_cond_split (kP hv) (fun ht=>h1 ht cx hx a w ⟨D,E,hs'⟩) (fun ht=>h2 ht cy hy a w ⟨D,E,hs'⟩)
 ·cases hc
theorem U.block{id:Nat}{x:bj}(h:U c x (lq id Q) A):U c (.block id x) Q A:=by
 intro code hc a w hs;cases code <;>simp only[dR] at hc <;>try (first | (cases hc;done) | ((repeat' split at hc) <;>cases hc;done))
 rename_i id' cx;split at hc
 ·rename_i x' hx;simp only[v6,bj.block.injEq] at hc;obtain ⟨rfl,rfl⟩:=hc;refine wpIn_block (wpIn_mono (h cx hx a w hs) ?_);rintro e a' w' ⟨B,hq,hs'⟩;cases e <;>simp only[lq,Exit.inBlock] at * <;>first
   |exact ⟨B,hq,hs'⟩
   |(split at hq
     ·rename_i he;rw[if_pos he];exact ⟨B,hq,hs'⟩
     ·rename_i he;rw[if_neg he];exact ⟨B,hq,hs'⟩)
 ·cases hc
theorem U.exit{id:Nat}(h:Q (.exit id) A):U c (.exit id) Q A:=by
 intro code hc a w hs;cases code <;>simp only[dR] at hc <;>try (first | (cases hc;done) | ((repeat' split at hc) <;>cases hc;done))
 simp only[v6,bj.exit.injEq] at hc;subst hc;exact wpIn_exit ⟨A,h,hs⟩
theorem U.ret(h:Q .ret A):U c .ret Q A:=by
 intro code hc a w hs;cases code <;>simp only[dR] at hc <;>try (first | (cases hc;done) | ((repeat' split at hc) <;>cases hc;done))
 exact wpIn_ret ⟨A,h,hs⟩
theorem U.skip(h:Q .normal A):U c .skip Q A:=by
 intro code hc a w hs;cases code <;>simp only[dR] at hc <;>try (first | (cases hc;done) | ((repeat' split at hc) <;>cases hc;done))
 exact wpIn_skip ⟨A,h,hs⟩
theorem AO{p:Nat→Prop}(h:∃ n,p n):∃ n,p n∧∀ m,p m→n≤m:=by
 obtain ⟨n,hn⟩:=h
 induction n using Nat.strongRecOn with
 |_ n ih =>
  by_cases hm:∃ m,m<n∧p m
  ·obtain ⟨m,h1,h2⟩:=hm;exact ih m h1 h2
  ·exact ⟨n,hn,fun m hp=>Nat.le_of_not_lt fun hlt=>hm ⟨m,hlt,hp⟩⟩
open Classical in
noncomputable def least(p:Nat→Prop):Nat:=if h:∃ n,p n then (AO h).choose else 0
theorem BZ{p:Nat→Prop}(h:∃ n,p n):p (least p)∧∀ m,p m→least p≤m:=by
 simp only[least,dif_pos h];exact (AO h).choose_spec
theorem ZJ{bm:Fence}{N:Nat}{P:Program}{code:Code}{QQ:Exit→Act→World→Prop}(aX:Nat→Act→World→Prop)(round:∀ n a w,aX n a w→code.wpIn bm N P (Exit.then (fun a' w'=>∃ m,m<n∧aX m a' w') QQ) a w) :
  ∀ n a w,aX n a w→(Code.loop code).wpIn bm N P QQ a w:=by
 intro n a w h;refine wpIn_loop (fun a w=>∃ n,aX n a w) (fun a w=>least fun n=>aX n a w) ⟨n,h⟩ ?_;intro a w hI;have hm:=(BZ hI).1;refine wpIn_mono (round _ a w hm) ?_;intro e a' w' hq;cases e <;>simp only[Exit.then] at hq ⊢ <;>try exact hq
 obtain ⟨m,h1,h2⟩:=hq;exact ⟨⟨m,h2⟩,Nat.lt_of_le_of_lt ((BZ ⟨m,h2⟩).2 m h2) h1⟩
def bg(A B:ab):Prop:=∀ (c:ct) (a:Act) (w:World),bD c A a w→bD c B a w
theorem bg.refl(A:ab):bg A A:=fun _ _ _ h=>h
theorem bg.trans{A B C:ab}(h:bg A B)(k:bg B C):bg A C:=fun c a w hs=>k c a w (h c a w hs)
theorem U.sub{x:bj}{B:ab}(hsub:bg A B)(h:U c x Q B):U c x Q A:=fun code hc a w hs=>h code hc a w (hsub c a w hs)
theorem U.mono{x:bj}{Q':Exit→ab→Prop}(h:U c x Q A)(hq:∀ e B,Q e B→Q' e B):U c x Q' A :=
 fun code hc a w hs=>wpIn_mono (h code hc a w hs) fun e a' w' ⟨B,h1,h2⟩=>⟨B,hq e B h1,h2⟩
theorem U.loop{σ:Type}(S:σ→ab)(C:σ→Prop)(m:σ→Nat)(s0:σ){x:bj}(h0:C s0)(hsub:bg A (S s0))
  (round:∀ s,C s→U c x (cQ (fun B=>∃ s',C s'∧m s'<m s∧bg B (S s')) Q) (S s)):U c (.loop x) Q A:=by
 intro code hc a w hs;cases code <;>simp only[dR] at hc <;>try (first | (cases hc;done) | ((repeat' split at hc) <;>cases hc;done))
 rename_i cx;split at hc
 ·rename_i x' hx;simp only[v6,bj.loop.injEq] at hc;subst hc;refine ZJ (fun n a w=>∃ s,C s∧m s=n∧bD c (S s) a w) ?_ (m s0) a w ⟨s0,h0,rfl,hsub c a w hs⟩;rintro n a w ⟨s,hC,rfl,hs⟩;refine wpIn_mono (round s hC cx hx a w hs) ?_;rintro e a' w' ⟨B,hq,hs'⟩;cases e <;>simp only[cQ,Exit.then] at * <;>first
   |exact ⟨B,hq,hs'⟩
   |(obtain ⟨s',h1,h2,h3⟩:=hq;exact ⟨m s',h2,s',h1,rfl,h3 c a' w' hs'⟩)
 ·cases hc
end
inductive bz where
 |tmp (t:Nat)
 |cell (a:Nat) (s:Option Nat)
def gn(P:Program):List ResultVar→Option (List bz)
 | []=>some []
 | .tmp t::l=>(gn P l).map (.tmp t :: ·)
 | .cell a t::l=>match fj P t,gn P l with
  |some s,some l=>some (.cell a s::l)
  |_,_=>none
def tr(A:ab):bz→Option I
 | .tmp t=>bd true A (A.t t)
 | .cell a s=>match bW A (A.t a) with
  |some x=>if b6 s x then bd true A x else none
  |none=>none
def eA(A:ab):List bz→Option (List I)
 | []=>some []
 |r::rs=>match tr A r,eA A rs with
  |some x,some xs=>some (x::xs)
  |_,_=>none
def j6:List I→I
 | [x]=>x
 |xs=>.tuple xs
def nN(args:List I):ab:=⟨fun t=>args.getD t .undef,fun _=>none⟩
def j9(rs:List bz)(r:I):Exit→ab→Prop
 | .ret,A=>∃ xs,eA A rs=some xs∧j6 xs=r
 | .normal,A=>∃ xs,eA A rs=some xs∧j6 xs=r
 |_,_=>False
def nO(args:List I)(os:List (Nat×ai)):ab:=⟨fun t=>args.getD t .undef,aA os⟩
theorem xu{P:Program}{n:Nat}{w:World}{D:aK}{E:aN}{Y:Value→List I→List (Nat×ai)→cj→Prop}{args:List I}{os:List (Nat×ai)}{vs:List Value}(hD:∀ b o,D b o→b<w.heap.size)(ho:jl (fun _=>True) w D E (aA os))
  (hv:al w D E args vs) (hn:vs.length≤n) (hos:∀ m,ao os m=true→n≤m∧1000000≤m) (hy:nY ⟨P,w,D,n,bX E,E,Y,none,none⟩) :
  aM ⟨P,w,D,n,bX E,E,Y,none,none⟩ (nO args os) { tmps:=vs.toArray++Array.replicate (n-vs.toArray.size) undef,defers:=[] } w D E:=by
 refine ⟨by simp;omega,⟨[],rfl,.nil,fun _ h=>by simp at h⟩,fun t =>?_,eC.refl _ _,fun _ _ h _=>h,hD,fun m =>?_,ho.cw,fun m e h=>.inr ⟨e,h,.refl e⟩,fun m hm =>?_,fun _ _ h=>h,hy,.refl _ _⟩
 ·have key:∀ (args:List I) (vs:List Value) (t:Nat),al w D E args vs→aR w D E (args.getD t .undef) (vs.getD t undef):=by
   intro args
   induction args with
   |nil=>intro vs t h;simp only[al] at h;subst h;simp[aR]
   |cons x xs ih =>
    intro vs t h;simp only[al] at h;obtain ⟨v,rest,cs,rfl,h1,h2,h3⟩:=h;cases t with
    |zero=>simpa using fK h1 h2
    |succ t=>simpa using ih rest t h3
  have:=key args vs t hv;have e:(vs.toArray++Array.replicate (n-vs.toArray.size) undef).getD t undef=vs.getD t undef:=by
   simp only[Array.getD_eq_getD_getElem?,zz5];rcases Nat.lt_or_ge t vs.length with h | h
   ·rw[Array.getElem?_append_left (by simpa using h)];simp
   ·rw[Array.getElem?_append_right (by simpa using h),List.getElem?_eq_none h];simp only[Array.getElem?_replicate];split <;>rfl
  simp only[nO];rw[e];exact this
 ·have h:=ho.bB m;simp only[nO];cases hx:aA os m with
  |none=>rw[hx] at h;exact h
  |some x =>
   rw[hx] at h;cases x with
   |box x =>
    obtain ⟨b,cs,T,k1,_,k3⟩:=h;exact ⟨b,cs,T,k1,.inr ⟨m,_,k1,rfl⟩,k3⟩
   |bH T sz es =>
    obtain ⟨aB,k1,k2,k3⟩:=h;refine ⟨aB,k1,k2,?_⟩;cases aB with
    |none=>exact k3
    |some bc =>
     obtain ⟨b,cap⟩:=bc;obtain ⟨cs,pre,rest,_,k4⟩:=k3;exact ⟨cs,pre,rest,.inr ⟨m,_,k1,rfl⟩,k4⟩
   |dK T xs =>
    obtain ⟨aB,k1,k2,k3⟩:=h;refine ⟨aB,k1,k2,?_⟩;cases aB with
    |none=>exact k3
    |some bc =>
     obtain ⟨b,cap⟩:=bc;obtain ⟨cs,rest,_,k4⟩:=k3;exact ⟨cs,rest,.inr ⟨m,_,k1,rfl⟩,k4⟩
   |da x =>
    obtain ⟨b,k1,_,k3⟩:=h;exact ⟨b,k1,.inr ⟨m,_,k1,rfl⟩,k3⟩
   |cm ks vs =>
    obtain ⟨b,es,ck,k1,_,k3⟩:=h;exact ⟨b,es,ck,k1,.inr ⟨m,_,k1,rfl⟩,k3⟩
   |it ks vs left cur =>
    obtain ⟨r,b,es,ck,dJ,se,la,k1,_,k3⟩:=h;exact ⟨r,b,es,ck,dJ,se,la,k1,.inr ⟨m,_,k1,rfl⟩,k3⟩
 ·have h:=ho.bB m;refine hos m ?_;cases hx:aA os m with
  |none=>rw[hx] at h;exact absurd h hm
  |some x=>simp[ao,hx]
def qN(tmps:Array Value):ResultVar→Sem Value
 | .tmp t=>pure (tmps.getD t undef)
 | .cell a t=>do loadVar t (←asAddr (tmps.getD a undef))
theorem YN(fn:Func)(tmps:Array Value):results fn tmps=(do
  let vs ←fn.results.mapM (qN tmps)
  pure (if h:vs.size=1 then vs[0] else .tuple vs)):=by
 unfold results;rfl
def np(A:ab):bz→Option I
 | .tmp t=>some (A.t t)
 | .cell a s=>match bW A (A.t a) with
  |some x=>if b6 s x then some x else none
  |none=>none
def lI(A A0:ab)(os:List (Nat×ai)):List bz→List I→Prop
 | [],[]=>True
 |r::rs,y::ys=>(∃ x,np A r=some x∧((y=x∧x.cC=true∧x.only (ao os)=true)∨bd true A0 x=some y))∧lI A A0 os rs ys
 |_,_=>False
def ab.kb(A:ab)(os:List (Nat×ai)):ab:=⟨A.t,fun n=>if ao os n then none else A.o n⟩
def iV(rs:List bz)(post:cj)(A:ab):Prop :=
 ∃ (os:List (Nat×ai)) (xs:List I),(∀ n x,aA os n=some x→A.o n=some x∧x.only (ao os)=true∧x.er=true)∧lI A (A.kb os) os rs xs∧post (j6 xs) os
def ny(rs:List bz)(post:cj):Exit→ab→Prop
 | .ret,A=>iV rs post A
 | .normal,A=>iV rs post A
 |_,_=>False
theorem wS{c:ct}{A:ab}{a:Act}{w:World}{D:aK}{E:aN}(hs:aM c A a w D E){A0:ab}(hu:dy A0 A){os:List (Nat×ai)}{D':aK}{E':aN}(hw:gO true A0 D E D')(ak:∀ n,ao os n=true→E' n=E n)(hE':∀ n,ao os n=false→E' n=none) :
  ∀ (rs:List ResultVar) (ls:List bz) (xs:List I),gn c.P rs=some ls→lI A A0 os ls xs→∃ vs:List Value,(rs.mapM (qN a.tmps)).run c.P w=.ok vs w∧al w D' E' xs vs
 | [],ls,xs,hc,hr=>by
  simp only[gn,v6] at hc;subst hc;cases xs with
  |nil=>exact ⟨[],by simp,by simp[al]⟩
  |cons x xs=>simp[lI] at hr
 |r::rs,ls,xs,hc,hr=>by
  have hl:dj w D E' w D' E':=⟨hw.cH,fun _ _ _ _ h=>h,fun _ _ _ h=>h,fun _ aB l h=>⟨aB,l,h,Z4 _,fun _=>rfl⟩,fun _ _ h=>h,fun _ _ h=>h,fun _ _ _ _ h=>h⟩
  have fin1:∀ {x y:I} {v:Value},aR w D E x v→((y=x∧x.cC=true∧x.only (ao os)=true)∨bd true A0 x=some y)→∃ cs,aZ y v cs∧ae w D' E' y cs:=by
   intro x y v hv hf;rcases hf with ⟨rfl,h1,h2⟩ | hf
   ·have h3:=aR.later hl (aR.dE ak h2 hv);cases y <;>simp only[aR] at h3 <;>first | (simp[I.cC] at h1;done) | exact h3
   ·have h1:al w D E [x] [v]:=kS [x] [v] (.cons hv .nil) (by
     intro z hz;simp only[zy6] at hz;subst hz;cases z <;>simp_all[bd,I.cC])
    have h2:=ly (E':=E') hs hu hw [x] [y] [v] h1 (by simp[bJ,hf]);simp only[al] at h2;obtain ⟨v',rest,cs,e,k1,k2,_⟩:=h2;simp only[zy1] at e;obtain ⟨rfl,_⟩:=e;exact ⟨cs,k1,k2⟩
  cases r with
  |tmp t =>
   simp only[gn,t7] at hc;obtain ⟨ls',hl',rfl⟩:=hc;cases xs with
   |nil=>simp[lI] at hr
   |cons y ys =>
    simp only[lI] at hr;obtain ⟨⟨x,h1,h2⟩,h3⟩:=hr;simp only[np,v6] at h1;subst h1;obtain ⟨vs,k1,k2⟩:=wS hs hu hw ak hE' rs ls' ys hl' h3;obtain ⟨cs,k3,k4⟩:=fin1 (hs.dv t) h2;refine ⟨a.tmps.getD t undef::vs,?_,?_⟩
    ·simp only[List.mapM_cons,Sem.run_bind,qN,Sem.run_pure,Result.andThen_ok,k1]
    ·simp only[al];exact ⟨_,vs,cs,rfl,k3,k4,k2⟩
  |cell ad t =>
   simp only[gn] at hc;split at hc
   ·rename_i s ls' hk hl';simp only[v6] at hc;subst hc;cases xs with
    |nil=>simp[lI] at hr
    |cons y ys =>
     simp only[lI] at hr;obtain ⟨⟨x,h1,h2⟩,h3⟩:=hr;obtain ⟨vs,k1,k2⟩:=wS hs hu hw ak hE' rs ls' ys hl' h3;simp only[np] at h1;split at h1
     ·rename_i z hz;split at h1
      ·rename_i hok;simp only[v6] at h1;subst h1;obtain ⟨b,off,cs,q1,q2,q3⟩:=hs.yF (hs.dv ad) hz;obtain ⟨v,q4,q5⟩:=EC hk hok q2 q3;obtain ⟨cs',k3,k4⟩:=fin1 q5 h2;refine ⟨v::vs,?_,?_⟩
       ·have e:(qN a.tmps (.cell ad t)).run c.P w=.ok v w:=by
         simp only[qN,Sem.run_bind,q1,asAddr,Sem.run_pure,Result.andThen_ok,q4]
        simp only[List.mapM_cons,Sem.run_bind,Sem.run_pure,Result.andThen_ok,k1,e]
       ·simp only[al];exact ⟨_,vs,cs',rfl,k3,k4,k2⟩
      ·cases h1
     ·cases h1
   ·cases hc
theorem aM.Ae{c:ct}{A:ab}{a:Act}{w:World}{D:aK}{E:aN}(h:aM c A a w D E)(hb:c.dN=none){B:Nat}{ds:List Deferred}(hd:a.defers = { target:=.collected B,args := #[] } :: ds) :
  w.heap[B]?=some (.deferred (some []))∧aM c A { a with defers:=ds } (w.putObj B (.deferred none)) D E:=by
 have hdf:=h.dT;rw[hb] at hdf;obtain ⟨Bs,h1,h2,h3⟩:=hdf;rw[hd] at h1;cases Bs with
 |nil=>cases h1
 |cons B' Bs =>
  simp only[Z3,zy1,Deferred.mk.injEq,Target.collected.injEq,and_true] at h1;obtain ⟨rfl,rfl⟩:=h1;have hB:=h3 B (by simp);have hlt:B<w.heap.size:=(zz4.1 hB.2).1;have hl:dj w D E (w.putObj B (.deferred none)) D E :=
   ⟨fun _ _ h=>h,fun b o v _ hv=>uO hB.2 rfl hv,fun _ _ _ h=>h,fun _ aB l h=>⟨aB,l,h,Z4 _,fun _=>rfl⟩,fun _ _ h=>h,fun _ _ h=>h,fun b es ck _ hm=>(World.putObj_heap_other (fun e=>by rw[e,hB.2] at hm;cases hm)).trans hm⟩
  have hne:∀ {b:Nat} {cs:Array Value} {T:TypeId},w.heap[b]?=some (.cells cs T (0,0))→(w.putObj B (.deferred none)).heap[b]?=w.heap[b]?:=fun {b cs T} hb =>
   World.putObj_heap_other (fun e=>by rw[e,hB.2] at hb;cases hb)
  refine ⟨hB.2,h.sz,by rw[hb];refine ⟨Bs,rfl,(List.nodup_cons.1 h2).2,fun B2 hB2=>⟨(h3 B2 (by simp[hB2])).1,?_⟩⟩;rw[World.putObj_heap_other (fun e=>(List.nodup_cons.1 h2).1 (by rw[←e];exact hB2))];exact (h3 B2 (by simp[hB2])).2,fun t=>aR.later hl (h.dv t),h.db.trans ⟨rfl,rfl,rfl,by simp,fun k hk =>?_⟩,h.cH,fun b o hd=>by have:=h.cN b o hd;simpa using this,fun n =>?_,h.cw,h.dp,h.ee,h.cz,h.eF,h.kd hl⟩
  ·exact World.putObj_heap_other (fun e=>hk (e▸.inl hB.1))
  ·refine (h.bB n).later hl rfl fun e b he hb=>⟨?_,fun _ h=>h⟩
   have hob:=h.bB n;unfold cJ at hob;split at hob
   ·rw[hob] at he;cases he
   ·obtain ⟨b',cs,T,k1,_,k3,_⟩:=hob;rw[k1,v6] at he;subst he;simp only[bx.aB,v6] at hb;subst hb;exact World.putObj_heap_other (fun e=>k3.Cm (by rw[e];exact hB.2))
   ·obtain ⟨aB,k1,_,k3⟩:=hob;rw[k1,v6] at he;subst he;split at k3
    ·simp[bx.aB] at hb
    ·obtain ⟨cs,pre,rest,_,k5,_⟩:=k3;simp only[bx.aB,v6] at hb;subst hb;exact hne k5
   ·obtain ⟨b',k1,_,k3,k4,_⟩:=hob;rw[k1,v6] at he;subst he;simp only[bx.aB,v6] at hb;subst hb;exact World.putObj_heap_other (fun e=>by rw[e,hB.2] at k3;cases k3;cases k4)
   ·obtain ⟨b',es,ck,k1,_,k3,_⟩:=hob;rw[k1,v6] at he;subst he;cases hb;exact World.putObj_heap_other (fun e=>by rw[e,hB.2] at k3;cases k3)
   ·obtain ⟨r,b',es,ck,dJ,se,la,k1,_,k3,_⟩:=hob;rw[k1,v6] at he;subst he;cases hb;exact World.putObj_heap_other (fun e=>by rw[e,hB.2] at k3;cases k3)
   ·obtain ⟨aB,k1,_,k3⟩:=hob;rw[k1,v6] at he;subst he;split at k3
    ·simp[bx.aB] at hb
    ·obtain ⟨cs,m,_,k5,_⟩:=k3;simp only[bx.aB,v6] at hb;subst hb;exact hne k5
def kZ(w:World)(D:aK)(E:aN)(post:cj)(v:Value)(w':World):Prop :=
 ∃ D' E' r os',post r os'∧aR w' D' E' r v∧jl (fun b=>w.heap.size≤b∨bX E b) w' D' E' (aA os') ∧
  eC (fun b=>w.heap.size≤b∨bX E b) w w'∧(∀ b o,D b o→D' b o)∧(∀ b o,D' b o→b<w'.heap.size)∧(∀ b o,D' b o→b<w.heap.size→¬ bX E b→D b o) ∧
  (∀ n e,E n=some e→ao os' n=true→∃ e',E' n=some e'∧e.fC e')∧gj w D w'
theorem aM.vU{P:Program}{n:Nat}{w:World}{D:aK}{E:aN}{Y:Value→List I→List (Nat×ai)→cj→Prop}{qO:Option Nat}{dN:Option (List Deferred)}{A:ab}{a:Act}{w':World}{D':aK}{E':aN}
  (hs:aM ⟨P,w,D,n,bX E,E,Y,qO,dN⟩ A a w' D' E') {os:List (Nat×ai)} (h1:∀ n x,aA os n=some x→A.o n=some x∧x.only (ao os)=true∧x.er=true) :
  ∃ D2 E2,gO true (A.kb os) D' E' D2∧(∀ n,ao os n=true→E2 n=E' n)∧(∀ n,ao os n=false→E2 n=none)∧jl (fun b=>w.heap.size≤b∨bX E b) w' D2 E2 (aA os) ∧
   eC (fun b=>w.heap.size≤b∨bX E b) w w'∧(∀ b o,D b o→D2 b o)∧(∀ b o,D2 b o→b<w'.heap.size)∧(∀ b o,D2 b o→b<w.heap.size→¬ bX E b→D b o) ∧
   (∀ n e,E n=some e→ao os n=true→∃ e',E2 n=some e'∧e.fC e')∧gj w D w':=by
 obtain ⟨c,hc⟩:∃ c:ct,c=⟨P,w,D,n,bX E,E,Y,qO,dN⟩:=⟨_,rfl⟩
 rw[←hc] at hs;have hM:c.ep=fun b=>w.heap.size≤b∨bX E b:=by rw[hc];rfl
 obtain ⟨E2,hE2⟩:∃ E2:aN,E2=fun n=>if ao os n then E' n else none:=⟨_,rfl⟩
 obtain ⟨D2,hD2⟩:∃ D2:aK,D2=fun b o=>b<w'.heap.size∧(D' b o∨(¬ bX E2 b∧c.ep b)):=⟨_,rfl⟩
 have e2:∀ n,ao os n=true→E2 n=E' n:=fun n hn=>by rw[hE2];simp only[hn,if_true]
 have oh:∀ n e,E2 n=some e→ao os n=true∧E' n=some e:=fun n e he=>by
  rw[hE2] at he;simp only at he;split at he
  ·exact ⟨by assumption,he⟩
  ·cases he
 have up2:∀ b o,D' b o→D2 b o:=fun b o hd=>by
  rw[hD2];exact ⟨hs.cN b o hd,.inl hd⟩
 have down:∀ b o,D2 b o→bX E2 b→D' b o:=fun b o hd hb=>by
  rw[hD2] at hd;rcases hd.2 with h | h
  ·exact h
  ·exact absurd hb h.1
 have hu:dy (A.kb os) A:=fun n x hx=>by
  simp only[ab.kb] at hx;split at hx
  ·cases hx
  ·exact hx
 have notOwn:∀ n e b,(A.kb os).o n≠none→E' n=some e→e.aB=some b→¬ bX E2 b:=fun n e b hn he hb ho=>by
  obtain ⟨m,e',k1,k3⟩:=ho;obtain ⟨k1,k2⟩:=oh m e' k1;have:=hs.cw n m e _ b he k2 hb k3;subst this;simp[ab.kb,k1] at hn
 have hw:gO true (A.kb os) D' E' D2:=by
  refine ⟨up2,fun n T sz es b cap hn ak o _ =>?_,fun _ n x b aL hn ak o _ =>?_,fun _ n ks vs b hn ak =>?_⟩
  ·rw[hD2];refine ⟨hs.fy ak rfl,.inr ⟨notOwn n _ b (by rw[hn];simp) ak rfl,?_⟩⟩;obtain ⟨aB,k1,k2,k3⟩:=hs.bH (hu n _ hn);rw[ak] at k1;simp only[v6,bx.rw.injEq,and_true] at k1;subst k1;obtain ⟨_,_,_,k4,_⟩:=k3;exact k4
  ·rw[hD2];refine ⟨hs.fy ak rfl,.inr ⟨notOwn n _ b (by rw[hn];simp) ak rfl,?_⟩⟩;obtain ⟨b',cs,T,k1,k2,_⟩:=hs.box (hu n _ hn);rw[k1] at ak;simp only[v6,bx.aI.injEq] at ak;obtain ⟨rfl,_⟩:=ak;exact k2
  ·rw[hD2];refine ⟨hs.fy ak rfl,.inr ⟨notOwn n _ b (by rw[hn];simp) ak rfl,?_⟩⟩;obtain ⟨b',es,ck,k1,k2,_⟩:=hs.map (hu n _ hn);rw[k1] at ak;cases ak;exact k2
 have hst:gj w D w':=by
  have:=hs.fe;rw[hc] at this;exact this
 refine ⟨D2,E2,hw,e2,fun n hn=>by rw[hE2];simp[hn],⟨fun m =>?_,fun m m' e e' b g1 g2 g3 g4 =>?_⟩,?_,fun b o hd=>up2 b o (hs.cz b o (by rw[hc];exact hd)),fun b o hd=>by rw[hD2] at hd;exact hd.1,fun b o hd hlt hno =>?_,fun m e hm hin =>?_,hst⟩
 ·cases hx:aA os m with
  |none=>simp only[cJ];rw[hE2];simp[ao,hx]
  |some x =>
   have hm:ao os m=true:=by simp[ao,hx]
   obtain ⟨k1,k2,k3⟩:=h1 m x hx;have ho:=hs.bB m;rw[k1] at ho;have hl2:dj w' D' E2 w' D2 E2:=⟨up2,fun _ _ _ _ h=>h,fun _ _ _ h=>h,fun _ aB l h=>⟨aB,l,h,Z4 _,fun _=>rfl⟩,fun _ _ h=>h,fun _ _ h=>h,fun _ _ _ _ h=>h⟩
   have nD:∀ e b,E' m=some e→e.aB=some b→∀ o,D2 b o→D' b o:=fun e b he hb o hd=>down b o hd ⟨m,e,(e2 m hm).trans he,hb⟩;cases x with
   |bH T sz es =>
    obtain ⟨aB,q1,q2,q3⟩:=ho;refine ⟨aB,(e2 m hm).trans q1,q2,?_⟩;cases aB with
    |none=>exact q3
    |some bc =>
     obtain ⟨b,cap⟩:=bc;obtain ⟨cs,pre,rest,g1,g2,g3,g4,g5,g6,g7,g8⟩:=q3;exact ⟨cs,pre,rest,by rw[←hM];exact g1,g2,g3,aC.later hl2 _ _ (aC.dE e2 _ _ (by simpa[ai.only] using k2) g4),g5,g6,g7,fun o hd=>g8 o (nD _ b q1 rfl o hd)⟩
   |box y =>
    obtain ⟨b',cs,T,q1,q2,q3,q4,q5⟩:=ho;exact ⟨b',cs,T,(e2 m hm).trans q1,by rw[←hM];exact q2,q3,ae.later hl2 _ _ (ae.dE e2 _ _ (by simpa[ai.only] using k2) q4),fun o hd=>q5 o (nD _ b' q1 rfl o hd)⟩
   |da o =>
    obtain ⟨b',q1,q2,q3,q4,q5⟩:=ho;exact ⟨b',(e2 m hm).trans q1,by rw[←hM];exact q2,q3,q4,fun o hd=>q5 o (nD _ b' q1 rfl o hd)⟩
   |cm ks vs =>
    obtain ⟨b',es,ck,q1,q2,q3,q4,q5,q6,q7⟩:=ho;simp only[ai.only,Z0] at k2;exact ⟨b',es,ck,(e2 m hm).trans q1,by rw[←hM];exact q2,q3,q4,al.later hl2 _ _ (al.dE e2 _ _ k2.1 q5),al.later hl2 _ _ (al.dE e2 _ _ k2.2 q6),fun o hd=>q7 o (nD _ b' q1 rfl o hd)⟩
   |it ks vs left cur=>cases k3
   |dK T xs =>
    obtain ⟨aB,q1,q2,q3⟩:=ho;refine ⟨aB,(e2 m hm).trans q1,q2,?_⟩;cases aB with
    |none=>exact q3
    |some bc =>
     obtain ⟨b,cap⟩:=bc;obtain ⟨cs,r,g1,g2,g3,g4,g5,g6,g7⟩:=q3;exact ⟨cs,r,by rw[←hM];exact g1,g2,g3,g4,g5,g6,fun o hd=>g7 o (nD _ b q1 rfl o hd)⟩
 ·exact hs.cw m m' e e' b (oh m e g1).2 (oh m' e' g2).2 g3 g4
 ·rw[←hM];have:=hs.db;rw[hc] at this ⊢;exact this
 ·rw[hD2] at hd;have hnm:¬ c.ep b:=by
    rw[hM];rintro (h | h);· omega
    ·exact hno h
  rcases hd.2 with h | h
  ·have:=hs.cH b o h hnm;rw[hc] at this;exact this
  ·exact absurd h.2 hnm
 ·rw[e2 m hin];have ho:A.o m≠none:=by
   cases hx:aA os m with
   |none=>simp[ao,hx] at hin
   |some x=>rw[(h1 m x hx).1];simp
  rcases hs.dp m e (by rw[hc];exact hm) with h | h
  ·have hob:=hs.bB m;cases hx:A.o m with
   |none=>exact absurd hx ho
   |some x=>rw[hx] at hob;exact absurd h (qz hob)
  ·exact h
theorem aM.sx{P:Program}{n:Nat}{w:World}{D:aK}{E:aN}{Y:Value→List I→List (Nat×ai)→cj→Prop}{dN:Option (List Deferred)}{rs:List bz}{post:cj}{fn:Func}{A:ab}{a:Act}{w':World}{D':aK}{E':aN}
  (hs:aM ⟨P,w,D,n,bX E,E,Y,none,dN⟩ A a w' D' E') (hrs:gn P fn.results.toList=some rs) (h:iV rs post A):∃ v,(results fn a.tmps).run P w'=.ok v w'∧kZ w D E post v w':=by
 obtain ⟨os,xs,h1,h2,h3⟩:=h;obtain ⟨D2,E2,hw,e2,e2n,q1,q2,q3,q4,q5,q6⟩:=hs.vU h1;have hu:dy (A.kb os) A:=fun n x hx=>by
  simp only[ab.kb] at hx;split at hx
  ·cases hx
  ·exact hx
 obtain ⟨vs,k1,k2⟩:=wS hs hu (os:=os) (E':=E2) hw e2 e2n fn.results.toList rs xs hrs h2;have hres:(results fn a.tmps).run P w'=.ok (if h:vs.toArray.size=1 then vs.toArray[0] else .tuple vs.toArray) w':=by
  rw[YN,Sem.run_bind,Array.mapM_eq_mapM_toList,Sem.run_map,k1];rfl
 refine ⟨_,hres,D2,E2,j6 xs,os,h3,?_,q1,q2,q3,q4,q5,q6⟩
 match xs,vs,k2 with
 | [x],vs,k2 =>
  simp only[al] at k2;obtain ⟨v,rest,cs,rfl,q1,q2,rfl⟩:=k2;simpa[j6] using fK q1 q2
 | [],vs,k2 =>
  simp only[al] at k2;subst k2;simp[j6,aR,al]
 |x::y::xs,vs,k2 =>
  have hl:vs.length≠1:=by
   simp only[al] at k2;obtain ⟨v,rest,cs,rfl,_,_,v2,rest2,cs2,rfl,_⟩:=k2;simp
  simp only[j6,aR];exact ⟨vs,by simp[hl],k2⟩
theorem B1{P:Program}{n:Nat}{w:World}{D:aK}{E:aN}{Y:Value→List I→List (Nat×ai)→cj→Prop}{rs:List bz}{post:cj}{fn:Func}{A:ab}{D':aK}{E':aN}(hrs:gn P fn.results.toList=some rs)(h:iV rs post A) :
  ∀ (ds:List Deferred) (a:Act) (w':World),a.defers=ds→aM ⟨P,w,D,n,bX E,E,Y,none,none⟩ A a w' D' E'→LeavesInM Fence.wide 9 P fn a.tmps (fun e w'=>∃ v,e=.returned v∧kZ w D E post v w') ds .returning w'
 | [],a,w',_,hs=>by
  obtain ⟨v,h1,h2⟩:=hs.sx hrs h;exact ⟨v,h1,v,rfl,h2⟩
 |d::ds,a,w',hd,hs=>by
  obtain ⟨Bs,h1,_⟩:=hs.dT;rw[hd] at h1;cases Bs with
  |nil=>cases h1
  |cons B Bs =>
   simp only[Z3,zy1] at h1;obtain ⟨rfl,rfl⟩:=h1;obtain ⟨k1,k2⟩:=hs.Ae rfl hd;exact ⟨by simp,.inl ⟨B,_,rfl,run_takeDeferred k1,B1 hrs h _ { a with defers:=Bs.map _ } _ rfl k2⟩⟩
theorem qQ{w:World}{D:aK}{E:aN} : ∀ {args:List I} {vs:List Value},al w D E args vs→vs.length=args.length
 | [],vs,h=>by simp only[al] at h;subst h;rfl
 |x::xs,vs,h=>by
  simp only[al] at h;obtain ⟨v,rest,cs,rfl,_,_,h3⟩:=h;simp[qQ h3]
def jj(P:Program)(f:FuncId)(Y:Value→List I→List (Nat×ai)→cj→Prop)(args:List I)(os:List (Nat×ai))(post:cj):Prop :=
 dS P f=true∧∀ (w:World) (D:aK) (E:aN) (vs:List Value),(∀ n,nY ⟨P,w,D,n,bX E,E,Y,none,none⟩)→(∀ b o,D b o→b<w.heap.size)→jl (fun _=>True) w D E (aA os)→al w D E args vs →
  Calls P f vs.toArray w fun e w'=>∃ v,e=.returned v∧kZ w D E post v w'
theorem jj.sU{P:Program}{f:FuncId}{fn:Func}{body:Code}{x:bj}{rs:List bz}{Y:Value→List I→List (Nat×ai)→cj→Prop}{args:List I}{os:List (Nat×ai)}{post:cj}(hf:P.funcs[f]?=some fn)(hb:fn.body=some body)(hcall:dS P f=true)(hc:dR P fn.ntmps body=some x)
  (hrs:gn P fn.results.toList=some rs) (hn:args.length≤fn.ntmps) (hos:∀ m,ao os m=true→fn.ntmps≤m∧1000000≤m) (h:∀ (w:World) (D:aK) (E:aN),U ⟨P,w,D,fn.ntmps,bX E,E,Y,none,none⟩ x (ny rs post) (nO args os)):jj P f Y args os post:=by
 refine ⟨hcall,fun w D E vs hy hD ho hv =>?_⟩;have hlen:=qQ hv;have hsim:=xu (P:=P) (n:=fn.ntmps) (Y:=Y) hD ho hv (by omega) hos (hy fn.ntmps);refine (callsIn_wide (n:=9)).1 (callsIn_of_wp_marks hf hb trivial ?_);refine wpIn_mono (h w D E body hc _ w ⟨D,E,hsim⟩) ?_;rintro e a w' ⟨A,hq,D',E',hs⟩;cases e <;>simp only[ny] at hq <;>first
  |exact B1 hrs hq a.defers a w' rfl hs
  |cases hq
theorem px{P:Program}{w:World}{D:aK}{E:aN}{n:Nat}{dN:Option (List Deferred)}(hl:eG P w (bX E)):nY ⟨P,w,D,n,bX E,E,fQ,none,dN⟩:=⟨hl,fun _ _ _ _ h=>h.elim⟩
theorem eW.Cr{P:Program}{f:FuncId}{args:List I}{os:List (Nat×ai)}{post:cj}(h:jj P f fQ args os post):eW P f args os post :=
 ⟨h.1,fun w D E vs hl hD ho hv=>(h.2 w D E vs (fun _=>px hl) hD ho hv).mono fun e w' ⟨v,he,D',E',r,os',k⟩=>⟨v,D',E',r,os',he,k⟩⟩
theorem aS.Cq{P:Program}{f:FuncId}{args:List I}{r:I}(h:eW P f args [] (fun r' os'=>r'=r∧os'=[])):aS P f args r:=by
 refine ⟨h.1,fun w D vs hl hD hv =>?_⟩;have hh:jl (fun _=>True) w D cB (aA []):=⟨fun n=>rfl,fun n m e e' b h=>by simp[cB] at h⟩
 refine (h.2 w D cB vs (hl.sy fun b ⟨n,e,h1,_⟩=>by simp[cB] at h1) hD hh hv).mono fun e w' hq =>?_;obtain ⟨v,D',E',r',os',he,⟨h1,h2⟩,k1,k2,k3,k4,k5,k6,_⟩:=hq;subst h1 h2;refine ⟨v,D',he,?_,?_,k5,fun b o hd hlt=>k6 b o hd hlt fun ⟨n,e,h,_⟩=>by simp[cB] at h⟩
 ·have:E'=cB:=by funext n;exact k2.bB n
  rw[←this];exact k1
 ·exact k3.G9 fun k hk hm=>by
   rcases hm with hm | ⟨n,e,h,_⟩
   ·omega
   ·simp[cB] at h
theorem Y5(A:ab):A.kb []=A:=rfl
theorem Et{A:ab} : ∀ {rs:List bz} {xs:List I},eA A rs=some xs→lI A (A.kb []) [] rs xs
 | [],xs,h=>by simp only[eA,v6] at h;subst h;trivial
 |r::rs,xs,h=>by
  simp only[eA] at h;split at h
  ·rename_i x xs' h1 h2;simp only[v6] at h;subst h;refine ⟨?_,Et h2⟩;rw[Y5];cases r with
   |tmp t=>exact ⟨_,rfl,.inr h1⟩
   |cell a s =>
    simp only[tr,np] at h1 ⊢;split at h1
    ·rename_i y hy;split at h1
     ·rename_i hok;exact ⟨y,by simp[hok],.inr h1⟩
     ·cases h1
    ·cases h1
  ·cases h
theorem YP{rs:List bz}{r:I}{e:Exit}{A:ab}(h:j9 rs r e A):ny rs (fun r' os'=>r'=r∧os'=[]) e A:=by
 cases e <;>simp only[j9] at h <;>first
  |exact h.elim
  |(obtain ⟨xs,h1,h2⟩:=h
    exact ⟨[],xs,fun n x hx=>by simp[aA] at hx,Et h1,h2,rfl⟩)
theorem aS.sU{P:Program}{f:FuncId}{fn:Func}{body:Code}{x:bj}{rs:List bz}{args:List I}{r:I}(hf:P.funcs[f]?=some fn)(hb:fn.body=some body)(hcall:dS P f=true)(hc:dR P fn.ntmps body=some x)
  (hrs:gn P fn.results.toList=some rs) (hn:args.length≤fn.ntmps) (h:∀ (w:World) (D:aK) (E:aN),U ⟨P,w,D,fn.ntmps,bX E,E,fQ,none,none⟩ x (j9 rs r) (nN args)):aS P f args r:=by
 refine aS.Cq (eW.Cr (jj.sU hf hb hcall hc hrs hn (fun m hm=>by simp[ao,aA] at hm) fun w D E =>?_));exact (h w D E).mono fun e B hq=>YP hq
end Go.Abs
