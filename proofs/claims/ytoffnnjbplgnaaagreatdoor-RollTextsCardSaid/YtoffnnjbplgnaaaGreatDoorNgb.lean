/-
  A part of the proof that the law RollTexts returns true for every input; five variables of Go's library start as the text lays them (the card ties them); conditions: none beyond the statement's own. (part 2 of 6)
-/
import Derived.Lib.AppendZerosOnto
import Derived.Lib.Strings
import Derived.Maps.RangeRun
import Derived.Laws.MakeOwn
import Derived.Laws.BytesArg
import Derived.Lib.ConvBytes
import Derived.Lib.AtoiErrMem
import Derived.Orders
import Derived.OrdersIn
import Derived.Test.YtoffnnjbplgnaaaGreatDoorNga
set_option linter.unusedSimpArgs false
set_option linter.unusedVariables false
set_option maxHeartbeats 16000000
set_option maxRecDepth 100000
namespace Go.Abs
open Go Go.RowKit
section
variable {c:cm} {A:ab} {o:Oper} {x:I}
theorem lf{P:Program}{w:World}(k:IntKind)(n:Int)(y:Nat)(code:BoundsCode)(g1:0≤n)(g2:n≤y):(Instr.sliceBound (.int k n) y code).run P w=.ok n.toNat w:=by
 simp[Instr.sliceBound,asIntOf,g1,g2]
theorem TQ{t e:TypeId}{y:Operand}{y':au}{lo hi mx:Option Operand}{lo' hi' mx':Option au}{i:TypeInfo}{fs:List I}{n:Nat}{p:List Nat}{sz l0 k:Nat}(ho:o.op=.slice t y lo hi mx)(hu:c.P.underlying t=some (.slice e))(hi0:c.P.info? e=some i)
  (hy:aS c.P 0 y=some y') (h1:gN c.P lo=some lo') (h2:gN c.P hi=some hi') (h3:gN c.P mx=some mx') (hmh:mx'.isSome=true→hi'.isSome=true) (hsz:sz=c.P.cellsOf e)
  (h:af A y'=.view n p sz l0 k) (hd:bO A (.ptr n p)=some (.agg fs)) (hx:iw n p sz l0 k fs.length (lo'.map (af A)) (hi'.map (af A)) (mx'.map (af A))=some x):cG c A o x :=
 .same fun a w D E hs=>by
  have opt:∀ {q:Option Operand} {q':Option au},gN c.P q=some q'→gH w D E (q'.map (af A)) (q.map a.eval):=by
   intro q q' hq;cases q with
   |none=>simp only[gN,v6] at hq;subst hq;simp[gH]
   |some z =>
    simp only[gN,t7] at hq;obtain ⟨z',hz,rfl⟩:=hq;simpa[gH] using bn hs hz
  have h0:=bn hs hy;rw[h] at h0;obtain ⟨yy,b,cs,T,off,c1,c2,c3,k1,k2,k3,k4,k5,k6,k7,k8,k9,k10,k11,k12,hval⟩:=hs.view h0 hd;have hmh':(mx'.map (af A)).isSome=true→(hi'.map (af A)).isSome=true:=by simpa using hmh
  unfold iw at hx;split at hx
  ·cases hx
  rename_i hh hbh;split at hx
  ·cases hx
  rename_i ll hbl;have d1:=pV (opt h1) hbl;have d2:=pV (opt h2) hbh;have o3:=opt h3;split at hx
  ·rename_i hmx;split at hx
   case isFalse=>cases hx
   rename_i hb;obtain ⟨b1,b2,b3⟩:=hb;have hvmx:mx.map a.eval=none:=by
    rw[hmx] at o3;cases hq:mx.map a.eval with
    |none=>rfl
    |some v=>rw[hq] at o3;simp[gH] at o3
   have hsb:(Instr.sliceBounds true k (fs.length-l0) (lo.map a.eval) (hi.map a.eval) (mx.map a.eval)).run c.P w=.ok (ll.toNat,hh.toNat,fs.length-l0) w:=by
    rw[hvmx];rcases d2 with ⟨_,g2,hm2⟩ | ⟨_,q2,g2⟩ <;>rcases d1 with ⟨_,g1,hm1⟩ | ⟨_,q1,g1⟩ <;>rw[g1,g2]
    ·subst hm1 hm2;simp[Instr.sliceBounds]
    ·subst hm2;simp[Instr.sliceBounds,lf q1 ll k _ b1 (by omega)]
    ·subst hm1;simp[Instr.sliceBounds,lf q2 hh (fs.length-l0) _ (by omega) (by omega)]
    ·simp[Instr.sliceBounds,lf q2 hh (fs.length-l0) _ (by omega) (by omega),lf q1 ll hh.toNat _ b1 (by omega)]
   have hrun:(Instr.sliceAt t (a.eval y) (lo.map a.eval) (hi.map a.eval) (mx.map a.eval)).run c.P w =
     .ok (.slice (if fs.length-l0=ll.toNat then some ⟨b,off+l0*sz,none⟩ else some ⟨b,off+l0*sz+ll.toNat*c.P.cellsOf e,none⟩) (hh.toNat-ll.toNat) (fs.length-l0-ll.toNat)) w:=by
    rw[hval];simp only[Instr.sliceAt,Instr.slice,Sem.run_bind,run_underlying hu,Result.andThen_ok,hsb,gq hi0,Sem.run_pure,Y1,lv]
   refine ⟨_,by simp only[execOp,ho,Sem.run_bind,hrun];rfl,?_⟩;split at hx
   ·rename_i hl;simp only[v6] at hx;subst hx;have e1:fs.length-l0=ll.toNat:=by omega
    have e2:hh.toNat-ll.toNat=0:=by omega
    rw[if_pos e1,e2,e1,Nat.sub_self];exact ⟨_,by simp[aW,I.isAgg];rfl,by simp only[ae];exact ⟨_,rfl⟩⟩
   ·rename_i hl;simp only[v6] at hx;subst hx;rw[if_neg (by omega)];refine ⟨_,by simp[aW,I.isAgg];rfl,?_⟩;simp only[ae];refine ⟨b,yy.aK,off,I.cK fs,k2,k5,lg p yy _ k4,?_,?_,?_,?_⟩
    ·rw[I.cF,Z2,Nat.add_mul,Nat.add_assoc,hsz,Nat.sub_sub]
    ·rw[I.cF,Z2];exact k12
    ·rw[I.cF,Z2];omega
    ·rw[I.cF];intro s hs';obtain ⟨f,hf,rfl⟩:=zz1.1 hs';rw[I.hE];exact k10 f hf
  ·rename_i kk m hmx;split at hx
   case isFalse=>cases hx
   rename_i hb;obtain ⟨b1,b2,b3,b4⟩:=hb;simp only[v6] at hx;subst hx;obtain ⟨vmx,hvmx,hvm⟩:∃ v,mx.map a.eval=some v∧v=.int kk m:=by
    rw[hmx] at o3;cases hq:mx.map a.eval with
    |none=>rw[hq] at o3;simp[gH] at o3
    |some v=>rw[hq] at o3;simp only[gH] at o3;exact ⟨v,rfl,(dp o3).1⟩
   subst hvm;have hsb:∃ r,(Instr.sliceBounds true k (fs.length-l0) (lo.map a.eval) (hi.map a.eval) (mx.map a.eval)).run c.P w=.ok r w:=by
    rw[hvmx];rcases d2 with ⟨g0,g2,hm2⟩ | ⟨_,q2,g2⟩
    ·rw[hmx,g0] at hmh';simp at hmh'
    ·rcases d1 with ⟨_,g1,hm1⟩ | ⟨_,q1,g1⟩ <;>rw[g1,g2]
     ·exact ⟨_,by simp[Instr.sliceBounds,lf kk m (fs.length-l0) _ (by omega) b4,lf q2 hh m.toNat _ (by omega) (by omega)];rfl⟩
     ·exact ⟨_,by simp[Instr.sliceBounds,lf kk m (fs.length-l0) _ (by omega) b4,lf q2 hh m.toNat _ (by omega) (by omega),lf q1 ll hh.toNat _ b1 (by omega)];rfl⟩
   obtain ⟨⟨r1,ir,sG⟩,hsb⟩:=hsb;have hrun:∃ v,(Instr.sliceAt t (a.eval y) (lo.map a.eval) (hi.map a.eval) (mx.map a.eval)).run c.P w=.ok v w:=by
    rw[hval];exact ⟨_,by simp only[Instr.sliceAt,Instr.slice,Sem.run_bind,run_underlying hu,Result.andThen_ok,hsb,gq hi0,Sem.run_pure,Y1];rfl⟩
   obtain ⟨v,hrun⟩:=hrun;exact ⟨v,by simp only[execOp,ho,Sem.run_bind,hrun];rfl,by simp[aP]⟩
  ·cases hx
theorem TB{t e:TypeId}{y z:Operand}{y' z':au}{i:TypeInfo}{fs:List I}{n:Nat}{p:List Nat}{sz lo k:Nat}{kk:IntKind}{j:Int}(ho:o.op=.indexAddr t y z)(hu:c.P.underlying t=some (.slice e))(hi:c.P.info? e=some i)
  (hy:aS c.P 0 y=some y') (hz:aS c.P 0 z=some z') (hsz:sz=c.P.cellsOf e) (h:af A y'=.view n p sz lo k) (hd:bO A (.ptr n p)=some (.agg fs)) (h':af A z'=.int kk j) (hj:0≤j∧j<k):cG c A o (.ptr n (p++[lo+j.toNat])) :=
 .same fun a w D E hs=>by
  have h0:=bn hs hy;rw[h] at h0;have h1':=bn hs hz;rw[h'] at h1';obtain ⟨yy,b,cs,T,off,c1,c2,c3,k1,k2,k3,k4,k5,k6,k7,k8,k9,k10,k11,k12,hval⟩:=hs.view h0 hd;refine ⟨.pointer (some ⟨b,off+lo*sz+j.toNat*c.P.cellsOf e,none⟩),by simp only[execOp,ho,hval,(dp h1').1,Sem.run_bind,vY hu hi hj];rfl,?_⟩;refine ⟨_,by simp[aW,I.isAgg];rfl,?_⟩;simp only[ae];refine ⟨b,yy.aK,off+(lo+j.toNat)*sz,k2,?_,by rw[Nat.add_mul,←Nat.add_assoc,hsz]⟩;have hl:lo+j.toNat<fs.length:=by omega
  rw[bL.sv p yy.aK off (lo+j.toNat) _ k5 (lg p yy _ k4) (by rw[I.cF];simpa using hl),I.cF,←List.map_take,←I.cF,I.lh,na fs _ k10 (by omega)]
theorem uX{ty:TypeId}{y:Operand}{y':au}{n:Nat}{e:TypeId}(ho:o.op=.call { callee:=.builtin .cap,args := #[y],argTypes := #[ty] })(hu:c.P.underlying ty=some (.slice e))
  (hy:aS c.P ty y=some y') (h:∀ a w D E,aL c A a w D E→∀ v,aP w D E (af A y') v→n≤maxLen∧∃ ad l,v=.slice ad l n):cG c A o (.int .i64 n) :=
 .same fun a w D E hs=>by
  obtain ⟨h0,ad,l,hv⟩:=h a w D E hs _ (bn hs hy);exact ⟨.int .i64 n,by simp[execOp,ho,resolve,invoke,builtin,Builtin.cap_,run_underlying hu,hv,goInt],gS (vj h0)⟩
theorem Tn{t e:TypeId}{i:TypeInfo}(ho:o.op=.buildSlice t 0 #[])(hu:c.P.underlying t=some (.slice e))(hi:c.P.info? e=some i):cG c A o (.c0 (c.P.cellsOf e)):=by
 intro a w D E hs;have hs':=hs.newRow (.cells #[] e);refine ⟨.slice (some ⟨w.heap.size,0,none⟩) 0 0,_,_,?_,hs',⟨_,by simp[aW,I.isAgg];rfl,by simp only[ae];exact ⟨_,rfl⟩⟩⟩;simp[execOp,ho,Instr.buildSlice,run_underlying hu,gq hi,newRow,Instr.fill,show (Array.range 0) = #[] from rfl]
theorem U8{neg:Bool}{t e:TypeId}{y z:Operand}{y':au}{yt:TypeId}{s:Nat}(ho:o.op=.binOp (if neg then .neq else .eql) t y z yt)(hu:c.P.underlying t=some (.slice e))(hy:aS c.P 0 y=some y')(hz:aS c.P 0 z=some (.c (.nils s)))
  (h:∃ sz,af A y'=.slice sz []∨af A y'=.c0 sz) {a:Act} {w:World} {D:aD} {E:aN} (hs:aL c A a w D E):∃ b,(execOp a.eval o).run c.P w=.ok (.value (.bool b)) w:=by
 have h0:=bn hs hy;have h1:aP w D E (.nils s) (a.eval z):=bn hs hz;have hv:∃ ad cp,a.eval y=.slice ad 0 cp:=by
  obtain ⟨sz,h | h⟩:=h <;>rw[h] at h0
  ·obtain ⟨ad,cap,e1,_⟩:=ke h0;exact ⟨ad,cap,by simpa using e1⟩
  ·obtain ⟨cs,q1,q2⟩:=h0;simp only[ae] at q2;obtain ⟨ad,q2⟩:=q2;exact ⟨ad,0,by simpa[aW,I.isAgg,q2] using q1.symm⟩
 obtain ⟨ad,cp,hyv⟩:=hv;have hv:a.eval z=.slice none 0 0:=by
  obtain ⟨cs,q1,q2⟩:=h1;simp only[ae] at q2;simpa[aW,I.isAgg,q2] using q1.symm
 have he:∀ d,(Op.equalIn (d+1) t (.slice ad 0 cp) (.slice none 0 0)).run c.P w=.ok ad.isNone w:=fun d=>by
  cases ad <;>simp[Op.equalIn,run_underlying hu]
 refine ⟨if neg then !ad.isNone else ad.isNone,?_⟩;cases neg <;>simp only[execOp,ho,hyv,hv,if_true,Z7,if_false,Sem.run_bind,eqGuard] <;>simp[binOp,Op.equal,Op.maxDepth,he]
def gZ(y:I)(p:List Nat)(j:Nat)(fs ys:List I):I:=y.dz p (.agg (fs.take j++(ys++fs.drop (j+ys.length))))
theorem KF{t e:TypeId}{y:Operand}{y':au}{z:I}{n:Nat}{p:List Nat}{lo k:Nat}{b:I}{fs:List I}(ho:o.op=.call { callee:=.builtin .clear,args := #[y],argTypes := #[t] })(hu:c.P.underlying t=some (.slice e))(hy:aS c.P t y=some y')
  (hz:fe c.P e=some z) (hv:af A y'=.view n p (c.P.cellsOf e) lo k) (hn:A.o n=some (.box b)) (hat:b.at p=some (.agg fs)) (hsh:I.cK (List.replicate k z)=I.cK ((fs.drop lo).take k)) (hd:o.dst=none) :
  ga c A o (A.aO n (.box (gZ b p lo fs (List.replicate k z)))):=by
 intro a w D E hs;obtain ⟨i,zv,hi,hzv,hzr⟩:=kp hz;have h0:=bn hs hy;rw[hv] at h0;have hx:bO A (.ptr n p)=some (.agg fs):=by simp only[bO,hn,hat]
 obtain ⟨yy,bk,cs,T,off,c1,c2,c3,k1,k2,k3,k4,k5,k6,k7,k8,k9,k10,k11,k12,hval⟩:=hs.view h0 hx;rw[hn] at k1;simp only[v6,ai.box.injEq] at k1;subst k1;have hr:az w D E (List.replicate k z) (Builtin.zeroCells zv.cells k).toList:=by
  rw[tk];exact p7 (hzr w D E) k
 obtain ⟨w',h1,h2⟩:=hs.gZ (j:=lo) (ys:=List.replicate k z) hn k2 k3 k4 k5 k6 k7 k8 k9 k10 hr (by simpa using k11) (by simpa using hsh) c.P;cases k with
 |zero =>
  refine ⟨w,.inl ⟨.tuple #[],?_,D,E,?_⟩⟩
  ·simp[execOp,ho,resolve,invoke,builtin,Builtin.clear_,run_underlying hu,hval]
  ·rw[hd];have:gZ b p lo fs (List.replicate 0 z)=b.dz p (.agg fs):=by simp[gZ]
   have hw:w'=w:=by
    simp[Builtin.zeroCells,storeCells] at h1;exact h1.symm
   rw[hw] at h2;exact h2
 |succ k =>
  refine ⟨w',.inl ⟨.tuple #[],?_,D,E,?_⟩⟩
  ·simp[execOp,ho,resolve,invoke,builtin,Builtin.clear_,run_underlying hu,hval,zeroValue,typeInfo,hi,hzv,h1]
  ·rw[hd];exact h2
theorem C4{w:World}{D:aD}{E:aN} : ∀ l:List UInt8,az w D E (l.map fun b=>I.int .u8 b.toNat) (l.map fun b=>Value.int .u8 b.toNat)
 | []=>rfl
 |b::l=>by
  simp only[Z4,az];refine ⟨[.int .u8 b.toNat],_,rfl,?_,C4 l⟩;simp only[ae,true_and];have:=b.toNat_lt;simp[IntKind.min,IntKind.max,IntKind.bits,IntKind.signed];omega
theorem aL.DZ{a:Act}{w:World}{D:aD}{E:aN}(hsim:aL c A a w D E){sz:Nat}{x:I}{v:Value}{ys:List I}(hv:aP w D E x v)(hs:jK A sz x=some ys) :
  ∃ news:List Value,az w D E ys news∧(∀ y∈ys,y.size=sz)∧ys.length≤maxLen∧(∀ P:Program,(Builtin.lenOf v).run P w=.ok ys.length w)∧∀ (P:Program) (m:Nat) (d2 rest:List Value),m≤ys.length→news=d2++rest→d2.length=m*sz→(Builtin.firstCells sz m v).run P w=.ok d2.toArray w:=by
 unfold jK at hs;split at hs
 ·rename_i s;split at hs
  case isFalse=>cases hs
  rename_i h1;subst h1;simp only[v6] at hs;subst hs;obtain ⟨rfl,hsz⟩:=fL hv;refine ⟨s.data.toList.map fun b=>.int .u8 b.toNat,C4 _,?_,by simpa using hsz,fun P=>by simp[Builtin.lenOf],fun P m d2 rest hm e hl =>?_⟩
  ·intro y hy;obtain ⟨b,_,rfl⟩:=zz1.1 hy;simp[I.size]
  ·have e2:d2=(s.data.toList.map fun b=>Value.int .u8 b.toNat).take m:=by rw[e,List.take_left' (by omega)]
   have e3:=Lib.extract_data s 0 m;simp only[Builtin.firstCells,Sem.run_pure]
   congr 1
   apply Array.ext';rw[e2,Array.toList_map,e3];simp
 ·obtain ⟨ad,cp,news,s1,s2,s3,s4,s5,s6⟩:=hsim.ln hv hs;refine ⟨news,s4,s5,by omega,fun P=>by rw[s1];simp[Builtin.lenOf],fun P m d2 rest hm e hl =>?_⟩;rw[s1];by_cases hm0:m=0
  ·have:d2=[]:=zz9 (by rw[hl,hm0];simp);subst this;cases ad with
   |none=>exact run_firstCells_none _ _ _ _ _
   |some ad=>exact run_firstCells_some w sz m ad ys.length cp [] (by simp[hm0]) (by simp)
  ·obtain ⟨b2,o2,rfl,hr⟩:=s6 (fun h=>by rw[h] at hm;simp at hm;omega);refine run_firstCells_some w sz m _ ys.length cp d2 hl fun j v hj =>?_;rw[Addr.add_lit];refine hr j v ?_;rw[e,zz7 (Z8.1 hj).1];exact hj
theorem KG{t t' e:TypeId}{y x:Operand}{y' x':au}{n:Nat}{p:List Nat}{lo k m:Nat}{b:I}{fs ys:List I}(ho:o.op=.call { callee:=.builtin .copy,args := #[y,x],argTypes := #[t,t'] })(hu:c.P.underlying t=some (.slice e))(hi:(c.P.info? e).isSome=true)
  (hy:aS c.P t y=some y') (hx:aS c.P t' x=some x') (hv:af A y'=.view n p (c.P.cellsOf e) lo k) (hn:A.o n=some (.box b)) (hat:b.at p=some (.agg fs)) (hs:jK A (c.P.cellsOf e) (af A x')=some ys) (hm:m=min ys.length k)
  (hsh:I.cK (ys.take m)=I.cK ((fs.drop lo).take m)) (hdn:∀ k,o.dst=some k→k<c.n) :
  ga c A o ((A.aO n (.box (gZ b p lo fs (ys.take m)))).aM o.dst (.int .i64 m)):=by
 intro a w D E hsim;obtain ⟨i,hi⟩:=Y6.1 hi;have h0:=bn hsim hy;rw[hv] at h0;have hxx:bO A (.ptr n p)=some (.agg fs):=by simp only[bO,hn,hat]
 obtain ⟨yy,bk,cs,T,off,c1,c2,c3,k1,k2,k3,k4,k5,k6,k7,k8,k9,k10,k11,k12,hval⟩:=hsim.view h0 hxx;rw[hn] at k1;simp only[v6,ai.box.injEq] at k1;subst k1;obtain ⟨news,s4,s5,s3,s1,s6⟩:=hsim.DZ (bn hsim hx) hs;have hmy:m≤ys.length:=by omega
 have hci:c.P.cellsOf e=i.size:=by simp[Program.cellsOf,hi]
 obtain ⟨d1,d2,d3,e1,e2,e3,e4⟩:=sL s4 s5 0 m (by omega);simp only[Nat.zero_mul,List.drop_zero] at e2 e3;have e2':d1=[]:=zz9 e2;subst e2';simp only[zz2] at e1;have hlen:(ys.take m).length=m:=by rw[Z6];omega
 have hd2:d2.length=m*i.size:=by rw[az.length _ _ e3,I.fY (sz:=c.P.cellsOf e) _ (fun y hy=>s5 y (List.mem_of_mem_take hy)),hlen,hci]
 obtain ⟨w',h1,h2⟩:=hsim.gZ (j:=lo) (ys:=ys.take m) hn k2 k3 k4 k5 k6 k7 k8 k9 k10 e3 (by rw[hlen];omega) (by rw[hlen];exact hsh) c.P;have hf:=s6 c.P m d2 d3 hmy e1 (by rw[hd2,hci]);have h63:m≤maxLen:=by omega
 refine ⟨w',.inl ⟨.int .i64 m,?_,D,E,h2.aM hdn (gS (vj h63))⟩⟩;have hmin:Nat.min ys.length k=m:=hm.symm;have hlo:=s1 c.P;simp only[execOp,ho,resolve,invoke,builtin,Sem.run_bind,Sem.run_pure,Result.andThen_ok,List.map_toArray,Z4,zz0,hval];simp[Builtin.copy_,run_underlying hu,hlo,hmin,gq hi,hf,h1,goInt]
theorem KH{t t' e:TypeId}{y x:Operand}{y' x':au}{z0:Nat}{ys:List I}(ho:o.op=.call { callee:=.builtin .copy,args := #[y,x],argTypes := #[t,t'] })(hu:c.P.underlying t=some (.slice e))(hi:(c.P.info? e).isSome=true)
  (hy:aS c.P t y=some y') (hx:aS c.P t' x=some x') (hv:af A y'=.c0 z0) (hs:jK A (c.P.cellsOf e) (af A x')=some ys) (hdn:∀ k,o.dst=some k→k<c.n) :
  ga c A o (A.aM o.dst (.int .i64 0)):=by
 intro a w D E hsim;obtain ⟨i,hi⟩:=Y6.1 hi;have h0:=bn hsim hy;rw[hv] at h0;obtain ⟨cs,q1,q2⟩:=h0;simp only[ae] at q2;obtain ⟨ad,q2⟩:=q2;have hval:a.eval y=.slice ad 0 0:=by simpa[aW,I.isAgg,q2] using q1.symm
 obtain ⟨news,s4,s5,s3,s1,s6⟩:=hsim.DZ (bn hsim hx) hs;have hf:=s6 c.P 0 [] news (by omega) (by simp) (by simp);have hlo:=s1 c.P;refine ⟨w,.inl ⟨.int .i64 0,?_,D,E,hsim.aM hdn (gS ⟨by decide,by decide⟩)⟩⟩;have hmin:Nat.min ys.length 0=0:=Nat.min_eq_right (by omega);simp only[execOp,ho,resolve,invoke,builtin,Sem.run_bind,Sem.run_pure,Result.andThen_ok,List.map_toArray,Z4,zz0,hval];cases ad <;>simp[Builtin.copy_,run_underlying hu,hlo,gq hi,hf,goInt,storeCells]
theorem nw{a:Act}{w:World}{D:aD}{E:aN}(hs:aL c A a w D E){sz:Nat}{x:I}{v:Value}{es:List I}(hv:aP w D E x v)(he:cO A sz x=some es) :
  ∃ ad cp olds,v=.slice ad es.length cp∧es.length≤cp∧cp≤maxLen∧az w D E es olds∧(∀ y∈es,y.size=sz)∧∀ (P:Program) (w':World),(∀ p u,w.cell? p=some u→w'.cell? p=some u)→(Builtin.firstCells sz es.length v).run P w'=.ok olds.toArray w':=by
 obtain ⟨ad,cp,news,s1,s2,s3,s4,s5,s6⟩:=hs.ln hv he;refine ⟨ad,cp,news,s1,s2,s3,s4,s5,fun P w' hw =>?_⟩;have hl:news.length=es.length*sz:=by rw[az.length _ _ s4,I.fY _ s5]
 rw[s1];by_cases h0:es=[]
 ·subst h0;have:news=[]:=zz9 (by rw[hl];simp);subst this;cases ad with
  |none=>exact run_firstCells_none _ _ _ _ _
  |some ad=>exact run_firstCells_some w' sz _ ad _ cp [] (by simp) (by simp)
 ·obtain ⟨b,o',rfl,hr⟩:=s6 h0;exact run_firstCells_some w' sz _ _ _ cp news hl fun j v hj=>by rw[Addr.add_lit];exact hw _ _ (hr j v hj)
theorem FR{t e:TypeId}{s x:Operand}{s' x':au}{es ys:List I}{z:I}{d:Nat}(ho:o.op=.call { callee:=.builtin .append,args := #[s,x],argTypes := #[t,t] })(hu:c.P.underlying t=some (.slice e))(hs':aS c.P t s=some s')(hx':aS c.P t x=some x')
  (hz:fe c.P e=some z) (hzs:z.size=c.P.cellsOf e) (hse:cO A (c.P.cellsOf e) (af A s')=some es) (hsx:cO A (c.P.cellsOf e) (af A x')=some ys) (hby:(es.length+ys.length)*c.P.bytesOf e≤140737488355328)
  (hd:o.dst=some d) (hdn:d<c.n) (hf:A.o d=none) (hne:ys≠[]) {a:Act} {w:World} {D:aD} {E:aN} (hsim:aL c A a w D E) (hfull:∀ ad l cp,a.eval s=.slice ad l cp→cp<l+ys.length) (hml:es.length+ys.length≤maxLen) :
  ∃ v w' m,(execOp a.eval o).run c.P w=.ok (.value v) w'∧es.length+ys.length+m≤maxLen ∧
   bA c ((A.aO d (.box (.agg (es++(ys++List.replicate m z))))).aM o.dst (.view d [] (c.P.cellsOf e) 0 (es.length+ys.length))) (a.put o.dst v) w':=by
 obtain ⟨i,zv,hi,hzv,hzr⟩:=kp hz;have hci:c.P.cellsOf e=i.size:=by simp[Program.cellsOf,hi]
 have hbi:c.P.bytesOf e=i.bytes:=by simp[Program.bytesOf,hi]
 obtain ⟨ad1,cp1,olds,s1,s2,s3,s4,s5,s6⟩:=nw hsim (bn hsim hs') hse;obtain ⟨ad2,cp2,news,t1,t2,t3,t4,t5,t6⟩:=nw hsim (bn hsim hx') hsx;have hlt:=hfull _ _ _ s1;obtain ⟨m,hm⟩:∃ m,m=grownCap w (es.length+ys.length) cp1 e-(es.length+ys.length):=⟨_,rfl⟩
 have hge:=grownCap_ge w (es.length+ys.length) cp1 e;have hle:=grownCap_le_maxLen w (es.length+ys.length) cp1 e hml;obtain ⟨cells,hcells⟩:∃ cells:Array Value,cells=olds.toArray++news.toArray++Builtin.zeroCells zv.cells m:=⟨_,rfl⟩
 have hrun:(Builtin.append_ #[t,t] o.type #[a.eval s,a.eval x]).run c.P w=.ok (.slice (some ⟨w.heap.size,0,none⟩) (es.length+ys.length) (grownCap w (es.length+ys.length) cp1 e)) (w.drew.alloc (.cells cells e)):=by
  have hn:¬ (es.length+ys.length≤cp1):=by omega
  have h63:¬ (9223372036854775807<((es.length:Int)+(ys.length:Int))):=by simp only[maxLen] at hml;omega
  have h48:¬ (281474976710656<Builtin.nextslicecap (es.length+ys.length) cp1*i.bytes):=by
   have h3:(es.length+ys.length)*i.bytes≤140737488355328:=by rw[←hbi];exact hby
   have:=growslice_fits hlt h3;omega
  have g1:=s6 c.P w.drew (fun _ _ h=>h);have g2:=t6 c.P w.drew (fun _ _ h=>h);rw[s1,hci] at g1;rw[t1,hci] at g2;rw[s1,t1,hcells,hm];simp[Builtin.append_,run_underlying hu,sizeOf,typeInfo,zeroValue,hi,hzv,Builtin.lenOf,hn,h63,h48,Question.forced,g1,g2,newRow,grownCap]
  congr 2
  apply Array.ext';simp[Z3]
 have hcl:cells.toList=olds++(news++(List.replicate m zv.cells.toList).flatten):=by
  rw[hcells];simp[tk]
 have hrc:ae w D E (.agg (es++(ys++List.replicate m z))) cells.toList:=by
  rw[hcl];simp only[ae];exact iK _ _ _ _ s4 (iK _ _ _ _ t4 (p7 (hzr w D E) m))
 have hsim':aL c A a w.drew D E:=hsim.grow ⟨rfl,rfl,rfl,Z5 _,fun _ _=>rfl⟩ (fun _ _ h=>h) (fun _ _ h _=>h) (fun b o h=>hsim.cL b o h);have hrc':ae w.drew D E (.agg (es++(ys++List.replicate m z))) cells.toList:=ae.later (w:=w) (w':=w.drew) (D:=D) (E:=E) ⟨fun _ _ h=>h,fun _ _ _ _ h=>h,fun _ _ _ h=>h,fun _ aA l h=>⟨aA,l,h,Z5 _,fun _=>rfl⟩,fun _ _ h=>h,fun _ _ h=>h,fun _ _ _ _ h=>h⟩ _ _ hrc;have h1:=hsim'.pP (T:=e) (.inl hdn) hf hrc';have hall:∀ y∈es++(ys++List.replicate m z),y.size=c.P.cellsOf e:=by
  intro y hy;rcases Y8.1 hy with hy | hy
  ·exact s5 y hy
  ·rcases Y8.1 hy with hy | hy
   ·exact t5 y hy
   ·rw[List.eq_of_mem_replicate hy];exact hzs
 have hlen:(es++(ys++List.replicate m z)).length=es.length+ys.length+m:=by simp[Nat.add_assoc]
 have h2:=h1.put (d:=d) (x:=.view d [] (c.P.cellsOf e) 0 (es.length+ys.length)) (v:=.slice (some ⟨w.heap.size,0,none⟩) (es.length+ys.length) (grownCap w (es.length+ys.length) cp1 e)) hdn ⟨_,by simp[aW,I.isAgg];rfl,by
  simp only[ae,if_true];refine ⟨w.heap.size,(I.agg (es++(ys++List.replicate m z))).aK,0,I.cK (es++(ys++List.replicate m z)),rfl,by cases (I.agg (es++(ys++List.replicate m z))).aK <;>simp[bL.off],by simp only[I.aK,bL.part],?_,?_,?_,?_⟩
  ·rw[I.cF,Z2,hlen,hm];simp;omega
  ·rw[I.cF,Z2,hlen];omega
  ·rw[I.cF,Z2,hlen];omega
  ·rw[I.cF];intro s hs;obtain ⟨f,hf,rfl⟩:=zz1.1 hs;rw[I.hE];exact hall f hf⟩
 refine ⟨.slice (some ⟨w.heap.size,0,none⟩) (es.length+ys.length) (grownCap w (es.length+ys.length) cp1 e),w.drew.alloc (.cells cells e),m,?_,by omega,?_⟩
 ·unfold execOp;simp only[ho,resolve,invoke,builtin,Sem.run_bind,Sem.run_pure,Result.andThen_ok,List.map_toArray,Z4,zz0,hrun]
 ·rw[hd];exact ⟨D,_,h2⟩
theorem FU{t t' e:TypeId}{s x:Operand}{s' x':au}{es:List I}{k:Nat}{kx kt:IntKind}{bw:Int}{z:I}{d:Nat}(ho:o.op=.call { callee:=.builtin .append,args := #[s,x],argTypes := #[t,t'] })(hu:c.P.underlying t=some (.slice e))(hs':aS c.P t s=some s')(hx':aS c.P t' x=some x')(ht':c.P.underlying t'=some (.int kt))(hvx:af A x'=.int kx bw)(hk:bw.toNat=k)(hk0:0<k)(hpos:0<c.P.cellsOf e)
  (hz:fe c.P e=some z) (hzs:z.size=c.P.cellsOf e) (hse:cO A (c.P.cellsOf e) (af A s')=some es) (hby:(es.length+k)*c.P.bytesOf e≤140737488355328)
  (hd:o.dst=some d) (hdn:d<c.n) (hf:A.o d=none) {a:Act} {w:World} {D:aD} {E:aN} (hsim:aL c A a w D E) (hfull:∀ ad l cp,a.eval s=.slice ad l cp→cp<l+k) (hml:es.length+k≤maxLen) :
  ∃ v w' m,(execOp a.eval o).run c.P w=.ok (.value v) w'∧es.length+k+m≤maxLen ∧
   bA c ((A.aO d (.box (.agg (es++(List.replicate k z++List.replicate m z))))).aM o.dst (.view d [] (c.P.cellsOf e) 0 (es.length+k))) (a.put o.dst v) w':=by
 obtain ⟨i,zv,hi,hzv,hzr⟩:=kp hz;have hci:c.P.cellsOf e=i.size:=by simp[Program.cellsOf,hi]
 have hbi:c.P.bytesOf e=i.bytes:=by simp[Program.bytesOf,hi]
 obtain ⟨ad1,cp1,olds,s1,s2,s3,s4,s5,s6⟩:=nw hsim (bn hsim hs') hse;have v2:=bn hsim hx';rw[hvx] at v2;have t1:a.eval x=.int kx ((k:Nat):Int):=by rw[(dp v2).1];congr 1;omega
 have t4:az w D E (List.replicate k z) (List.replicate k zv.cells.toList).flatten:=p7 (hzr w D E) k;have t5:∀ y∈List.replicate k z,y.size=c.P.cellsOf e:=fun y hy=>by rw[List.eq_of_mem_replicate hy];exact hzs
 have hlt:=hfull _ _ _ s1;obtain ⟨m,hm⟩:∃ m,m=grownCap w (es.length+k) cp1 e-(es.length+k):=⟨_,rfl⟩
 have hge:=grownCap_ge w (es.length+k) cp1 e;have hle:=grownCap_le_maxLen w (es.length+k) cp1 e hml;obtain ⟨cells,hcells⟩:∃ cells:Array Value,cells=olds.toArray++Builtin.zeroCells zv.cells k++Builtin.zeroCells zv.cells m:=⟨_,rfl⟩
 have hrun:(Builtin.append_ #[t,t'] o.type #[a.eval s,a.eval x]).run c.P w=.ok (.slice (some ⟨w.heap.size,0,none⟩) (es.length+k) (grownCap w (es.length+k) cp1 e)) (w.drew.alloc (.cells cells e)):=by
  have h3:(es.length+k)*i.bytes≤140737488355328:=by rw[←hbi];exact hby
  have g1:=s6 c.P w.drew (fun _ _ h=>h);rw[s1,hci] at g1;have hfit:=growslice_fits hlt h3;have hkb:k*i.bytes≤(es.length+k)*i.bytes:=Nat.mul_le_mul_right _ (by omega);rw[s1,t1,hcells,hm];exact Lib.run_append_grow_zeros w t t' o.type e i zv kx kt hu ht' hi hzv ad1 es.length cp1 olds g1 k hk0 (by rw[←hci];exact hpos) hlt (by simp only[maxLen] at hml;omega) (by omega) (by omega)
 have hcl:cells.toList=olds++((List.replicate k zv.cells.toList).flatten++(List.replicate m zv.cells.toList).flatten):=by
  rw[hcells];simp[tk]
 have hrc:ae w D E (.agg (es++(List.replicate k z++List.replicate m z))) cells.toList:=by
  rw[hcl];simp only[ae];exact iK _ _ _ _ s4 (iK _ _ _ _ t4 (p7 (hzr w D E) m))
 have hsim':aL c A a w.drew D E:=hsim.grow ⟨rfl,rfl,rfl,Z5 _,fun _ _=>rfl⟩ (fun _ _ h=>h) (fun _ _ h _=>h) (fun b o h=>hsim.cL b o h);have hrc':ae w.drew D E (.agg (es++(List.replicate k z++List.replicate m z))) cells.toList:=ae.later (w:=w) (w':=w.drew) (D:=D) (E:=E) ⟨fun _ _ h=>h,fun _ _ _ _ h=>h,fun _ _ _ h=>h,fun _ aA l h=>⟨aA,l,h,Z5 _,fun _=>rfl⟩,fun _ _ h=>h,fun _ _ h=>h,fun _ _ _ _ h=>h⟩ _ _ hrc;have h1:=hsim'.pP (T:=e) (.inl hdn) hf hrc';have hall:∀ y∈es++(List.replicate k z++List.replicate m z),y.size=c.P.cellsOf e:=by
  intro y hy;rcases Y8.1 hy with hy | hy
  ·exact s5 y hy
  ·rcases Y8.1 hy with hy | hy
   ·exact t5 y hy
   ·rw[List.eq_of_mem_replicate hy];exact hzs
 have hlen:(es++(List.replicate k z++List.replicate m z)).length=es.length+k+m:=by simp[Nat.add_assoc]
 have h2:=h1.put (d:=d) (x:=.view d [] (c.P.cellsOf e) 0 (es.length+k)) (v:=.slice (some ⟨w.heap.size,0,none⟩) (es.length+k) (grownCap w (es.length+k) cp1 e)) hdn ⟨_,by simp[aW,I.isAgg];rfl,by
  simp only[ae,if_true];refine ⟨w.heap.size,(I.agg (es++(List.replicate k z++List.replicate m z))).aK,0,I.cK (es++(List.replicate k z++List.replicate m z)),rfl,by cases (I.agg (es++(List.replicate k z++List.replicate m z))).aK <;>simp[bL.off],by simp only[I.aK,bL.part],?_,?_,?_,?_⟩
  ·rw[I.cF,Z2,hlen,hm];simp;omega
  ·rw[I.cF,Z2,hlen];omega
  ·rw[I.cF,Z2,hlen];omega
  ·rw[I.cF];intro s hs;obtain ⟨f,hf,rfl⟩:=zz1.1 hs;rw[I.hE];exact hall f hf⟩
 refine ⟨.slice (some ⟨w.heap.size,0,none⟩) (es.length+k) (grownCap w (es.length+k) cp1 e),w.drew.alloc (.cells cells e),m,?_,by omega,?_⟩
 ·unfold execOp;simp only[ho,resolve,invoke,builtin,Sem.run_bind,Sem.run_pure,Result.andThen_ok,List.map_toArray,Z4,zz0,hrun]
 ·rw[hd];exact ⟨D,_,h2⟩
theorem KC{t e:TypeId}{s x:Operand}{s' x':au}{ys:List I}{n:Nat}{p:List Nat}{lo k:Nat}{b:I}{fs:List I}(ho:o.op=.call { callee:=.builtin .append,args := #[s,x],argTypes := #[t,t] })(hu:c.P.underlying t=some (.slice e))(hi:(c.P.info? e).isSome=true)
  (hs':aS c.P t s=some s') (hx':aS c.P t x=some x') (hv:af A s'=.view n p (c.P.cellsOf e) lo k) (hn:A.o n=some (.box b)) (hat:b.at p=some (.agg fs)) (hsx:cO A (c.P.cellsOf e) (af A x')=some ys) (hroom:lo+k+ys.length≤fs.length)
  (hsh:I.cK ys=I.cK ((fs.drop (lo+k)).take ys.length)) (hdn:∀ k,o.dst=some k→k<c.n) :
  ga c A o ((A.aO n (.box (gZ b p (lo+k) fs ys))).aM o.dst (.view n p (c.P.cellsOf e) lo (k+ys.length))):=by
 intro a w D E hsim;obtain ⟨i,hi⟩:=Y6.1 hi;have hci:c.P.cellsOf e=i.size:=by simp[Program.cellsOf,hi]
 have h0:=bn hsim hs';rw[hv] at h0;have hxx:bO A (.ptr n p)=some (.agg fs):=by simp only[bO,hn,hat]
 obtain ⟨yy,bk,cs,T,off,c1,c2,c3,k1,k2,k3,k4,k5,k6,k7,k8,k9,k10,k11,k12,hval⟩:=hsim.view h0 hxx;rw[hn] at k1;simp only[v6,ai.box.injEq] at k1;subst k1;obtain ⟨ad2,cp2,news,t1,t2,t3,t4,t5,t6⟩:=nw hsim (bn hsim hx') hsx;obtain ⟨w',h1,h2⟩:=hsim.gZ (j:=lo+k) (ys:=ys) hn k2 k3 k4 k5 k6 k7 k8 k9 k10 t4 hroom hsh c.P;have g2:=t6 c.P w (fun _ _ h=>h);rw[t1,hci] at g2;have hr:k+ys.length≤fs.length-lo:=by omega
 refine ⟨w',.inl ⟨.slice (some ⟨bk,off+lo*c.P.cellsOf e,none⟩) (k+ys.length) (fs.length-lo),?_,D,E,h2.aM hdn ?_⟩⟩
 ·have e1:off+lo*i.size+k*i.size=off+(lo+k)*c.P.cellsOf e:=by rw[hci,Nat.add_mul];omega
  unfold execOp;simp only[ho,resolve,invoke,builtin,Sem.run_bind,Sem.run_pure,Result.andThen_ok,List.map_toArray,Z4,zz0,hval,t1];simp[Builtin.append_,run_underlying hu,sizeOf,typeInfo,hi,Builtin.lenOf,hr,g2,Addr.add_lit,hci,e1];rw[hci] at h1;simp[h1]
 ·refine ⟨_,by simp[aW,I.isAgg];rfl,?_⟩;simp only[ae];refine ⟨bk,b.aK,off,I.cK fs,k2,k5,lg p b _ k4,?_,?_,?_,?_⟩
  ·rw[I.cF,Z2]
  ·rw[I.cF,Z2];exact k12
  ·rw[I.cF,Z2];omega
  ·rw[I.cF];intro s hs;obtain ⟨f,hf,rfl⟩:=zz1.1 hs;rw[I.hE];exact k10 f hf
theorem KD{t e:TypeId}{s x:Operand}{s' x':au}{es:List I}(ho:o.op=.call { callee:=.builtin .append,args := #[s,x],argTypes := #[t,t] })(hu:c.P.underlying t=some (.slice e))(hi:(c.P.info? e).isSome=true)(hs':aS c.P t s=some s')(hx':aS c.P t x=some x')
  (hse:cO A (c.P.cellsOf e) (af A s')=some es) (hsx:cO A (c.P.cellsOf e) (af A x')=some []):cG c A o (af A s') :=
 .same fun a w D E hsim=>by
  obtain ⟨i,hi⟩:=Y6.1 hi;have hci:c.P.cellsOf e=i.size:=by simp[Program.cellsOf,hi]
  obtain ⟨ad1,cp1,olds,s1,s2,s3,s4,s5,s6⟩:=nw hsim (bn hsim hs') hse;obtain ⟨ad2,cp2,news,t1,t2,t3,t4,t5,t6⟩:=nw hsim (bn hsim hx') hsx;have g2:=t6 c.P w (fun _ _ h=>h);rw[t1,hci] at g2;simp only[az] at t4;subst t4;refine ⟨a.eval s,?_,bn hsim hs'⟩;simp only[zy1] at g2 t1;unfold execOp;simp only[ho,resolve,invoke,builtin,Sem.run_bind,Sem.run_pure,Result.andThen_ok,List.map_toArray,Z4,zz0,s1,t1];cases ad1 <;>simp[Builtin.append_,run_underlying hu,sizeOf,typeInfo,hi,Builtin.lenOf,s2,g2,storeCells]
end
theorem zA{w:World}{D:aD}{E:aN} : ∀ (l:List bZ) (xs ys:List I) (cs ds:List Value),l.all u4=true→gj l xs ys=some true→az w D E xs cs→az w D E ys ds→xs=ys∧cs=ds∧∀ v∈cs,∃ k n,v=.int k n
 | [],xs,ys,cs,ds,_,h,hx,hy=>by
  simp only[gj] at h;split at h
  ·simp only[az] at hx hy;subst hx hy;exact ⟨rfl,rfl,fun v hv=>by simp at hv⟩
  ·cases h
 |t::ts,xs,ys,cs,ds,ha,h,hx,hy=>by
  simp only[List.all_cons,Z0] at ha;simp only[gj] at h;split at h
  case h_2=>cases h
  rename_i f fs g gs;unfold ic at h;split at h
  case h_2=>cases h
  rename_i a b h1 h2;simp only[v6,Z0] at h;obtain ⟨rfl,rfl⟩:=h;simp only[az] at hx hy;obtain ⟨c1,c2,rfl,p1,p2⟩:=hx;obtain ⟨d1,d2,rfl,q1,q2⟩:=hy;obtain ⟨rfl,rfl,k3⟩:=zA ts fs gs c2 d2 ha.2 h2 p2 q2;cases t with
  |i k =>
   simp only[bR] at h1;split at h1
   case h_2=>cases h1
   rename_i k1 a k2 b;split at h1
   case isFalse=>cases h1
   rename_i hk;simp only[v6,beq_iff_eq] at h1;subst h1;obtain ⟨rfl,rfl⟩:=hk;simp only[ae] at p1 q1;obtain ⟨rfl,_⟩:=p1;obtain ⟨rfl,_⟩:=q1;refine ⟨rfl,rfl,fun v hv =>?_⟩;rcases Y8.1 hv with hv | hv
   ·simp at hv;exact ⟨_,_,hv⟩
   ·exact k3 v hv
  |b | s | aV _ | oT _ _=>simp[u4] at ha
theorem DJ:∀ (cs:List Value) (n:Nat),(∀ v∈cs,∃ k m,v=.int k m)→((cs.zip cs).all fun (x,y)=>Instr.sameBits n x y)=true
 | [],_,_=>rfl
 |v::cs,n,h=>by
  obtain ⟨k,m,rfl⟩:=h v (by simp);simp only[List.zip_cons_cons,List.all_cons,Z0];exact ⟨by cases n <;>simp[Instr.sameBits],DJ cs n fun v hv=>h v (by simp[hv])⟩
theorem Uq{P:Program}{t:TypeId}{ty:bZ}{w:World}{D:aD}{E:aN}{x y:I}{u v:Value}(hk:iZ P t=some ty)(h:bR ty x y=some true)(hx:aP w D E x u)(hy:aP w D E y v):x=y∧u=v∧Instr.sameBits 10000 u v=true:=by
 unfold iZ at hk;split at hk
 ·rename_i k hu;simp only[v6] at hk;subst hk;simp only[bR] at h;split at h
  case h_2=>cases h
  split at h
  case isFalse=>cases h
  rename_i hk;simp only[v6,beq_iff_eq] at h;subst h;obtain ⟨rfl,rfl⟩:=hk;rw[(dp hx).1,(dp hy).1];exact ⟨rfl,rfl,by simp[Instr.sameBits]⟩
 ·rename_i fs hu;split at hk
  case h_2=>cases hk
  rename_i l hl;split at hk
  case isFalse=>cases hk
  rename_i hc;simp only[v6] at hk;subst hk;simp only[bR] at h;split at h
  case h_2=>cases h
  rename_i xs ys;obtain ⟨cs,rfl,hc1⟩:=iu hx;obtain ⟨ds,rfl,hd1⟩:=iu hy;obtain ⟨rfl,rfl,h3⟩:=zA l xs ys cs ds hc.1 h hc1 hd1;refine ⟨rfl,rfl,?_⟩;simp only[Instr.sameBits,beq_self_eq_true,Bool.true_and];exact DJ cs _ h3
 ·cases hk
section
variable {P:Program} {w:World} {D:aD} {E:aN}
theorem ub{t:TypeId}{ty:bZ}{em:Bool}{x y:I}{v:Value}{r:Bool}(hk:iZ P t=some ty)(hx:aP w D E x v)(h:bR ty x y=some r)(n:Nat):(Instr.checkKey em (n+2) t v).run P w=.ok () w:=by
 unfold iZ at hk;split at hk
 ·rename_i k hu;simp only[v6] at hk;subst hk;simp only[bR] at h;split at h
  case h_2=>cases h
  rename_i k1 a k2 b;split at h
  case isFalse=>cases h
  rename_i hq;rw[(dp hx).1,hq.1];exact MapKept.run_checkKey hu (by simp[MapKept.IsKey]) em (n+1)
 ·rename_i fs hu;split at hk
  case h_2=>cases hk
  rename_i l hl;split at hk
  case isFalse=>cases hk
  rename_i hc;simp only[v6] at hk;subst hk;simp only[bR] at h;split at h
  case h_2=>cases h
  rename_i xs ys;obtain ⟨cs,rfl,hc1⟩:=iu hx;obtain ⟨d,hd⟩:∃ d,d=11:=⟨_,rfl⟩
  rw[show (12:Nat)=d+1 from by omega] at hl;simp only[fG,hu] at hl;split at hl
  case isFalse=>cases hl
  rename_i hc2;simp only[t7,bZ.aV.injEq] at hl;obtain ⟨l',hl,rfl⟩:=hl;rw[show n+2=(n+1)+1 from rfl,Instr.checkKey];simp only[Sem.run_bind,run_underlying hu,Result.andThen_ok];rw[←Array.forIn_toList];have key:∀ (av:List Field) (l:List bZ) (xs ys:List I) (r:Bool) (c1 c2:List Value),
    (av.mapM fun f=>match fG P d f.type with
     |some ty=>if ty.size=P.cellsOf f.type then some ty else none
     | none => none) = some l → (∀ f ∈ av, f.name ≠ "_" ∧ pD (P.underlying f.type) = true) → oc P c1.length av = true → az w D E xs c2 → gj l xs ys = some r → c1 ++ c2 = cs →
    Sem.run P (forIn av PUnit.unit (fun (f : Field) (_ : PUnit) => (if f.name ≠ "_" then (do
     let x ←part f.type cs.toArray f.offset
     Instr.checkKey em (n+1) f.type x
     pure (ForInStep.yield PUnit.unit)) else pure (ForInStep.yield PUnit.unit):Sem (ForInStep PUnit)))) w=.ok PUnit.unit w:=by
   intro av
   induction av with
   |nil=>intros;simp
   |cons f av ih =>
    intro l xs ys r c1 c2 hm hn ho hx h htot;simp only[List.mapM_cons,Option.bind_eq_bind,Option.pure_def,zy3,v6] at hm;obtain ⟨ty,hty,tys,htys,rfl⟩:=hm;split at hty
    case h_2=>cases hty
    rename_i ty' hd';split at hty
    case isFalse=>cases hty
    rename_i hsz;simp only[v6] at hty;subst hty;simp only[gj] at h;split at h
    case h_2=>cases h
    rename_i x xs y ys;unfold ic at h;split at h
    case h_2=>cases h
    rename_i ra rb h1 h2;simp only[az] at hx;obtain ⟨e1,e2,rfl,k1,k2⟩:=hx;obtain ⟨s,q1,q2,q3⟩:=ur hd' hsz h1;obtain ⟨u,p1,p2⟩:=mV (P:=P) (w:=w) (c1:=c1) (c3:=e2) q1 q2 k1;simp only[oc,Z0,beq_iff_eq] at ho;have hsx:=nI ty' x y ra h1;have hle:e1.length=P.cellsOf f.type:=by rw[ae.length _ _ k1,hsx.1,hsz]
    have ih':=ih tys xs ys rb (c1++e1) e2 htys (fun g hg=>hn g (by simp[hg])) (by simp only[Z1,hle];exact ho.2) k2 h2 (by rw[←htot];simp);rw[Z3,htot,←ho.1] at p1;obtain ⟨hnm,hint⟩:=hn f (by simp);have hck:(Instr.checkKey em (n+1) f.type u).run P w=.ok () w:=by
     cases hu:P.underlying f.type with
     |none=>simp[hu,pD] at hint
     |some dd =>
      cases dd <;>simp[hu,pD] at hint
      rename_i q;have hti:ty'=.i q:=by
       rw[show d=10+1 from by omega] at hd';unfold fG at hd';simp only[hu,v6] at hd';exact hd'.symm
      subst hti;simp only[bR] at h1;split at h1
      case h_2=>cases h1
      split at h1
      case isFalse=>cases h1
      rename_i hq;rw[(dp p2).1,hq.1];exact MapKept.run_checkKey hu (by simp[MapKept.IsKey]) em n
    simp only[List.forIn_cons,Sem.run_bind,hnm,ne_eq,not_false_eq_true,if_true,p1,Result.andThen_ok,hck,Sem.run_pure];exact ih'
  rw[key fs.toList l' xs ys r [] cs hl (fun f hf=>⟨by simpa using Y5.1 hc2.2.1 f hf,Array.all_eq_true_iff_forall_mem.1 hc.2 f (Array.mem_toList_iff.1 hf)⟩) hc2.2.2 hc1 h rfl];simp
 ·cases hk
theorem v8{x:I}{xs:List I}{vs:List Value}(h:ao w D E (x::xs) vs):∃ v rest,vs=v::rest∧aP w D E x v∧ao w D E xs rest:=by
 simp only[ao] at h;obtain ⟨v,rest,cs,rfl,h1,h2,h3⟩:=h;exact ⟨v,rest,rfl,fp h1 h2,h3⟩
def nt(r:Option Nat)(es:List MapEntry)(i:Nat)(q:Option (Nat×Value)):Prop :=
 (r=none∧q=none)∨∃ j e,r=some (i+j)∧es[j]?=some e∧q=some (i+j,e.val)
theorem nt.step{r:Option Nat}{es:List MapEntry}{e:MapEntry}{i:Nat}{q:Option (Nat×Value)}(h:nt r es (i+1) q):nt r (e::es) i q:=by
 rcases h with h | ⟨j,e',h1,h2,h3⟩
 ·exact .inl h
 ·exact .inr ⟨j+1,e',by rw[h1];congr 1;omega,by simpa using h2,by rw[h3];congr 2;omega⟩
theorem zR{q:IntKind}{k:I}{v:Value}(hv:aP w D E k v):∀ (ks:List I) (es:List MapEntry) (i:Nat) (r:Option Nat),ao w D E ks (es.map (·.key))→gP (.i q) k ks i=some r →
  ∃ x,Instr.findNow (.int q) v es i=some x∧nt r es i x
 | [],es,i,r,hk,h=>by
  simp only[gP,v6] at h;simp only[ao,List.map_eq_nil_iff] at hk;subst h hk;exact ⟨none,rfl,.inl ⟨rfl,rfl⟩⟩
 |x::ks,es,i,r,hk,h=>by
  obtain ⟨u,rest,e1,hu,hr⟩:=v8 hk;cases es with
  |nil=>cases e1
  |cons e es =>
   simp only[Z4,Y9] at e1;obtain ⟨rfl,rfl⟩:=e1;simp only[gP] at h;have same:∀ b,bR (.i q) k x=some b→Instr.sameNow (.int q) v e.key=some b:=fun b hb=>by
    simp only[bR] at hb;split at hb
    case h_2=>cases hb
    split at hb
    case isFalse=>cases hb
    rename_i hq;simp only[v6] at hb;subst hb;rw[(dp hv).1,(dp hu).1];simp[Instr.sameNow,hq.1,hq.2]
   split at h
   ·rename_i hb;simp only[v6] at h;subst h;exact ⟨some (i,e.val),by simp[Instr.findNow,same _ hb],.inr ⟨0,e,rfl,rfl,rfl⟩⟩
   ·rename_i hb;obtain ⟨y,h1,h2⟩:=zR hv ks es (i+1) r hr h;exact ⟨y,by simp[Instr.findNow,same _ hb,h1],h2.step⟩
   ·cases h
theorem zP{t:TypeId}{ty:bZ}(hty:fG P 12 t=some ty){k:I}{v:Value}(hv:aP w D E k v):∀ (ks:List I) (es:List MapEntry) (i:Nat) (r:Option Nat),ao w D E ks (es.map (·.key))→gP ty k ks i=some r →
  ∃ x,(Instr.findAsking t v es i).run P w=.ok x w∧nt r es i x
 | [],es,i,r,hk,h=>by
  simp only[gP,v6] at h;simp only[ao,List.map_eq_nil_iff] at hk;subst h hk;exact ⟨none,rfl,.inl ⟨rfl,rfl⟩⟩
 |x::ks,es,i,r,hk,h=>by
  obtain ⟨u,rest,e1,hu,hr⟩:=v8 hk;cases es with
  |nil=>cases e1
  |cons e es =>
   simp only[Z4,Y9] at e1;obtain ⟨rfl,rfl⟩:=e1;simp only[gP] at h;have same:∀ b,bR ty k x=some b→(Op.equal t v e.key).run P w=.ok b w:=fun b hb=>rq 12 t ty hty k x v e.key b hv hu hb _ (by simp[Op.maxDepth]);split at h
   ·rename_i hb;simp only[v6] at h;subst h;exact ⟨some (i,e.val),by simp[Instr.findAsking,same _ hb],.inr ⟨0,e,rfl,rfl,rfl⟩⟩
   ·rename_i hb;obtain ⟨y,h1,h2⟩:=zP hty hv ks es (i+1) r hr h;exact ⟨y,by simp[Instr.findAsking,same _ hb,h1],h2.step⟩
   ·cases h
theorem nM{t:TypeId}{ty:bZ}(hk:iZ P t=some ty){k:I}{v:Value}(hv:aP w D E k v){ks:List I}{es:List MapEntry}{r:Option Nat}(hks:ao w D E ks (es.map (·.key)))(h:gP ty k ks 0=some r) :
  ∃ x,(Instr.findKey t v es).run P w=.ok x w∧nt r es 0 x:=by
 have hk0:=hk;unfold iZ at hk;split at hk
 ·rename_i q hu;simp only[v6] at hk;subst hk;obtain ⟨x,h1,h2⟩:=zR hv ks es 0 r hks h;exact ⟨x,by simp[Instr.findKey,run_underlying hu,h1],h2⟩
 ·rename_i fs hu;split at hk
  case h_2=>cases hk
  rename_i l hl;split at hk
  case isFalse=>cases hk
  simp only[v6] at hk;subst hk;cases es with
  |nil =>
   cases ks with
   |nil =>
    simp only[gP,v6] at h;subst h;exact ⟨none,by simp[Instr.findKey,run_underlying hu,Instr.findNow],.inl ⟨rfl,rfl⟩⟩
   |cons x xs=>simp[ao] at hks
  |cons e es =>
   obtain ⟨x,h1,h2⟩:=zP hl hv ks (e::es) 0 r hks h;exact ⟨x,by simp[Instr.findKey,run_underlying hu,Instr.findNow,Instr.sameNow,h1],h2⟩
 ·cases hk
theorem kY:∀ {xs:List I} {vs:List Value} {j:Nat} {v:Value},ao w D E xs vs→vs[j]?=some v→∃ x,xs[j]?=some x∧aP w D E x v
 | [],vs,j,v,h,hj=>by simp only[ao] at h;subst h;simp at hj
 |x::xs,vs,j,v,h,hj=>by
  obtain ⟨u,rest,rfl,h1,h2⟩:=v8 h;cases j with
  |zero=>simp only[List.getElem?_cons_zero,v6] at hj;subst hj;exact ⟨x,rfl,h1⟩
  |succ j=>exact kY (xs:=xs) h2 (by simpa using hj)
end
section
variable {c:cm} {A:ab} {o:Oper} {x:I}
theorem UQ{a:Act}{w:World}{D:aD}{E:aN}(hs:aL c A a w D E){m:I}{v:Value}{ks vs:List I}(hv:aP w D E m v)(hm:fH A m=some (ks,vs)) :
  (v=.map none∧ks=[]∧vs=[])∨∃ b es clock,v=.map (some b)∧w.heap[b]?=some (.map es clock)∧ao w D E ks (es.toList.map (·.key))∧ao w D E vs (es.toList.map (·.val)):=by
 unfold fH at hm;split at hm
 ·simp only[v6,Prod.mk.injEq] at hm;obtain ⟨rfl,rfl⟩:=hm;obtain ⟨cs,q1,q2⟩:=hv;simp only[ae] at q2;obtain ⟨b,es,ck,q3,q4,q5,q6⟩:=q2;exact .inr ⟨b,es,ck,by simpa[aW,I.isAgg,q3] using q1.symm,q4.1,q5,q6⟩
 ·rename_i n;split at hm
  case h_2=>cases hm
  rename_i ks' vs' hn;simp only[v6,Prod.mk.injEq] at hm;obtain ⟨rfl,rfl⟩:=hm;obtain ⟨cs,q1,q2⟩:=hv;simp only[ae] at q2;obtain ⟨b,q3,q4⟩:=q2;obtain ⟨b',es,ck,k1,k2,k3,k4,k5,k6,k7⟩:=hs.map hn;rw[k1] at q3;cases q3;exact .inr ⟨_,es,ck,by simpa[aW,I.isAgg,q4] using q1.symm,k3,k5,k6⟩
 ·simp only[v6,Prod.mk.injEq] at hm;obtain ⟨rfl,rfl⟩:=hm;obtain ⟨cs,q1,q2⟩:=hv;simp only[ae] at q2;exact .inl ⟨by simpa[aW,I.isAgg,q2.1] using q1.symm,rfl,rfl⟩
 ·cases hm
theorem np{w:World}{D:aD}{E:aN}{y:I}{v:Value}(hv:y.cv=true)(h:aP w D E y v):∃ cs,aW y v cs∧ae w D E y cs:=by
 cases y <;>simp[I.cv] at hv <;>exact h
theorem oq{w:World}{D:aD}{E:aN} : ∀ {xs:List I} {vs:List Value} {j:Nat} {x:I},ao w D E xs vs→xs[j]?=some x→x.cv=true
 | [],_,j,x,_,h=>by simp at h
 |y::ys,vs,j,x,hr,h=>by
  simp only[ao] at hr;obtain ⟨v,rest,cs,rfl,h1,h2,h3⟩:=hr;cases j with
  |zero =>
   simp only[List.getElem?_cons_zero,v6] at h;subst h;cases y <;>simp only[ae] at h2 <;>rfl
  |succ j=>exact oq (xs:=ys) h3 (by simpa using h)
theorem X4{x:I}{cs r:List Value}(h:lq x cs=some r):x.cv=true:=by
 cases x <;>first | rfl | (cases cs <;>simp[lq] at h)
theorem X5{P:Program}{t:TypeId}{z:I}(hz:fe P t=some z)(hp:tj P t z=true):∃ zv,(∀ w,(zeroValue t).run P w=.ok zv w)∧z.cv=true∧∀ w D E,aP w D E z zv:=by
 have hz0:=hz;obtain ⟨i,zv,hi,hzz,hzr⟩:=kp hz;have hv:z.cv=true:=by
  unfold fe at hz;split at hz
  ·split at hz
   ·rename_i hk;simp only[v6] at hz;subst hz;exact X4 hk
   ·cases hz
  ·cases hz
 refine ⟨zv,fun w=>by simp[zeroValue,typeInfo,hi,hzz],hv,fun w D E =>?_⟩;have h1:=hzr w D E;simp only[tj,hi,zy5,hzz] at hp;refine fp (cs:=zv.cells.toList) ?_ h1;cases zv <;>simp only[aW] at hp ⊢ <;>first
  |(rw[if_pos hp];simp[Value.cells])
  |(have hp':z.isAgg=false:=by simpa using hp
    rw[hp'];simp[Value.cells])
theorem TE{t kt et:TypeId}{m k:Operand}{m' k':au}{ok:Bool}{ty:bZ}{z v:I}{ks vs:List I}{there:Bool}(ho:o.op=.lookup t m k ok)(hu:c.P.underlying t=some (.map kt et))(hk:iZ c.P kt=some ty)(hz:fe c.P et=some z)(hzp:tj c.P et z=true)
  (hm:aS c.P 0 m=some m') (hk':aS c.P 0 k=some k') (hmm:fH A (af A m')=some (ks,vs)) (hl:pL ty z (af A k') ks vs=some (v,there)):cG c A o (if ok then .tuple [v,.bool there] else v) :=
 .same fun a w D E hs=>by
  have h1:=bn hs hm;have h2:=bn hs hk';obtain ⟨zv,hzrun,hzv,hzrv⟩:=X5 hz hzp;unfold pL at hl;split at hl
  case isFalse=>cases hl
  rename_i hkk;obtain ⟨rk,hrk⟩:=Y6.1 hkk;have hchk:=fun em=>ub (P:=c.P) (w:=w) (em:=em) hk h2 hrk 9998;have aZ:∀ u there,v.cv=true→aP w D E v u→aP w D E (if ok then .tuple [v,.bool there] else v) (if ok then Value.tuple #[u,.bool there] else u):=fun u there hval hu'=>by
   cases ok
   ·exact hu'
   ·obtain ⟨cs,q1,q2⟩:=np hval hu';simp only[if_true,aP,ao];exact ⟨[u,.bool there],rfl,u,[.bool there],cs,rfl,q1,q2,.bool there,[],[.bool there],rfl,by simp[aW,I.isAgg],by simp[ae],rfl⟩
  have du:∀ (es:Array MapEntry),ao w D E ks (es.toList.map (·.key))→ao w D E vs (es.toList.map (·.val))→∃ u,v.cv=true∧aP w D E v u ∧
    ((∃ i,(Instr.findKey kt (a.eval k) es.toList).run c.P w=.ok (some (i,u)) w∧there=true)∨((Instr.findKey kt (a.eval k) es.toList).run c.P w=.ok none w∧u=zv∧there=false)):=fun es hks hvs=>by
   split at hl
   ·rename_i i hfi;simp only[t7,Prod.mk.injEq] at hl;obtain ⟨v',hv',rfl,rfl⟩:=hl;obtain ⟨q,q1,q2⟩:=nM hk h2 hks hfi;rcases q2 with ⟨e,_⟩ | ⟨j,e,e1,e2,rfl⟩
    ·cases e
    ·simp only[Z9,v6] at e1;subst e1;obtain ⟨x,k1,k2⟩:=kY (j:=i) (v:=e.val) hvs (by simp only[zz6,e2,Y1]);rw[hv',v6] at k1;subst k1;exact ⟨e.val,oq hvs hv',k2,.inl ⟨_,q1,rfl⟩⟩
   ·rename_i hfi;simp only[v6,Prod.mk.injEq] at hl;obtain ⟨rfl,rfl⟩:=hl;obtain ⟨q,q1,q2⟩:=nM hk h2 hks hfi;rcases q2 with ⟨_,rfl⟩ | ⟨j,e,e1,_⟩
    ·exact ⟨zv,hzv,hzrv w D E,.inr ⟨q1,rfl,rfl⟩⟩
    ·cases e1
   ·cases hl
  rcases UQ hs h1 hmm with ⟨e1,rfl,rfl⟩ | ⟨b,es,ck,e1,e2,e3,e4⟩
  ·obtain ⟨u,hval,hu',hrun⟩:=du #[] (by simp[ao]) (by simp[ao]);refine ⟨_,?_,aZ u there hval hu'⟩;rcases hrun with ⟨i,q1,rfl⟩ | ⟨q1,rfl,rfl⟩ <;>
    simp only[execOp,ho,Instr.lookup,e1,Sem.run_bind,run_underlying hu,Result.andThen_ok,Sem.run_pure,hchk,q1,hzrun]
  ·obtain ⟨u,hval,hu',hrun⟩:=du es e3 e4;refine ⟨_,?_,aZ u there hval hu'⟩;rcases hrun with ⟨i,q1,rfl⟩ | ⟨q1,rfl,rfl⟩ <;>
    simp only[execOp,ho,Instr.lookup,e1,Sem.run_bind,run_underlying hu,Result.andThen_ok,MapKept.run_getObj_map e2,Sem.run_pure,hchk,q1,hzrun]
theorem Ao{y:Operand}{y':au}(ho:o.op=.nilCheck y)(hy:aS c.P 0 y=some y')(h:(∃ n p,af A y'=.ptr n p)∨∃ z,af A y'=.ref z):cG c A o (af A y') :=
 .same fun a w D E hs=>by
  have h1:=bn hs hy;rcases h with ⟨n,p,h⟩ | ⟨z,h⟩
  ·rw[h] at h1 ⊢;obtain ⟨b,aK,off,_,_,e⟩:=kd h1;exact ⟨a.eval y,by simp only[execOp,ho,e,Sem.run_pure],h1⟩
  ·rw[h] at h1 ⊢;obtain ⟨b,off,cs,e,_⟩:=oj h1;exact ⟨a.eval y,by simp only[execOp,ho,e,Sem.run_pure],h1⟩
theorem AH{w:World}{D:aD}{E:aN}{x:I}{v:Value}{b:Bool}(h:gR x=some b)(hv:aP w D E x v):∃ ad,v=.pointer ad∧ad.isNone=b:=by
 cases x <;>simp only[gR,v6] at h <;>try (cases h;done)
 case nilp =>
  subst h;obtain ⟨cs,q1,q2⟩:=hv;simp only[ae] at q2;exact ⟨none,by simpa[aW,I.isAgg,q2] using q1.symm,rfl⟩
 case ptr n p =>
  subst h;obtain ⟨b,aK,off,_,_,e⟩:=kd hv;exact ⟨_,e,rfl⟩
 case ref z =>
  subst h;obtain ⟨b,off,cs,e,_⟩:=oj hv;exact ⟨_,e,rfl⟩
theorem TJ{x y:Operand}{x' y':au}{tys:Array TypeId}{v:I}(ho:o.op=.call { callee:=.builtin .max,args := #[x,y],argTypes:=tys })(hx:aS c.P 0 x=some x')(hy:aS c.P 0 y=some y')(h:vt (af A x') (af A y')=some v):cG c A o v :=
 .same fun a w D E hs=>by
  have h1:=bn hs hx;have h2:=bn hs hy;unfold vt at h;split at h
  case h_2=>cases h
  rename_i k n k2 m e1 e2;split at h
  case isFalse=>cases h
  rename_i hk;subst hk;simp only[v6] at h;subst h;rw[e1] at h1;rw[e2] at h2;obtain ⟨v1,r1⟩:=dp h1;obtain ⟨v2,ir⟩:=dp h2;refine ⟨.int k (if m>n then m else n),by simp[execOp,ho,resolve,invoke,builtin,Builtin.max_,Builtin.max2,v1,v2],gS ?_⟩;split
  ·exact ir
  ·exact r1
theorem TO{neg:Bool}{t yt e:TypeId}{y z:Operand}{y' z':au}{b1 b2:Bool}(ho:o.op=.binOp (if neg then .neq else .eql) t y z yt)(hu:c.P.underlying t=some (.pointer e))(hy:aS c.P 0 y=some y')(hz:aS c.P 0 z=some z')
  (h1:gR (af A y')=some b1) (h2:gR (af A z')=some b2) (h:b1=true∨b2=true):cG c A o (.bool (if neg then !(b1&&b2) else (b1&&b2))) :=
 .same fun a w D E hs=>by
  obtain ⟨p,e1,k1⟩:=AH h1 (bn hs hy);obtain ⟨q,e2,k2⟩:=AH h2 (bn hs hz);have he:∀ d,(Op.equalIn (d+1) t (.pointer p) (.pointer q)).run c.P w=.ok (b1&&b2) w:=fun d=>by
   subst k1 k2;cases p <;>cases q <;>simp at h <;>simp[Op.equalIn,run_underlying hu]
  refine ⟨.bool (if neg then !(b1&&b2) else (b1&&b2)),?_,j4 _⟩;cases neg <;>simp only[execOp,ho,e1,e2,if_true,Z7,if_false,Sem.run_bind,eqGuard] <;>simp[binOp,Op.equal,Op.maxDepth,he]
end
section
variable {c:cm} {A:ab} {o:Oper} {x:I}
theorem KJ{t:TypeId}{d:Nat}(ho:o.op=.makeMap t none)(hd:o.dst=some d)(hn:d<c.n)(hf:A.o d=none):ga c A o ((A.aO d (.b7 [] [])).put d (.mref d)):=by
 intro a w D E hs;have h1:=hs.U6 (.inl hn) hf;have h2:=h1.put (x:=.mref d) (v:=.map (some w.heap.size)) hn ⟨_,by simp[aW,I.isAgg];rfl,by
  simp only[ae,if_true];exact ⟨w.heap.size,rfl,rfl⟩⟩
 exact ⟨w.alloc (.map #[] 0),.inl ⟨.map (some w.heap.size),by simp[execOp,ho,Instr.makeMap],D,_,by rw[hd];exact h2⟩⟩
theorem v7{w:World}{D:aD}{E:aN} : ∀ {xs ys:List I} {us vs:List Value},ao w D E xs us→ao w D E ys vs→ao w D E (xs++ys) (us++vs)
 | [],ys,us,vs,h,k=>by simp only[ao] at h;subst h;simpa using k
 |x::xs,ys,us,vs,h,k=>by
  simp only[ao,Y2] at *;obtain ⟨v,rest,cs,rfl,h1,h2,h3⟩:=h;exact ⟨v,rest++vs,cs,rfl,h1,h2,v7 h3 k⟩
theorem Dz{w:World}{D:aD}{E:aN} : ∀ {xs:List I} {us:List Value} {i:Nat} {y:I} {v:Value} {cs:List Value},ao w D E xs us→aW y v cs→ae w D E y cs→ao w D E (xs.set i y) (us.set i v)
 | [],us,i,y,v,cs,h,_,_=>by simp only[ao] at h;subst h;simp[ao]
 |x::xs,us,i,y,v,cs,h,k1,k2=>by
  simp only[ao] at h;obtain ⟨u,rest,ds,rfl,h1,h2,h3⟩:=h;cases i with
  |zero=>simp only[List.set_cons_zero,ao];exact ⟨v,rest,cs,rfl,k1,k2,h3⟩
  |succ i=>simp only[List.set_cons_succ,ao];exact ⟨u,_,ds,rfl,h1,h2,Dz h3 k1 k2⟩
theorem Dy{w:World}{D:aD}{E:aN}{y:I}{v:Value}{cs:List Value}(h1:aW y v cs)(h2:ae w D E y cs):ao w D E [y] [v]:=by
 simp only[ao];exact ⟨v,[],cs,rfl,h1,h2,rfl⟩
theorem zQ{ty:bZ}{k:I} : ∀ {ks:List I} {i j:Nat},gP ty k ks i=some (some j)→∃ x,ks[j-i]?=some x∧i≤j∧bR ty k x=some true
 | [],i,j,h=>by simp[gP] at h
 |x::xs,i,j,h=>by
  simp only[gP] at h;split at h
  ·rename_i hb;simp only[v6] at h;subst h;exact ⟨x,by simp,Z5 _,hb⟩
  ·obtain ⟨y,h1,h2,h3⟩:=zQ h;refine ⟨y,?_,by omega,h3⟩;rw[show j-i=(j-(i+1))+1 from by omega];simpa using h1
  ·cases h
theorem zn{t kt et:TypeId}{m k v:Operand}{m' k' v':au}{ty:bZ}{n:Nat}{ks vs ks' vs':List I}(ho:o.op=.mapUpdate t m k v∨o.op=.insert t m k v)(hu:c.P.underlying t=some (.map kt et))(hk:iZ c.P kt=some ty)
  (hm:aS c.P 0 m=some m') (hk':aS c.P 0 k=some k') (hv':aS c.P et v=some v') (hmm:af A m'=.mref n) (hn:A.o n=some (.b7 ks vs)) (hl:pO ty (af A k') (af A v') ks vs=some (ks',vs')) (hd:o.dst=none) :
  ga c A o (A.aO n (.b7 ks' vs')):=by
 intro a w D E hs;have h1:=bn hs hm;have h2:=bn hs hk';have h3:=bn hs hv';rw[hmm] at h1;unfold pO at hl;split at hl
 case isFalse=>cases hl
 rename_i hc;obtain ⟨hkk,hkv,hvv⟩:=hc;obtain ⟨rk,hrk⟩:=Y6.1 hkk;have hchk:=fun em=>ub (P:=c.P) (w:=w) (em:=em) hk h2 hrk 9998;obtain ⟨kcs,kp1,kp2⟩:=np hkv h2;obtain ⟨vcs,vp1,vp2⟩:=np hvv h3;obtain ⟨b,es,ck,k1,k2,k3,k4,k5,k6,k7⟩:=hs.map hn;have hmv:a.eval m=.map (some b):=by
  obtain ⟨cs,q1,q2⟩:=h1;simp only[ae] at q2;obtain ⟨b',q3,q4⟩:=q2;rw[k1] at q3;cases q3;simpa[aW,I.isAgg,q4] using q1.symm
 -- the new entries
 have step:∀ (es':Array MapEntry) (ck':Nat),(Instr.mapUpdate t (.map (some b)) (a.eval k) (a.eval v)).run c.P w=.ok () (w.putObj b (.map es' ck'))→nh es' ck'→ao w D E ks' (es'.toList.map (·.key))→ao w D E vs' (es'.toList.map (·.val)) →
   ∃ w',((∃ u,(execOp a.eval o).run c.P w=.ok (.value u) w'∧bA c (A.aO n (.b7 ks' vs')) (a.put o.dst u) w')∨((execOp a.eval o).run c.P w=.ok .skip w'∧bA c (A.aO n (.b7 ks' vs')) (a.put o.dst undef) w')):=fun es' ck' hrun hst hks hvs=>by
  refine ⟨w.putObj b (.map es' ck'),.inr ⟨?_,?_⟩⟩
  ·rcases ho with ho | ho <;>simp only[execOp,ho,hmv,Sem.run_bind,hrun,Result.andThen_ok,Sem.run_pure]
  ·rw[hd];have:=hs.wm (o':=.map es' ck') (x:=.b7 ks' vs') k1 rfl rfl k3 rfl (fun q=>by simp) k2 (fun hl' hh hno=>⟨b,es',ck',k1,k2,hh,hst,ao.later hl' _ _ hks,ao.later hl' _ _ hvs,hno⟩);exact ⟨D,E,this⟩
 split at hl
 ·rename_i i hfi;simp only[v6,Prod.mk.injEq] at hl;obtain ⟨rfl,rfl⟩:=hl;obtain ⟨q,q1,q2⟩:=nM hk h2 k5 hfi;rcases q2 with ⟨e,_⟩ | ⟨j,e,e1,e2,rfl⟩
  ·cases e
  simp only[Z9,v6] at e1;subst e1;obtain ⟨y,y1,_,y2⟩:=zQ hfi;simp only[Nat.sub_zero] at y1;obtain ⟨y',y3,y4⟩:=kY (j:=i) (v:=e.key) k5 (by simp only[zz6,e2,Y1]);rw[y1,v6] at y3;subst y3;obtain ⟨_,kk2,kk3⟩:=Uq hk y2 h2 y4;have hes:es[i]?=some e:=by rw[←Array.getElem?_toList];exact e2
  have hlen:i<es.size:=(Y3.1 hes).1;refine step (es.modify i fun e => { e with key:=a.eval k,val:=a.eval v }) ck ?_ ?_ ?_ ?_
  ·have hsb:Instr.sameBits 10000 (((es[i]?).map (·.key)).getD (a.eval k)) (a.eval k)=true:=by
    rw[hes];simp only[Y1,Option.getD_some];rw[←kk2];rw[←kk2] at kk3;exact kk3
   simp only[Instr.mapUpdate,Sem.run_bind,run_underlying hu,Result.andThen_ok,MapKept.run_getObj_map k3,hchk,q1,Z9,Instr.keyThatStays,hsb,if_true,Sem.run_pure,MapKept.run_setObj_map _ k3];rfl
  all_goals
   have em:(es.modify i fun e => { e with key:=a.eval k,val:=a.eval v }).toList=es.toList.set i { e with key:=a.eval k,val:=a.eval v } :=by
    rw[Array.toList_modify];apply List.ext_getElem?;intro j;rw[List.getElem?_modify,List.getElem?_set];by_cases hij:i=j
    ·subst hij;have hge:es[i]'hlen=e:=(Y3.1 hes).2;simp[hlen,hge]
    ·simp[hij]
  ·refine ⟨fun x hx =>?_,?_⟩
   ·rw[em] at hx;rcases List.mem_or_eq_of_mem_set hx with hx | rfl
    ·exact k4.1 x hx
    ·exact k4.1 e (List.mem_of_getElem? e2)
   ·rw[em];have:(es.toList.set i { e with key:=a.eval k,val:=a.eval v }).map (·.born)=es.toList.map (·.born):=by
     rw[List.map_set];apply List.ext_getElem?;intro j;rw[List.getElem?_set];split
     ·rename_i hij;subst hij;simp[e2];exact hlen
     ·rfl
    rw[this];exact k4.2
  ·rw[em,List.map_set];have:(es.toList.map (·.key)).set i (a.eval k)=es.toList.map (·.key):=by
    apply List.ext_getElem?;intro j;rw[List.getElem?_set];split
    ·rename_i hij;subst hij;simp[e2,kk2];exact hlen
    ·rfl
   simp only[this];exact k5
  ·rw[em,List.map_set];exact Dz k6 vp1 vp2
 ·rename_i hfi;simp only[v6,Prod.mk.injEq] at hl;obtain ⟨rfl,rfl⟩:=hl;obtain ⟨q,q1,q2⟩:=nM hk h2 k5 hfi;rcases q2 with ⟨_,rfl⟩ | ⟨j,e,e1,_⟩
  case inr=>cases e1
  refine step (es.push { key:=a.eval k,val:=a.eval v,born:=ck }) (ck+1) ?_ ⟨fun x hx =>?_,?_⟩ ?_ ?_
  ·simp only[Instr.mapUpdate,Sem.run_bind,run_underlying hu,Result.andThen_ok,MapKept.run_getObj_map k3,hchk,q1,MapKept.run_setObj_map _ k3];rfl
  ·simp only[Array.toList_push,Y8,zy2] at hx;rcases hx with hx | rfl
   ·have:=k4.1 x hx;omega
   ·simp
  ·simp only[Array.toList_push,zz8,Z4,zz0];refine List.nodup_append.2 ⟨k4.2,by simp,fun x hx y hy =>?_⟩;simp only[zy2] at hy;subst hy;obtain ⟨e,he,rfl⟩:=zz1.1 hx;exact Nat.ne_of_lt (k4.1 e he)
  ·simp only[Array.toList_push,zz8,Z4,zz0];exact v7 k5 (Dy kp1 kp2)
  ·simp only[Array.toList_push,zz8,Z4,zz0];exact v7 k6 (Dy vp1 vp2)
 ·cases hl
theorem r8{α β:Type}(f:α→β):∀ (l:List α) (i:Nat),(l.eraseIdx i).map f=(l.map f).eraseIdx i
 | [],_=>rfl
 |x::xs,0=>rfl
 |x::xs,i+1=>by simp only[List.eraseIdx_cons_succ,Z4,r8 f xs i]
theorem wa{w:World}{D:aD}{E:aN} : ∀ {xs:List I} {us:List Value} (i:Nat),ao w D E xs us→ao w D E (xs.eraseIdx i) (us.eraseIdx i)
 | [],us,i,h=>by simp only[ao] at h;subst h;simp[ao]
 |x::xs,us,i,h=>by
  simp only[ao] at h;obtain ⟨v,rest,cs,rfl,h1,h2,h3⟩:=h;cases i with
  |zero=>exact h3
  |succ i=>simp only[List.eraseIdx_cons_succ,ao];exact ⟨v,_,cs,rfl,h1,h2,wa i h3⟩
theorem KI{t kt et t':TypeId}{m k:Operand}{m' k':au}{ty:bZ}{n:Nat}{ks vs ks' vs':List I}(ho:o.op=.call { callee:=.builtin .delete,args := #[m,k],argTypes := #[t,t'] })(hu:c.P.underlying t=some (.map kt et))(hk:iZ c.P kt=some ty)
  (hm:aS c.P 0 m=some m') (hk':aS c.P 0 k=some k') (hmm:af A m'=.mref n) (hn:A.o n=some (.b7 ks vs)) (hl:vk ty (af A k') ks vs=some (ks',vs')) (hd:o.dst=none) :
  ga c A o (A.aO n (.b7 ks' vs')):=by
 intro a w D E hs;have h1:=bn hs hm;have h2:=bn hs hk';rw[hmm] at h1;unfold vk at hl;split at hl
 case isFalse=>cases hl
 rename_i hkk;obtain ⟨rk,hrk⟩:=Y6.1 hkk;have hchk:=fun em=>ub (P:=c.P) (w:=w) (em:=em) hk h2 hrk 9998;obtain ⟨b,es,ck,k1,k2,k3,k4,k5,k6,k7⟩:=hs.map hn;have hmv:a.eval m=.map (some b):=by
  obtain ⟨cs,q1,q2⟩:=h1;simp only[ae] at q2;obtain ⟨b',q3,q4⟩:=q2;rw[k1] at q3;cases q3;simpa[aW,I.isAgg,q4] using q1.symm
 have step:∀ (es':Array MapEntry),(Builtin.delete_ #[t,t'] o.type #[.map (some b),a.eval k]).run c.P w=.ok (.tuple #[]) (w.putObj b (.map es' ck))→nh es' ck→ao w D E ks' (es'.toList.map (·.key))→ao w D E vs' (es'.toList.map (·.val)) →
   ∃ w',((∃ u,(execOp a.eval o).run c.P w=.ok (.value u) w'∧bA c (A.aO n (.b7 ks' vs')) (a.put o.dst u) w')∨((execOp a.eval o).run c.P w=.ok .skip w'∧bA c (A.aO n (.b7 ks' vs')) (a.put o.dst undef) w')):=fun es' hrun hst hks hvs=>by
  refine ⟨w.putObj b (.map es' ck),.inl ⟨.tuple #[],?_,?_⟩⟩
  ·simp[execOp,ho,resolve,invoke,builtin,hmv,hrun]
  ·rw[hd];have:=hs.wm (o':=.map es' ck) (x:=.b7 ks' vs') k1 rfl rfl k3 rfl (fun q=>by simp) k2 (fun hl' hh hno=>⟨b,es',ck,k1,k2,hh,hst,ao.later hl' _ _ hks,ao.later hl' _ _ hvs,hno⟩);exact ⟨D,E,this⟩
 split at hl
 ·rename_i i hfi;simp only[v6,Prod.mk.injEq] at hl;obtain ⟨rfl,rfl⟩:=hl;obtain ⟨q,q1,q2⟩:=nM hk h2 k5 hfi;rcases q2 with ⟨e,_⟩ | ⟨j,e,e1,e2,rfl⟩
  ·cases e
  simp only[Z9,v6] at e1;subst e1;have hes:es[i]?=some e:=by rw[←Array.getElem?_toList];exact e2
  have hlen:i<es.size:=(Y3.1 hes).1;have em:(es.eraseIdxIfInBounds i).toList=es.toList.eraseIdx i:=by
   simp[Array.eraseIdxIfInBounds,hlen]
  refine step (es.eraseIdxIfInBounds i) ?_ ⟨fun x hx =>?_,?_⟩ ?_ ?_
  ·simp[Builtin.delete_,run_underlying hu,MapKept.run_getObj_map k3,hchk,q1,MapKept.run_setObj_map _ k3];rfl
  ·rw[em] at hx;exact k4.1 x (List.mem_of_mem_eraseIdx hx)
  ·rw[em,r8];exact k4.2.sublist (List.eraseIdx_sublist _ _)
  ·rw[em,r8];exact wa i k5
  ·rw[em,r8];exact wa i k6
 ·rename_i hfi;simp only[v6,Prod.mk.injEq] at hl;obtain ⟨rfl,rfl⟩:=hl;obtain ⟨q,q1,q2⟩:=nM hk h2 k5 hfi;rcases q2 with ⟨_,rfl⟩ | ⟨j,e,e1,_⟩
  case inr=>cases e1
  refine step es ?_ k4 k5 k6;simp[Builtin.delete_,run_underlying hu,MapKept.run_getObj_map k3,hchk,q1,MapKept.run_setObj_map _ k3];rfl
 ·cases hl
theorem KL{t kt et:TypeId}{y:Operand}{y':au}{ks vs:List I}{d:Nat}(ho:o.op=.range t y)(hu:c.P.underlying t=some (.map kt et))(hy:aS c.P 0 y=some y')(h:af A y'=.cW ks vs)(hd:o.dst=some d)(hn:d<c.n)(hf:A.o d=none) :
  ga c A o ((A.aO d (.it ks vs (List.range ks.length) none)).put d (.cR d)):=by
 intro a w D E hs;have h1:=bn hs hy;rw[h] at h1;obtain ⟨cs,q1,q2⟩:=h1;simp only[ae] at q2;obtain ⟨b,es,ck,q3,q4,q5,q6⟩:=q2;have hv:a.eval y=.map (some b):=by simpa[aW,I.isAgg,q3] using q1.symm
 have h2:=hs.U5 (.inl hn) hf q4 q5 q6;have h3:=h2.put (x:=.cR d) (v:=.pointer (some ⟨w.heap.size,0,none⟩)) hn ⟨_,by simp[aW,I.isAgg];rfl,by
  simp only[ae,if_true];exact ⟨w.heap.size,rfl,rfl⟩⟩
 refine ⟨w.alloc (.mapIter (some b) ck #[] ck),.inl ⟨.pointer (some ⟨w.heap.size,0,none⟩),?_,D,_,by rw[hd];exact h3⟩⟩;simp only[execOp,ho,hv,Sem.run_bind,run_range_map w t kt et b es ck hu q4.1,Result.andThen_ok,Sem.run_pure]
theorem AZ{es:Array MapEntry}{seen:Array Nat}{i:Nat} : i∈mr es seen↔∃ e,es[i]?=some e∧seen.contains e.born=false:=by
 unfold mr;simp only[List.mem_filter,List.mem_range];constructor
 ·rintro ⟨h1,h2⟩;rw[Array.getElem?_eq_getElem h1] at h2 ⊢;exact ⟨_,rfl,by simpa using h2⟩
 ·rintro ⟨e,h1,h2⟩;exact ⟨(Y3.1 h1).1,by rw[h1];simpa using h2⟩
theorem XE{es:Array MapEntry}{ck:Nat}(hst:nh es ck){i j:Nat}{e f:MapEntry}(hi:es[i]?=some e)(hj:es[j]?=some f)(h:e.born=f.born):i=j:=by
 have hn:=hst.2;rw[←Array.getElem?_toList] at hi hj;have h1:(es.toList.map (·.born))[i]?=some e.born:=by rw[zz6,hi];rfl
 have h2:(es.toList.map (·.born))[j]?=some e.born:=by rw[zz6,hj,h];rfl
 have hil:i<(es.toList.map (·.born)).length:=(Z8.1 h1).1;have hjl:j<(es.toList.map (·.born)).length:=(Z8.1 h2).1;exact (List.getElem?_inj hil hn).1 (h1.trans h2.symm)
theorem UH{es:Array MapEntry}{seen:Array Nat}{ck i:Nat}{e:MapEntry}(hst:nh es ck)(hi:es[i]?=some e):mr es (seen.push e.born)=(mr es seen).filter (· != i):=by
 unfold mr;rw[List.filter_filter];refine List.filter_congr fun j hj =>?_;have hjl:j<es.size:=by simpa using hj
 rw[Array.getElem?_eq_getElem hjl];simp only[Array.contains_push];by_cases hij:j=i
 ·subst hij;rw[Array.getElem?_eq_getElem hjl,v6] at hi;simp[hi]
 ·have:(es[j].born==e.born)=false:=by
   simp only[beq_eq_false_iff_ne,ne_eq];exact fun h=>hij (XE hst (Array.getElem?_eq_getElem hjl) hi h)
  have h2:(j != i)=true:=by simpa using hij
  simp[this,h2]
theorem U7{y:Operand}{y':au}{ks vs:List I}{left:List Nat}{cur:Option Nat}{n:Nat}(ho:o.op=.next y false)(hy:aS c.P 0 y=some y')(h:af A y'=.cR n)(hn:A.o n=some (.it ks vs left cur))(hdn:∀ k,o.dst=some k→k<c.n){a:Act}{w:World}{D:aD}{E:aN}(hs:aL c A a w D E) :
  ∃ w' v,(execOp a.eval o).run c.P w=.ok (.value v) w'∧((left=[]∧bA c (A.aM o.dst (.tuple [.bool false])) (a.put o.dst v) w') ∨
   ∃ i k x,i∈left∧ks[i]?=some k∧vs[i]?=some x∧bA c ((A.aO n (.it ks vs (left.filter (· != i)) (some i))).aM o.dst (.tuple [.bool true,k,x])) (a.put o.dst v) w'):=by
 have h1:=bn hs hy;rw[h] at h1;obtain ⟨cs,q1,q2⟩:=h1;simp only[ae] at q2;obtain ⟨r,q3,q4⟩:=q2;have hv:a.eval y=.pointer (some ⟨r,0,none⟩):=by simpa[aW,I.isAgg,q4] using q1.symm
 have hob:=hs.bz n;rw[hn] at hob;obtain ⟨r',b,es,ck,since,seen,last,k1,k2,k3,k4,k5,k6,k7,k8,k9,k9',k10⟩:=hob;rw[k1] at q3;cases q3;rcases run_next_at (P:=c.P) w o.type r b since last seen es ck k3 k4.1 k7 k8.1 with ⟨h0,hrun⟩ | ⟨e,he,w1,hal,hrun⟩
 ·refine ⟨w,.tuple #[.bool false],by simp only[execOp,ho,hv,Sem.run_bind,hrun,Result.andThen_ok,Sem.run_pure],.inl ⟨?_,D,E,hs.aM hdn ?_⟩⟩
  ·rw[k9];refine List.eq_nil_iff_forall_not_mem.2 fun i hi =>?_;obtain ⟨e,h1,h2⟩:=AZ.1 hi;have hm:e∈leftOf es seen:=by
    unfold leftOf;simp only[Array.mem_filter];exact ⟨Array.mem_of_getElem? h1,by simpa using h2⟩
   rw[Array.eq_empty_of_size_eq_zero h0] at hm;simp at hm
  ·simp only[aP,ao];exact ⟨[.bool false],rfl,.bool false,[],[.bool false],rfl,by simp[aW,I.isAgg],by simp[ae],rfl⟩
 ·have hmem:e∈es.toList∧seen.contains e.born=false:=by
   unfold leftOf at he;simp only[Array.toList_filter,List.mem_filter] at he;exact ⟨he.1,by simpa using he.2⟩
  obtain ⟨i,hi⟩:=List.getElem?_of_mem hmem.1;have hie:es[i]?=some e:=by rw[←Array.getElem?_toList];exact hi
  obtain ⟨k,hk1,hk2⟩:=kY (j:=i) (v:=e.key) k5 (by simp only[zz6,hi,Y1]);obtain ⟨x,hx1,hx2⟩:=kY (j:=i) (v:=e.val) k6 (by simp only[zz6,hi,Y1]);have hsw:aL c A a w1 D E:=by
   rcases hal with rfl | rfl
   ·exact hs
   ·exact hs.grow (w':=w.drew) (D':=D) ⟨rfl,rfl,rfl,Z5 _,fun _ _=>rfl⟩ (fun _ _ h=>h) (fun _ _ h _=>h) (fun b o hd=>hs.cL b o hd)
  have hw1:w1.heap=w.heap:=by rcases hal with rfl | rfl <;>rfl
  have k3':w1.heap[r]?=some (.mapIter (some b) since seen last):=by rw[hw1];exact k3
  have hset:=hsw.wm (x:=.it ks vs (left.filter (· != i)) (some i)) (o':=.mapIter (some b) since (seen.push e.born) ck) k1 rfl rfl k3' rfl (fun q=>by simp) k2
   (fun hl hh hno=>by
    have hm:mw w1 D b es ck:=⟨by rw[hw1];exact k4.1,k4.2.1,k4.2.2⟩
    have hob:=hsw.bz n;rw[hn] at hob;refine ⟨r,b,es,ck,since,seen.push e.born,ck,k1,k2,hh,hm.later hl,ao.later hl _ _ ?_,ao.later hl _ _ ?_,k7,?_,?_,fun j hj =>?_,hno⟩
    ·obtain ⟨ir,b2,es2,ck2,si2,se2,la2,g1,g2,g3,g4,g5,g6,_⟩:=hob;rw[k1] at g1;cases g1;rw[k3'] at g3;cases g3;have:=g4.1;rw[hw1,k4.1] at this;cases this;exact g5
    ·obtain ⟨ir,b2,es2,ck2,si2,se2,la2,g1,g2,g3,g4,g5,g6,_⟩:=hob;rw[k1] at g1;cases g1;rw[k3'] at g3;cases g3;have:=g4.1;rw[hw1,k4.1] at this;cases this;exact g6
    ·exact ⟨k8.2,k8.2⟩
    ·rw[k9,UH k4.2.2 hie]
    ·cases hj;exact ⟨e,hie,by simp,rfl⟩)
  have hset':aL c (A.aO n (.it ks vs (left.filter (· != i)) (some i))) a (ChangeMaps.setBlock w1 r (.mapIter (some b) since (seen.push e.born) ck)) D E:=hset;refine ⟨_,.tuple #[.bool true,e.key,e.val],by simp only[execOp,ho,hv,Sem.run_bind,hrun,Result.andThen_ok,Sem.run_pure],.inr ⟨i,k,x,?_,hk1,hx1,D,E,hset'.aM hdn ?_⟩⟩
  ·rw[k9];exact AZ.2 ⟨e,hie,hmem.2⟩
  ·have hob2:=hset'.bz n;simp only[ab.aO,if_true] at hob2;obtain ⟨ir,b2,es2,ck2,si2,se2,la2,g1,g2,g3,g4,g5,g6,_⟩:=hob2;rw[k1] at g1;cases g1;have hr2:(ChangeMaps.setBlock w1 r (.mapIter (some b) since (seen.push e.born) ck)).heap[r]?=some (.mapIter (some b) since (seen.push e.born) ck):=World.putObj_heap_same (w:=w1) (eG k3');rw[hr2] at g3;cases g3;have hb2:(ChangeMaps.setBlock w1 r (.mapIter (some b) since (seen.push e.born) ck)).heap[b]?=some (.map es ck):=by
    have:b≠r:=fun e=>by rw[e] at k4;rw[k4.1] at k3;cases k3
    refine (World.putObj_heap_other (w:=w1) this).trans ?_;rw[hw1];exact k4.1
   have:=g4.1;rw[hb2] at this;cases this;obtain ⟨kk,a1,a2⟩:=kY (j:=i) (v:=e.key) g5 (by simp only[zz6,hi,Y1]);rw[hk1] at a1;cases a1;obtain ⟨xx,b1,b2⟩:=kY (j:=i) (v:=e.val) g6 (by simp only[zz6,hi,Y1]);rw[hx1] at b1;cases b1;obtain ⟨c1,c2,c3⟩:=np (oq k5 hk1) a2;obtain ⟨d1,d2,d3⟩:=np (oq k6 hx1) b2;simp only[aP,ao];exact ⟨[.bool true,e.key,e.val],rfl,.bool true,_,[.bool true],rfl,by simp[aW,I.isAgg],by simp[ae],e.key,_,c1,rfl,c2,c3,e.val,[],d1,rfl,d2,d3,rfl⟩
theorem Tr{y:Operand}{y':au}{ks vs:List I}{left:List Nat}{i n:Nat}{k x:I}(ho:o.op=.entry y)(hy:aS c.P 0 y=some y')(h:af A y'=.cR n)(hn:A.o n=some (.it ks vs left (some i)))(hk:ks[i]?=some k)(hx:vs[i]?=some x):cG c A o (.tuple [k,x]) :=
 .same fun a w D E hs=>by
  have h1:=bn hs hy;rw[h] at h1;obtain ⟨cs,q1,q2⟩:=h1;simp only[ae] at q2;obtain ⟨r,q3,q4⟩:=q2;have hv:a.eval y=.pointer (some ⟨r,0,none⟩):=by simpa[aW,I.isAgg,q4] using q1.symm
  have hob:=hs.bz n;rw[hn] at hob;obtain ⟨r',b,es,ck,since,seen,last,k1,k2,k3,k4,k5,k6,k7,k8,k9,k9',k10⟩:=hob;rw[k1] at q3;cases q3;obtain ⟨e,e1,e2,rfl⟩:=k9' i rfl;have hi:es.toList[i]?=some e:=by rw[Array.getElem?_toList];exact e1
  obtain ⟨kk,a1,a2⟩:=kY (j:=i) (v:=e.key) k5 (by simp only[zz6,hi,Y1]);rw[hk] at a1;cases a1;obtain ⟨xx,b1,b2⟩:=kY (j:=i) (v:=e.val) k6 (by simp only[zz6,hi,Y1]);rw[hx] at b1;cases b1;obtain ⟨c1,c2,c3⟩:=np (oq k5 hk) a2;obtain ⟨d1,d2,d3⟩:=np (oq k6 hx) b2;have hf:es.find? (·.born==e.born)=some e:=by rw[←Array.find?_toList];exact find_born e es.toList k4.2.2.2 (List.mem_of_getElem? hi)
  refine ⟨.tuple #[e.key,e.val],?_,?_⟩
  ·have hr:(Instr.entry (.pointer (some ⟨r,0,none⟩))).run c.P w=.ok (.tuple #[e.key,e.val]) w:=by
    simp only[Instr.entry,getObj,Sem.run_bind,Sem.run,k3,k4.1,Result.andThen,e2,bne_self_eq_false,Z7,if_false,hf];rfl
   simp only[execOp,ho,hv,Sem.run_bind,hr,Result.andThen_ok,Sem.run_pure]
  ·simp only[aP,ao];exact ⟨[e.key,e.val],rfl,e.key,_,c1,rfl,c2,c3,e.val,[],d1,rfl,d2,d3,rfl⟩
theorem C3{w:World}{D:aD}{E:aN}{z:I}{v:Value}(h:ae w D E z [v]):∀ n:Nat,az w D E (List.replicate n z) (List.replicate n v)
 |0=>by simp[az]
 |n+1=>by simp only[List.replicate_succ,az];exact ⟨[v],_,rfl,h,C3 h n⟩
theorem KK{t e:TypeId}{l l':Operand}{n':au}{z:I}{n d:Nat}{k:IntKind}(ho:o.op=.makeSlice t l l')(hll:l'=l)(hu:c.P.underlying t=some (.slice e))(hl:aS c.P 0 l=some n')(h:af A n'=.int k n)(hz:fe c.P e=some z)(hz1:z.size=1)
  (hc1:c.P.cellsOf e=1) (hby:n*c.P.bytesOf e≤281474976710656) (hmax:n≤maxLen) (hd:o.dst=some d) (hn:d<c.n) (hf:A.o d=none):ga c A o ((A.aO d (.box (.agg (List.replicate n z)))).put d (.view d [] 1 0 n)):=by
 subst hll;intro a w D E hs;have h1:=bn hs hl;rw[h] at h1;obtain ⟨e1,_⟩:=dp h1;obtain ⟨i,zv,hi,hzz,hzr⟩:=kp hz;have hzc:=ae.length _ _ (hzr w D E);rw[hz1] at hzc;obtain ⟨u,hu1⟩:∃ u,zv.cells = #[u]:=by
  have:zv.cells.size=1:=by simpa using hzc
  obtain ⟨u,hu⟩:=Array.size_eq_one_iff.1 this;exact ⟨u,hu⟩
 have hsz:i.size=1:=by have:=hc1;simp only[Program.cellsOf,hi,Y1,Option.getD_some] at this;exact this
 have hbytes:(i.bytes:Int)*(n:Int)≤281474976710656:=by
  have:c.P.bytesOf e=i.bytes:=by simp[Program.bytesOf,hi]
  rw[this] at hby;have h2:((i.bytes*n:Nat):Int)≤281474976710656:=by rw[Nat.mul_comm] at hby;omega
  rwa [Int.natCast_mul] at h2
 have hrun:=run_make (P:=c.P) w t e i zv hu hi hzz k k n n (by omega) (Int.le_refl _) hbytes (by have h9:=hmax;unfold maxLen at h9;omega);simp only[Int.toNat_natCast,hsz,Nat.mul_one] at hrun;have hmc:(madeCells zv.cells n).toList=List.replicate n u:=by
  rw[hu1];simp only[madeCells];apply List.ext_getElem?;intro j;simp[List.getElem?_replicate];split <;>simp_all[Nat.mod_one]
 have hcells:ae w D E (.agg (List.replicate n z)) (madeCells zv.cells n).toList:=by
  rw[hmc];simp only[ae];refine C3 ?_ n;have:=hzr w D E;rw[hu1] at this;simpa using this
 have h2:=hs.pP (T:=e) (.inl hn) hf hcells;have h3:=h2.put (x:=.view d [] 1 0 n) (v:=.slice (some ⟨w.heap.size,0,none⟩) n n) hn ⟨_,by simp[aW,I.isAgg];rfl,by
  simp only[ae,if_true];refine ⟨w.heap.size,_,0,I.cK (List.replicate n z),rfl,by simp[bL.off],by simp[I.aK,bL.part],by simp[I.cF],by simpa[I.cF] using hmax,by simp[I.cF],fun s hs =>?_⟩;rw[I.cF] at hs;obtain ⟨y,hy,rfl⟩:=zz1.1 hs;rw[I.hE,(List.mem_replicate.1 hy).2,hz1]⟩
 refine ⟨_,.inl ⟨_,?_,D,_,by rw[hd];exact h3⟩⟩;simp only[execOp,ho,e1,Sem.run_bind,hrun,Result.andThen_ok,Sem.run_pure]
end
section
variable {c:cm} {A:ab} {o:Oper} {x:I}
theorem sd{w:World}{D:aD}{E:aN}{s:ByteArray}(h:s.size≤maxLen):aP w D E (.aj s) (.string s):=⟨[.string s],by simp[aW,I.isAgg],by simp only[ae,true_and];exact h⟩
theorem TP{t:TypeId}{y z:Operand}{y' z':au}(ho:o.op=.index t y z)(hu:c.P.underlying t=some .string)(hy:aS c.P 0 y=some y')(hz:aS c.P 0 z=some z')(h:ej .dK [af A y',af A z']=some x):cG c A o x :=
 .same fun a w D E hs=>by
  have h1:=bn hs hy;have h2:=bn hs hz;generalize af A y'=u at *;generalize af A z'=v at *;unfold ej at h;split at h <;>try (rename_i e _;cases e;done)
  all_goals try (rename_i e1 e2;cases e1;done)
  all_goals try (cases h;done)
  rename_i s k i _ e;simp only[Y9,and_true] at e;obtain ⟨rfl,rfl⟩:=e;split at h
  case isFalse=>cases h
  rename_i hi;simp only[t7] at h;obtain ⟨b,hb,rfl⟩:=h;obtain ⟨e1,hs1⟩:=fL h1;obtain ⟨e2,ir⟩:=dp h2;obtain ⟨hlt,hbe⟩:=Z8.1 hb;have hlt':i.toNat<s.size:=by simpa using hlt
  have hget:s[i.toNat]?=some b:=by
   rw[getElem?_pos s i.toNat hlt']
   congr 1
  refine ⟨.int .u8 b.toNat,?_,gS ⟨?_,?_⟩⟩
  ·simp only[execOp,ho,e1,e2];simp[Instr.index,run_underlying hu,asIntOf,hi,hget]
  ·simp[IntKind.min,IntKind.signed]
  ·have:=b.toNat_lt;simp[IntKind.max,IntKind.bits,IntKind.signed];omega
theorem vK{P:Program}{w:World}{lo hi:Bool}{xs:List I}(h:ej (.ss lo hi) xs=some x) :
  ∃ s:ByteArray,xs.head?=some (.aj s)∧∀ (t:TypeId),P.underlying t=some .string→∃ l r:Nat,l≤r∧r≤s.size∧x=.aj (s.extract l r) ∧
   ((lo=true∧hi=true∧∃ k k',xs=[.aj s,.int k l,.int k' r]∧(Instr.sliceAt t (.string s) (some (.int k l)) (some (.int k' r)) none).run P w=.ok (.string (s.extract l r)) w) ∨
    (lo=true∧hi=false∧∃ k,xs=[.aj s,.int k l]∧(Instr.sliceAt t (.string s) (some (.int k l)) none none).run P w=.ok (.string (s.extract l r)) w) ∨
    (lo=false∧hi=true∧∃ k,xs=[.aj s,.int k r]∧(Instr.sliceAt t (.string s) none (some (.int k r)) none).run P w=.ok (.string (s.extract l r)) w)):=by
 unfold ej at h;split at h <;>(try (rename_i e _;cases e;done)) <;>(try (cases h;done)) <;>(try (rename_i e;cases e))
 ·rename_i s k i;split at h
  case isFalse=>cases h
  rename_i hi;simp only[v6] at h;subst h;obtain ⟨n,rfl⟩:=Y0 hi.1;refine ⟨s,rfl,fun t hu=>⟨0,n,Nat.zero_le _,by omega,rfl,.inr (.inr ⟨rfl,rfl,k,rfl,?_⟩)⟩⟩;have:n≤s.size:=by omega
  simp[Instr.sliceAt,Instr.slice,run_underlying hu,Instr.sliceBounds,Instr.sliceBound,asIntOf,this]
 ·rename_i s k i;split at h
  case isFalse=>cases h
  rename_i hi;simp only[v6] at h;subst h;obtain ⟨n,rfl⟩:=Y0 hi.1;refine ⟨s,rfl,fun t hu=>⟨n,s.size,by omega,Z5 _,rfl,.inr (.inl ⟨rfl,rfl,k,rfl,?_⟩)⟩⟩;have:n≤s.size:=by omega
  simp[Instr.sliceAt,Instr.slice,run_underlying hu,Instr.sliceBounds,Instr.sliceBound,asIntOf,this]
 ·rename_i s k i k' j;split at h
  case isFalse=>cases h
  rename_i hi;simp only[v6] at h;subst h;obtain ⟨n,rfl⟩:=Y0 hi.1;obtain ⟨m,rfl⟩:=Y0 (Int.le_trans hi.1 hi.2.1);refine ⟨s,rfl,fun t hu=>⟨n,m,by omega,by omega,rfl,.inl ⟨rfl,rfl,k,k',rfl,?_⟩⟩⟩;have h1:n≤m:=by omega
  have h2:m≤s.size:=by omega
  simp[Instr.sliceAt,Instr.slice,run_underlying hu,Instr.sliceBounds,Instr.sliceBound,asIntOf,h1,h2]
theorem uD{s:ByteArray}{l r:Nat}(h:s.size≤maxLen):(s.extract l r).size≤maxLen:=by
 rw[ByteArray.size_extract];omega
theorem TS{t:TypeId}{y z:Operand}{y' z':au}(ho:o.op=.slice t y none (some z) none)(hu:c.P.underlying t=some .string)(hy:aS c.P 0 y=some y')(hz:aS c.P 0 z=some z')(h:ej (.ss false true) [af A y',af A z']=some x):cG c A o x :=
 .same fun a w D E hs=>by
  have h1:=bn hs hy;have h2:=bn hs hz;obtain ⟨s,e1,hh⟩:=vK (P:=c.P) (w:=w) h;obtain ⟨l,r,_,_,rfl,hc⟩:=hh t hu;simp only[List.head?_cons,v6] at e1;rcases hc with ⟨hc,_⟩ | ⟨hc,_⟩ | ⟨_,_,k,e,hr⟩
  ·cases hc
  ·cases hc
  simp only[Y9,and_true] at e;rw[e.1] at h1;rw[e.2] at h2;obtain ⟨v1,s1⟩:=fL h1;refine ⟨_,?_,sd (uD s1)⟩;simp only[execOp,ho,Y1,zz3,v1,(dp h2).1,Sem.run_bind,hr];rfl
theorem TT{t:TypeId}{y z:Operand}{y' z':au}(ho:o.op=.slice t y (some z) none none)(hu:c.P.underlying t=some .string)(hy:aS c.P 0 y=some y')(hz:aS c.P 0 z=some z')(h:ej (.ss true false) [af A y',af A z']=some x):cG c A o x :=
 .same fun a w D E hs=>by
  have h1:=bn hs hy;have h2:=bn hs hz;obtain ⟨s,e1,hh⟩:=vK (P:=c.P) (w:=w) h;obtain ⟨l,r,_,_,rfl,hc⟩:=hh t hu;simp only[List.head?_cons,v6] at e1;rcases hc with ⟨_,hc,_⟩ | ⟨_,_,k,e,hr⟩ | ⟨hc,_⟩
  ·cases hc
  ·simp only[Y9,and_true] at e;rw[e.1] at h1;rw[e.2] at h2;obtain ⟨v1,s1⟩:=fL h1;refine ⟨_,?_,sd (uD s1)⟩;simp only[execOp,ho,Y1,zz3,v1,(dp h2).1,Sem.run_bind,hr];rfl
  ·cases hc
theorem TR{t:TypeId}{y z q:Operand}{y' z' q':au}(ho:o.op=.slice t y (some z) (some q) none)(hu:c.P.underlying t=some .string)(hy:aS c.P 0 y=some y')(hz:aS c.P 0 z=some z')(hq:aS c.P 0 q=some q')(h:ej (.ss true true) [af A y',af A z',af A q']=some x):cG c A o x :=
 .same fun a w D E hs=>by
  have h1:=bn hs hy;have h2:=bn hs hz;have h3:=bn hs hq;obtain ⟨s,e1,hh⟩:=vK (P:=c.P) (w:=w) h;obtain ⟨l,r,_,_,rfl,hc⟩:=hh t hu;simp only[List.head?_cons,v6] at e1;rcases hc with ⟨_,_,k,k',e,hr⟩ | ⟨_,hc,_⟩ | ⟨hc,_⟩
  ·simp only[Y9,and_true] at e;rw[e.1] at h1;rw[e.2.1] at h2;rw[e.2.2] at h3;obtain ⟨v1,s1⟩:=fL h1;refine ⟨_,?_,sd (uD s1)⟩;simp only[execOp,ho,Y1,zz3,v1,(dp h2).1,(dp h3).1,Sem.run_bind,hr];rfl
  ·cases hc
  ·cases hc
theorem TL{neg:Bool}{t yt:TypeId}{y z:Operand}{y':au}{ms:Array (String×TypeId)}(ho:o.op=.binOp (if neg then .neq else .eql) t y z yt)(hu:c.P.underlying t=some (.interface ms))(hy:aS c.P 0 y=some y')(hz:aS c.P 0 z=some (.c .cN))(h:ej (.mz neg) [af A y']=some x):cG c A o x :=
 .same fun a w D E hs=>by
  have h1:=bn hs hy;have hz':z=.const .nilIface:=by
   cases z with
   |tmp n=>simp[aS] at hz
   |const v =>
    simp only[aS,t7,au.c.injEq] at hz;obtain ⟨u,hu,rfl⟩:=hz;unfold qV at hu
    (repeat' split at hu) <;>first | (cases hu;done) | rfl
   |global g=>simp[aS] at hz
   |func f=>simp only[aS] at hz;split at hz <;>simp at hz
  subst hz';have he:∀ d v,(∃ tt u,v=Value.iface tt u)→(Op.equalIn (d+1) t v .nilIface).run c.P w=.ok false w:=fun d v hv=>by
   obtain ⟨tt,u,rfl⟩:=hv;simp[Op.equalIn,run_underlying hu]
  have hk:a.eval (.const .nilIface)=.nilIface:=rfl;have he':∀ d,(Op.equalIn (d+1) t .nilIface .nilIface).run c.P w=.ok true w:=fun d=>by simp[Op.equalIn,run_underlying hu]
  unfold ej at h;split at h <;>(try (rename_i e _;cases e;done)) <;>(try (cases h;done)) <;>(try (rename_i e1 e2;cases e1;done))
  ·rename_i ng e1 e;cases e1;simp only[Y9,and_true] at e;simp only[v6] at h;subst h;rw[e] at h1;obtain ⟨cs,q1,q2⟩:=h1;simp only[ae] at q2;have hv:a.eval y=.nilIface:=by simpa[aW,I.isAgg,q2] using q1.symm
   refine ⟨.bool (!neg),?_,j4 _⟩;cases neg <;>simp only[execOp,ho,hv,hk,if_true,Z7,if_false,Sem.run_bind,eqGuard] <;>simp[binOp,Op.equal,Op.maxDepth,he']
  ·rename_i ng tt u e1 e;cases e1;simp only[Y9,and_true] at e;simp only[v6] at h;subst h;rw[e] at h1;obtain ⟨cs,q1,q2⟩:=h1;simp only[ae] at q2;obtain ⟨u',cs',q3,q4,q5⟩:=q2;have hv:a.eval y=.iface tt u':=by simpa[aW,I.isAgg,q3] using q1.symm
   refine ⟨.bool neg,?_,j4 _⟩;cases neg <;>simp only[execOp,ho,hv,hk,if_true,Z7,if_false,Sem.run_bind,eqGuard] <;>simp[binOp,Op.equal,Op.maxDepth,he _ _ ⟨tt,u',rfl⟩]
theorem xG{w:World}{D:aD}{E:aN} : ∀ {es:List I} {cs:List Value} {l:List UInt8},me es=some l→az w D E es cs→cs=l.map fun b=>Value.int .u8 b.toNat
 | [],cs,l,h,hr=>by
  simp only[me,v6] at h;subst h;simpa[az] using hr
 |x::xs,cs,l,h,hr=>by
  simp only[me] at h;split at h
  case h_2=>cases h
  rename_i n l' hl;simp only[v6] at h;subst h;simp only[az] at hr;obtain ⟨c1,c2,rfl,h1,h2⟩:=hr;rw[xG hl h2];simp only[ae] at h1;obtain ⟨rfl,h3,h4⟩:=h1;simp only[IntKind.min,IntKind.max,IntKind.bits,IntKind.signed] at h3 h4;obtain ⟨m,rfl⟩:=Y0 (show 0≤n by simpa using h3);have:m<256:=by simp at h4;omega
  simp only[Z4,List.singleton_append,Y9,and_true,Value.int.injEq,true_and,Int.toNat_natCast];have e:(UInt8.ofNat m).toNat=m:=by simp;omega
  rw[e]
theorem Tl{t t' e:TypeId}{y:Operand}{y':au}(ho:o.op=.convert t t' y)(hu:c.P.underlying t=some (.slice e))(he:c.P.underlying e=some (.int .u8))(hd:c.P.underlying t'=some .string)(hy:aS c.P 0 y=some y')(h:kC (cO A 1 (af A y'))=some x):cG c A o x :=
 .same fun a w D E hs=>by
  unfold kC at h;split at h
  case h_2=>cases h
  rename_i es hes;simp only[t7] at h;obtain ⟨l,hl,rfl⟩:=h;obtain ⟨ad,cp,news,hv,h1,h2,h3,h4,h5⟩:=hs.ln (bn hs hy) hes;have hc:=xG hl h3;have hlen:es.length=l.length:=by
   have:=az.length _ _ h3;rw[hc,I.fY _ h4] at this;simpa using this.symm
  refine ⟨.string ⟨l.toArray⟩,?_,sd ?_⟩
  ·simp only[execOp,ho,hv];rcases Nat.eq_zero_or_pos es.length with h0 | h0
   ·obtain rfl:l=[]:=zz9 (by omega);rw[h0];cases ad with
    |none =>
     simp only[Sem.run_bind,run_convert_bytes_nil w t e hu he 0 cp t' hd];rfl
    |some ad =>
     simp only[Sem.run_bind,run_convert_bytes_string w t t' e (some ad) 0 cp hu he hd,run_bytesToString w ad 0 cp [] (by simp[loadCells,loadCellsFrom])];rfl
   ·obtain ⟨b,off,rfl,h6⟩:=h5 (by intro e0;rw[e0] at h0;cases h0);rw[hlen];have key:=run_convert_bytes_arg (P:=c.P) w t e hu he b off l.length cp (l.map fun b=>(b.toNat:Int)) (by simp) (fun i hi=>by
     refine h6 i _ ?_;rw[hc];simp[Y4 hi,List.getD]) t' hd
    simp only[Sem.run_bind,key];have:strOfNums (l.map fun b=>(b.toNat:Int))=⟨l.toArray⟩:=by
     unfold strOfNums
     congr 1
     simp[Function.comp_def]
    rw[this];rfl
  ·show l.toArray.size≤maxLen
   simp;omega
theorem TI{x':I}{y z:Operand}{y' z':au}{tys:Array TypeId}(ho:o.op=.call { callee:=.builtin .min,args := #[y,z],argTypes:=tys })(hy:aS c.P 0 y=some y')(hz:aS c.P 0 z=some z')(h:ej .min2 [af A y',af A z']=some x'):cG c A o x' :=
 .same fun a w D E hs=>by
  have h1:=bn hs hy;have h2:=bn hs hz;generalize af A y'=u at *;generalize af A z'=v at *;unfold ej at h;split at h <;>(try (rename_i e _;cases e;done)) <;>(try (cases h;done)) <;>(try (rename_i e1 e2;cases e1;done))
  rename_i k n k2 m _ e;simp only[Y9,and_true] at e;obtain ⟨rfl,rfl⟩:=e;split at h
  case isFalse=>cases h
  rename_i hk;subst hk;simp only[v6] at h;subst h;obtain ⟨v1,r1⟩:=dp h1;obtain ⟨v2,ir⟩:=dp h2;refine ⟨.int k (if m<n then m else n),by simp[execOp,ho,resolve,invoke,builtin,Builtin.min_,Builtin.min2,v1,v2],gS ?_⟩;split
  ·exact ir
  ·exact r1
theorem TG{t:TypeId}{y:Operand}{y':au}(ho:o.op=.makeInterface t y)(hu:y8 (c.P.underlying t)=true)(hy:aS c.P t y=some y')(h:ej (.lI t) [af A y']=some x):cG c A o x :=
 .same fun a w D E hs=>by
  have h1:=bn hs hy;simp only[ej] at h;split at h
  case isFalse=>cases h
  rename_i hc;simp only[v6] at h;subst h;have hr:(Instr.makeInterface t (a.eval y)).run c.P w=.ok (.iface t (a.eval y)) w:=by
   cases hd:c.P.underlying t with
   |none=>rw[hd] at hu;cases hu
   |some d =>
    rw[hd] at hu;have hr:=run_underlying (w:=w) hd;cases d <;>first | (cases hu;done) | simp[Instr.makeInterface,hr]
  obtain ⟨cs,q1,q2⟩:∃ cs,aW (af A y') (a.eval y) cs∧ae w D E (af A y') cs:=by
   generalize af A y'=z at *;cases z <;>simp only[I.cv,Z7,and_false] at hc <;>simpa only[aP] using h1
  refine ⟨.iface t (a.eval y),?_,[.iface t (a.eval y)],by simp[aW,I.isAgg],?_⟩
  ·simp only[execOp,ho,Sem.run_bind];rw[hr];rfl
  ·simp only[ae];exact ⟨_,cs,rfl,q1,q2⟩
theorem Gu(w:World)(e:TypeId)(s:ByteArray):Lib.bytesWorld w e s=w.drew.alloc (.cells (Lib.bytesCells w e s) e ((Lib.bytesCells w e s).size,(Lib.bytesCells w e s).size+1)):=by
 generalize hc:Lib.bytesCells w e s=cs;have hh:(Lib.bytesWorld w e s).heap=(w.drew.alloc (.cells cs e (cs.size,cs.size+1))).heap:=by
  apply Array.ext_getElem?;intro k;rcases Nat.lt_trichotomy k w.heap.size with h | h | h
  ·exact (Lib.bytesWorld_at_old w e s k h).trans (Below.heap_alloc w.drew (.cells cs e (cs.size,cs.size+1)) k h).symm
  ·subst h;rw[Lib.bytesWorld_at_new,hc];exact (heap_alloc_new w.drew _).symm
  ·rw[Array.getElem?_eq_none (by rw[Lib.bytesWorld_size];omega),Array.getElem?_eq_none (by rw[World.size_alloc];show w.heap.size+1≤k;omega)]
 have hf:∀ (u:World) (p:Addr) (n:Nat),(u.freeze p n).tape=u.tape∧(u.freeze p n).drawn=u.drawn∧(u.freeze p n).os=u.os∧(u.freeze p n).output=u.output:=fun u p n=>by
  unfold World.freeze;split <;>exact ⟨rfl,rfl,rfl,rfl⟩
 obtain ⟨f1,f2,f3,f4⟩:=hf (w.drew.alloc (.cells (Lib.bytesCells w e s) e)) ⟨w.heap.size,(Lib.bytesCells w e s).size,none⟩ 1;have h1:(Lib.bytesWorld w e s).tape=(w.drew.alloc (.cells cs e (cs.size,cs.size+1))).tape:=f1;have h2:(Lib.bytesWorld w e s).drawn=(w.drew.alloc (.cells cs e (cs.size,cs.size+1))).drawn:=f2;have h3:(Lib.bytesWorld w e s).os=(w.drew.alloc (.cells cs e (cs.size,cs.size+1))).os:=f3;have h4:(Lib.bytesWorld w e s).output=(w.drew.alloc (.cells cs e (cs.size,cs.size+1))).output:=f4;revert hh h1 h2 h3 h4;generalize Lib.bytesWorld w e s=a;generalize w.drew.alloc (.cells cs e (cs.size,cs.size+1))=b;obtain ⟨_,_,_,_,_⟩:=a;obtain ⟨_,_,_,_,_⟩:=b;rintro rfl rfl rfl rfl rfl;rfl
theorem Xj{t t' e:TypeId}{y:Operand}{y':au}{ys:List I}{d:Nat}(ho:o.op=.convert t t' y)(hu:c.P.underlying t=some .string)(ht':c.P.underlying t'=some (.slice e))(he:c.P.underlying e=some (.int .u8))(hy:aS c.P 0 y=some y')(h:kZ (af A y')=some ys)
  (hd:o.dst=some d) (hdn:d<c.n) (hf:A.o d=none) {a:Act} {w:World} {D:aD} {E:aN} (hsim:aL c A a w D E) :
  ∃ v w' m,(execOp a.eval o).run c.P w=.ok (.value v) w'∧ys.length+m≤maxLen∧bA c ((A.aO d (.box (.agg (ys++List.replicate m (.int .u8 0))))).aM o.dst (.view d [] 1 0 ys.length)) (a.put o.dst v) w':=by
 have h1:=bn hsim hy;unfold kZ at h;split at h
 case h_2=>cases h
 rename_i s hs';simp only[v6] at h;rw[hs'] at h1;obtain ⟨hv,hsz⟩:=fL h1;have hge:=grownCap_ge w s.size 0 e;have hle:=grownCap_le_maxLen w s.size 0 e hsz;have hyl:ys.length=s.size:=by rw[←h];simp
 obtain ⟨m,hm⟩:∃ m,m=grownCap w s.size 0 e-s.size:=⟨_,rfl⟩
 have hcl:(Lib.bytesCells w e s).toList=(s.data.toList.map fun b=>Value.int .u8 (b.toNat:Int))++List.replicate m (.int .u8 0):=by
  rw[hm];simp[Lib.bytesCells]
 have hin:∀ b:UInt8,ae w.drew D E (.int .u8 (b.toNat:Int)) [.int .u8 (b.toNat:Int)]:=fun b=>by
  have:=b.toNat_lt;simp only[ae,true_and];simp[IntKind.min,IntKind.max,IntKind.bits,IntKind.signed];omega
 have hr1:az w.drew D E ys (s.data.toList.map fun b=>Value.int .u8 (b.toNat:Int)):=by
  rw[←h];generalize s.data.toList=l
  induction l with
  |nil=>simp[az]
  |cons b l ih =>
   simp only[Z4,az];exact ⟨[.int .u8 b.toNat],_,rfl,hin b,ih⟩
 have hr2:∀ k:Nat,az w.drew D E (List.replicate k (.int .u8 0)) (List.replicate k (.int .u8 0)):=fun k=>by
  induction k with
  |zero=>simp[az]
  |succ k ih =>
   simp only[List.replicate_succ,az];exact ⟨[.int .u8 0],_,rfl,hin 0,ih⟩
 have hrc:ae w.drew D E (.agg (ys++List.replicate m (.int .u8 0))) (Lib.bytesCells w e s).toList:=by
  rw[hcl];simp only[ae];exact iK _ _ _ _ hr1 (hr2 m)
 have hsim':aL c A a w.drew D E:=hsim.grow ⟨rfl,rfl,rfl,Z5 _,fun _ _=>rfl⟩ (fun _ _ h=>h) (fun _ _ h _=>h) (fun b o h=>hsim.cL b o h);have h2:aL c (A.aO d (.box (.agg (ys++List.replicate m (.int .u8 0))))) a (w.drew.alloc (.cells (Lib.bytesCells w e s) e ((Lib.bytesCells w e s).size,(Lib.bytesCells w e s).size+1))) D _ :=
  hsim'.si (e:=.aB w.drew.heap.size (I.agg (ys++List.replicate m (.int .u8 0))).aK) (.inl hdn) hf rfl fun hl hno=>⟨w.drew.heap.size,_,e,by simp,.inl hsim'.df.size,⟨_,heap_alloc_new w.drew _,.inr ⟨rfl,by
   simp only[I.aK,bL.flat,I.cF,Y5,zz1];rintro s' ⟨y,hy,rfl⟩;rcases Y8.1 hy with hy | hy
   ·rw[←h] at hy;obtain ⟨b,_,rfl⟩:=zz1.1 hy;rfl
   ·rw[List.eq_of_mem_replicate hy];rfl⟩⟩,ae.later hl _ _ hrc,hno⟩
 have hlen:(ys++List.replicate m (I.int .u8 0)).length=ys.length+m:=by simp
 have hall:∀ y∈ys++List.replicate m (I.int .u8 0),y.size=1:=by
  intro y hy;rcases Y8.1 hy with hy | hy
  ·rw[←h] at hy;obtain ⟨b,_,rfl⟩:=zz1.1 hy;rfl
  ·rw[List.eq_of_mem_replicate hy];rfl
 have h3:=h2.put (d:=d) (x:=.view d [] 1 0 ys.length) (v:=.slice (some ⟨w.heap.size,0,none⟩) s.size (grownCap w s.size 0 e)) hdn ⟨_,by simp[aW,I.isAgg];rfl,by
  simp only[ae,if_true];refine ⟨w.heap.size,(I.agg (ys++List.replicate m (.int .u8 0))).aK,0,I.cK (ys++List.replicate m (.int .u8 0)),rfl,by cases (I.agg (ys++List.replicate m (.int .u8 0))).aK <;>simp[bL.off],by simp only[I.aK,bL.part],?_,?_,?_,?_⟩
  ·rw[I.cF,Z2,hlen,hm];simp;omega
  ·rw[I.cF,Z2,hlen];omega
  ·rw[I.cF,Z2,hlen];omega
  ·rw[I.cF];intro s hs;obtain ⟨f,hf,rfl⟩:=zz1.1 hs;rw[I.hE];exact hall f hf⟩
 refine ⟨.slice (some ⟨w.heap.size,0,none⟩) s.size (grownCap w s.size 0 e),Lib.bytesWorld w e s,m,?_,by omega,?_⟩
 ·simp only[execOp,ho,hv,Sem.run_bind,Lib.run_convert_string_bytes w t t' e s hu ht' he];rfl
 ·rw[hd,Gu];exact ⟨D,_,h3⟩
end
end Go.Abs
namespace Go.Abs
open Go Go.RowKit
mutual
/-- Values that lead to no memory. -/
def I.flat:I→Bool
 | .agg fs | .tuple fs=>I.nN fs
 | .bool _ | .int _ _ | .aj _ | .nilp | .c8 | .cN | .any | .raw _ | .undef | .cU=>true
 |_=>false
def I.nN:List I→Bool
 | []=>true
 |x::xs=>x.flat&&I.nN xs
end
mutual
theorem ae.flat{w w':World}{D D':aD}{E E':aN} : ∀ (x:I) (cs:List Value),x.flat=true→ae w D E x cs→ae w' D' E' x cs
 | .agg fs,cs,hf,hr=>by simp only[ae,I.flat] at *;exact az.flat fs cs hf hr
 | .bool b,cs,_,hr=>by simpa only[ae] using hr
 | .int k n,cs,_,hr=>by simpa only[ae] using hr
 | .aj s,cs,_,hr=>by simpa only[ae] using hr
 | .nilp,cs,_,hr=>by simpa only[ae] using hr
 | .c8,cs,_,hr=>by simpa only[ae] using hr
 | .cN,cs,_,hr | .any,cs,_,hr=>by simpa only[ae] using hr
 | .raw _,cs,_,hr=>by simpa only[ae] using hr
 | .undef,_,_,hr=>by simp only[ae] at hr
 | .cU,_,_,hr=>by simp only[ae] at hr
 | .tuple _,_,_,hr=>by simp only[ae] at hr
 | .nils _,_,hf,_ | .c0 _,_,hf,_ | .slice _ _,_,hf,_ | .ref _,_,hf,_ | .func _ _,_,hf,_ | .iface _ _,_,hf,_ | .ptr _ _,_,hf,_ | .own _ _,_,hf,_ | .view _ _ _ _ _,_,hf,_ | .mref _,_,hf,_ | .cR _,_,hf,_ | .cW _ _,_,hf,_=>by simp[I.flat] at hf
theorem az.flat{w w':World}{D D':aD}{E E':aN} : ∀ (xs:List I) (cs:List Value),I.nN xs=true→az w D E xs cs→az w' D' E' xs cs
 | [],cs,_,hr=>by simpa only[az] using hr
 |x::xs,cs,hf,hr=>by
  simp only[az,I.nN,Z0] at *;obtain ⟨c1,c2,h1,h2,h3⟩:=hr;exact ⟨c1,c2,h1,ae.flat x c1 hf.1 h2,az.flat xs c2 hf.2 h3⟩
end
theorem ao.flat{w w':World}{D D':aD}{E E':aN} : ∀ (xs:List I) (vs:List Value),I.nN xs=true→ao w D E xs vs→ao w' D' E' xs vs
 | [],vs,_,hr=>by simpa only[ao] using hr
 |x::xs,vs,hf,hr=>by
  simp only[ao,I.nN,Z0] at *;obtain ⟨v,rest,cs,h1,h2,h3,h4⟩:=hr;exact ⟨v,rest,cs,h1,h2,ae.flat x cs hf.1 h3,ao.flat xs rest hf.2 h4⟩
theorem aP.flat{w w':World}{D D':aD}{E E':aN}{x:I}{v:Value}(hf:x.flat=true)(hr:aP w D E x v):aP w' D' E' x v:=by
 cases x <;>simp only[aP] at * <;>first
  |exact hr
  |(obtain ⟨vs,h1,h2⟩:=hr;exact ⟨vs,h1,ao.flat _ _ (by simpa[I.flat] using hf) h2⟩)
  |(obtain ⟨cs,h1,h2⟩:=hr;exact ⟨cs,h1,ae.flat _ _ hf h2⟩)
def cu:aN:=fun _=>none
def aQ(P:Program)(f:FuncId)(args:List I)(r:I):Prop :=
 dO P f=true∧∀ (w:World) (D:aD) (vs:List Value),eA P w (fun _=>False)→(∀ b o,D b o→b<w.heap.size)→ao w D cu args vs →
  Calls P f vs.toArray w fun e w'=>∃ v D',e=.returned v∧aP w' D' cu r v∧Below w.heap.size w w'∧(∀ b o,D' b o→b<w'.heap.size)∧∀ b o,D' b o→b<w.heap.size→D b o
def eL(P:Program)(f:FuncId)(args:List I)(os:List (Nat×ai))(post:b6):Prop :=
 dO P f=true∧lZ (Calls P f) (fun w _ E=>eA P w (bQ E)) args os post
def bP(p:Nat→Bool):List (Nat×ai)→Prop
 | []=>True
 |(_,v)::r=>v.only p=true∧bP p r
def dR(ns:List Nat)(os:List (Nat×ai)):List (Nat×ai):=os.filter fun q => !ns.contains q.1
def iX(ns:List Nat)(ts:List (Nat×I)):List (Nat×I):=ts.map fun q=>(q.1,if q.2.only (fun n => !ns.contains n) then q.2 else .cU)
def j0(ns:List Nat)(os:List (Nat×ai)):List (Nat×ai):=os.filter fun q=>ns.contains q.1
def im(ρ:List (Nat×Nat))(os:List (Nat×ai)):List Nat:=os.map fun q=>bo ρ q.1
def fN(aB:Bool)(A0:ab)(ρ:List (Nat×Nat))(os:List (Nat×ai)):List I→List I→Prop
 | [],[]=>True
 |x::xs,c::cs=>((x=c.aR (bo ρ)∧c.only (aC os)=true∧c.cv=true)∨aZ aB A0 x=some c)∧fN aB A0 ρ os xs cs
 |_,_=>False
structure ar where
 dst:Option Nat
 op:bq
 guard:Option (Nat×Bool)
 deriving Inhabited
inductive bV where
 |done (A:ab)
 |fail
 |call (f:FuncId) (avs:List I) (a1 a2:Option (List I)) (dst:Option Nat) (rest:List ar) (A:ab)
 |kH (v:Value) (avs:List I) (dst:Option Nat) (rest:List ar) (A:ab)
 |gv (f:FuncId) (avs:List I) (dst:Option Nat) (rest:List ar) (A:ab)
 |any (p:Nat→Prop) (k:Nat→bV)
def b8(x:Option I)(k:I→bV):bV:=match x with
 |some v=>k v
 |none=>.fail
def vD(s:Option Nat)(v old:I):Prop:=v.cv=true∧bS s v=true∧v.aK=old.aK
def vA(e esz bytes l sz:Nat)(ys:List I)(T sz':Nat)(es:List I):Prop:=l=es.length∧sz=esz∧T=e∧sz'=esz∧ys≠[]∧es.length+ys.length≤maxLen∧(es.length+ys.length)*bytes≤140737488355328
def pz(ys:List I):List Int:=ys.filterMap fun y=>match y with | .int .i64 i=>some i | _=>none
def vB(e esz bytes l:Nat)(ys:List I)(T:Nat)(xs:List Int)(z:I):Prop:=l=xs.length∧esz=1∧T=e∧z=.int .i64 0∧ys=(pz ys).map (.int .i64)∧ys≠[]∧xs.length+ys.length≤maxLen∧(xs.length+ys.length)*bytes≤140737488355328
def iN:I→Bool
 | .slice _ es=>es.isEmpty
 | .c0 _=>true
 |_=>false
def jW(f:Nat):Nat:=if f<1000000 then f else f-1000000
def gz(f:Nat)(args caps:List I):List I:=if f<1000000 then args++caps else caps++args
theorem uF{f:Nat}(h:f<1000000):jW f=f:=by simp only[jW,if_pos h]
theorem uE{f:Nat}(h:f<1000000)(args caps:List I):gz f args caps=args++caps:=by simp only[gz,if_pos h]
theorem zI(g:Nat):jW (g+1000000)=g:=by simp only[jW,if_neg (show ¬ g+1000000<1000000 by omega),Nat.add_sub_cancel]
theorem zH(g:Nat)(args caps:List I):gz (g+1000000) args caps=caps++args:=by simp only[gz,if_neg (show ¬ g+1000000<1000000 by omega)]
open Classical in
noncomputable def eN(A:ab)(dst:Option Nat)(esz bytes:Nat)(z:I)(es ys:List I)(k:ab→bV):bV :=
 match dst with
 |some d=>match A.o d with
  |none=>if (es.length+ys.length)*bytes≤140737488355328∧es.length+ys.length≤maxLen then
    .any (fun m=>es.length+ys.length+m≤maxLen) (fun m=>k ((A.aO d (.box (.agg (es++(ys++List.replicate m z))))).aM dst (.view d [] esz 0 (es.length+ys.length)))) else .fail
  |some _=>.fail
 |none=>.fail
open Classical in
noncomputable def eb(A:ab)(dst:Option Nat)(esz bytes:Nat)(z:I)(s:I):Option (List I)→Option (List I)→(ab→bV)→bV
 |some es,some ys,k=>if ys=[] then k (A.aM dst s) else match s with
  | .nils _=>eN A dst esz bytes z es ys k
  | .c0 _=>eN A dst esz bytes z es ys k
  | .view n p sz lo l=>match A.o n with
   |some (.box b)=>match b.at p with
    |some (.agg fs)=>if lo+l+ys.length≤fs.length then
      (if sz=esz∧I.cK ys=I.cK ((fs.drop (lo+l)).take ys.length) then k ((A.aO n (.box (gZ b p (lo+l) fs ys))).aM dst (.view n p esz lo (l+ys.length))) else .fail)
      else eN A dst esz bytes z es ys k
    |_=>.fail
   |_=>.fail
  |_=>.fail
 |_,_,_=>.fail
open Classical in
noncomputable def oS(A:ab)(dst:Option Nat)(esz bytes:Nat)(z:I)(m:Nat)(s:I):Option (List I)→(ab→bV)→bV
 |some es,k=>match s with
  | .view n p _ lo l=>match A.o n with
   |some (.box b)=>match b.at p with
    |some (.agg fs)=>if 0<m∧fs.length<lo+l+m then eN A dst esz bytes z es (List.replicate m z) k else .fail
    |_=>.fail
   |_=>.fail
  |_=>.fail
 |_,_=>.fail
open Classical in
noncomputable def nC(A:ab)(esz:Nat)(z:I)(k:ab→bV):I→bV
 | .view n p sz lo l=>match A.o n with
  |some (.box b)=>match b.at p with
   |some (.agg fs)=>if sz=esz∧I.cK (List.replicate l z)=I.cK ((fs.drop lo).take l) then k (A.aO n (.box (gZ b p lo fs (List.replicate l z)))) else .fail
   |_=>.fail
  |_=>.fail
 | .nils _=>k A
 | .c0 _=>k A
 |_=>.fail
open Classical in
noncomputable def jS(A:ab)(dst:Option Nat)(esz:Nat)(k:ab→bV):I→Option (List I)→bV
 | .view n p sz lo l,some ys=>match A.o n with
  |some (.box b)=>match b.at p with
   |some (.agg fs)=>if sz=esz∧I.cK (ys.take (min ys.length l))=I.cK ((fs.drop lo).take (min ys.length l)) then k ((A.aO n (.box (gZ b p lo fs (ys.take (min ys.length l))))).aM dst (.int .i64 (min ys.length l:Nat))) else .fail
   |_=>.fail
  |_=>.fail
 | .c0 _,some _=>k (A.aM dst (.int .i64 0))
 |_,_=>.fail
def gY(A:ab)(dst:Option Nat)(k:ab→bV):Option (List I)→bV
 |some ys=>match dst with
  |some d=>match A.o d with
   |none=>.any (fun m=>ys.length+m≤maxLen) fun m=>k ((A.aO d (.box (.agg (ys++List.replicate m (.int .u8 0))))).aM dst (.view d [] 1 0 ys.length))
   |some _=>.fail
  |none=>.fail
 |none=>.fail
open Classical in
noncomputable def aU(A:ab)(dst:Option Nat)(op:bq)(rest:List ar)(k:ab→bV):bV :=
 match op with
 | .alloc z=>match dst with
  |some d=>match A.o d with
   |none=>k ((A.aO d (.box z)).put d (.ptr d []))
   |some _=>.fail
  |none=>.fail
 | .box x=>match dst with
  |some d=>match A.o d with
   |none=>if (af A x).cv then k ((A.aO d (.box (af A x))).put d (.ptr d [])) else .fail
   |some _=>.fail
  |none=>.fail
 | .aV s x v=>match dst with
  |none=>match af A x with
   | .ptr n p=>match A.o n with
    |some (.box b)=>match b.at p with
     |some old=>if vD s (af A v) old then k (A.aO n (.box (b.dz p (af A v)))) else .fail
     |none=>.fail
    |_=>.fail
   |_=>.fail
  |some _=>.fail
 | .dM e esz bytes z s x=>match af A s with
  | .own n l=>match af A x with
   | .slice sz ys=>match A.o n with
    |some (.bE T sz' es)=>if vA e esz bytes l sz ys T sz' es then k ((A.aO n (.bE e esz (es++ys))).aM dst (.own n (es.length+ys.length))) else .fail
    |some (.dL T xs)=>if vB e esz bytes l ys T xs z then k ((A.aO n (.dL e (xs++pz ys))).aM dst (.own n (xs.length+ys.length))) else .fail
    |_=>.fail
   |_=>.fail
  |s'=>eb A dst esz bytes z s' (cO A esz s') (cO A esz (af A x)) k
 | .jj _ esz bytes z s n=>match af A n with
  | .int _ m=>oS A dst esz bytes z m.toNat (af A s) (cO A esz (af A s)) k
  |_=>.fail
 | .nilS neg x=>if iN (af A x) then .any (fun m=>m<2) (fun m=>k (A.aM dst (.bool (m==0)))) else b8 (aT A (.nilS neg x)) fun v=>k (A.aM dst v)
 | .iV esz z x=>match dst with
  |none=>nC A esz z k (af A x)
  |some _=>.fail
 | .fP esz x y=>jS A dst esz k (af A x) (jK A esz (af A y))
 | .ef x=>gY A dst k (kZ (af A x))
 | .call f args=>.call f (args.map (af A)) (bC true A (args.map (af A))) (bC false A (args.map (af A))) dst rest A
 | .eX x args=>match af A x with
  | .func f caps=>.call (jW f) (gz f (args.map (af A)) caps) (bC true A (gz f (args.map (af A)) caps)) (bC false A (gz f (args.map (af A)) caps)) dst rest A
  | .raw v=>.kH v (args.map (af A)) dst rest A
  |_=>.fail
 | .gv f args=>.gv f (args.map (af A)) dst rest A
 | .j5=>match dst with
  |some d=>match A.o d with
   |none=>k ((A.aO d (.b7 [] [])).put d (.mref d))
   |some _=>.fail
  |none=>.fail
 | .jd _ bytes z n=>match dst with
  |some d=>match A.o d with
   |none=>match af A n with
    | .int _ n=>if 0≤n∧n.toNat*bytes≤281474976710656∧n.toNat≤maxLen then k ((A.aO d (.box (.agg (List.replicate n.toNat z)))).put d (.view d [] 1 0 n.toNat)) else .fail
    |_=>.fail
   |some _=>.fail
  |none=>.fail
 | .jA ty m key v=>match dst with
  |none=>match af A m with
   | .mref n=>match A.o n with
    |some (.b7 ks vs)=>match pO ty (af A key) (af A v) ks vs with
     |some (ks',vs')=>k (A.aO n (.b7 ks' vs'))
     |none=>.fail
    |_=>.fail
   |_=>.fail
  |some _=>.fail
 | .kR ty m key=>match dst with
  |none=>match af A m with
   | .mref n=>match A.o n with
    |some (.b7 ks vs)=>match vk ty (af A key) ks vs with
     |some (ks',vs')=>k (A.aO n (.b7 ks' vs'))
     |none=>.fail
    |_=>.fail
   |_=>.fail
  |some _=>.fail
 | .jI x=>match dst with
  |some d=>match A.o d with
   |none=>match af A x with
    | .cW ks vs=>k ((A.aO d (.it ks vs (List.range ks.length) none)).put d (.cR d))
    |_=>.fail
   |some _=>.fail
  |none=>.fail
 | .jB x=>match af A x with
  | .cR n=>match A.o n with
   |some (.it ks vs left cur)=>if left=[] then k (A.aM dst (.tuple [.bool false])) else
     .any (fun i=>i∈left) fun i=>match ks[i]?,vs[i]? with
      |some kk,some x=>k ((A.aO n (.it ks vs (left.filter (· != i)) (some i))).aM dst (.tuple [.bool true,kk,x]))
      |_,_=>.fail
   |_=>.fail
  |_=>.fail
 |op=>b8 (aT A op) fun v=>k (A.aM dst v)
noncomputable def al:List ar→ab→bV
 | [],A=>.done A
 |g::rest,A=>match g.guard with
  |none=>aU A g.dst g.op rest (al rest)
  |some (t,b)=>match A.t t with
   | .bool b'=>if b'=b then aU A g.dst g.op rest (al rest) else al rest (A.aM g.dst .undef)
   | .undef=>al rest (A.aM g.dst .undef)
   |_=>.fail
def xi(P:Program)(A:ab)(f:FuncId)(avs:List I)(r:I):Prop :=
 ∀ (c:cm) (a:Act) (w:World) (D:aD) (E:aN) (vs:List Value),c.P=P→aL c A a w D E→dY (aP w D E) avs vs→∃ v,(callFunc f vs.toArray).run P w=.ok (.value v) w∧aP w D E r v
inductive aX (P:Program) (Y:Value→List I→List (Nat×ai)→b6→Prop) (dr:Bool) (K:ab→Prop):bV→Prop where
 |done {A:ab} : K A→aX P Y dr K (.done A)
 |flat {f:FuncId} {avs cargs:List I} {a2:Option (List I)} {dst:Option Nat} {rest:List ar} {A:ab} (r:I):aQ P f cargs r→r.flat=true→aX P Y dr K (al rest (A.aM dst r))→aX P Y dr K (.call f avs (some cargs) a2 dst rest A)
 |lead {f:FuncId} {avs cargs:List I} {a1:Option (List I)} {dst:Option Nat} {rest:List ar} {A:ab} (r:I):aQ P f cargs r→aX P Y dr K (al rest (A.aM dst r))→aX P Y dr K (.call f avs a1 (some cargs) dst rest A)
 |js {f:FuncId} {avs cargs:List I} {a1 a2:Option (List I)} {dst:Option Nat} {rest:List ar} {ts:List (Nat×I)} {os0:List (Nat×ai)} (ns:List Nat) (r:I):dr=false→aQ P f cargs r→bC true (aw ts (j0 ns os0)) avs=some cargs →
   bP (fun n => !ns.contains n) (dR ns os0)→aX P Y dr K (al rest ((aw (iX ns ts) (dR ns os0)).aM dst r))→aX P Y dr K (.call f avs a1 a2 dst rest (aw ts os0))
 |bz {f:FuncId} {avs:List I} {a1 a2:Option (List I)} {dst:Option Nat} {rest:List ar} {ts:List (Nat×I)} {os0:List (Nat×ai)} (aB:Bool) (ρ:List (Nat×Nat)) (os:List (Nat×ai)) (cargs:List I) (post:b6):dr=false→eL P f cargs os post →
   eM ρ os os0→fN aB (aw ts (dR (im ρ os) os0)) ρ os avs cargs→(∀ r os',post r os'→dG aB ρ os os0 r os') →
   (∀ r os',post r os'→aX P Y dr K (al rest ((aw ts (cY ρ os'++os0)).aM dst (r.aR (bo ρ)))))→aX P Y dr K (.call f avs a1 a2 dst rest (aw ts os0))
 |th {v:Value} {avs:List I} {dst:Option Nat} {rest:List ar} {ts:List (Nat×I)} {os0:List (Nat×ai)} (os:List (Nat×ai)) (cargs:List I) (post:b6):dr=false→Y v cargs os post →
   eM [] os os0→fN false (aw ts (dR (im [] os) os0)) [] os avs cargs→(∀ r os',post r os'→dG false [] os os0 r os') →
   (∀ r os',post r os'→aX P Y dr K (al rest ((aw ts (cY [] os'++os0)).aM dst (r.aR (bo [])))))→aX P Y dr K (.kH v avs dst rest (aw ts os0))
 |ext {f:FuncId} {avs:List I} {dst:Option Nat} {rest:List ar} {A:ab} (r:I):dr=false→xi P A f avs r→aX P Y dr K (al rest (A.aM dst r))→aX P Y dr K (.gv f avs dst rest A)
 |any {p:Nat→Prop} {k:Nat→bV} : dr=false→(∀ m,p m→aX P Y dr K (k m))→aX P Y dr K (.any p k)
def zo(n:Nat):Option Nat→Bool
 |some d=>decide (d<n)
 |none=>true
def kG(P:Program)(n:Nat)(bg:Array Oper)(o:Oper):Option ar :=
 match cA P o with
 |none=>none
 |some g=>if zo n o.dst=true then
   match o.guard with
   |none=>some ⟨o.dst,g,none⟩
   |some (j,b)=>match (bg[j]?).bind (·.dst) with
    |some t=>some ⟨o.dst,g,some (t,b)⟩
    |none=>none
  else none
def fi(P:Program)(n:Nat)(bg:Array Oper):List Oper→Option (List ar)
 | []=>some []
 |o::l=>match kG P n bg o,fi P n bg l with
  |some g,some gs=>some (g::gs)
  |_,_=>none
end Go.Abs
namespace Go.Abs
open Go Go.RowKit
section
variable {c:cm} {A:ab} {o:Oper} {x:I}
theorem BZ{g:bq}(hg:cA c.P o=some g)(h:aT A g=some x):cG c A o x:=by
 unfold cA at hg;split at hg
 -- move
 ·rename_i y ho;simp only[t7] at hg;obtain ⟨z,hz,rfl⟩:=hg;simp only[aT,v6] at h;subst h;exact An (.inl ho) hz
 ·rename_i y ho;simp only[t7] at hg;obtain ⟨z,hz,rfl⟩:=hg;simp only[aT,v6] at h;subst h;exact An (.inr ho) hz
 -- pick
 ·rename_i q y z ho;split at hg
  ·rename_i q' y' z' h1 h2 h3;simp only[v6] at hg;subst hg;simp only[aT] at h;split at h
   ·rename_i t ht;simp only[v6] at h;subst h;exact TN ho h1 h2 h3 ht
   ·cases h
  ·cases hg
 -- binOp
 ·rename_i op t y z yt ho;split at hg
  ·rename_i k y' z' hu h1 h2;simp only[v6] at hg;subst hg;exact Al ho h1 h2 h
  ·rename_i y' z' hu h1 h2;simp only[v6] at hg;subst hg;exact Al ho h1 h2 h
  ·rename_i e y' z' hu h1 h2;split at hg
   ·rename_i s;split at hg
    ·rename_i hop;simp only[v6] at hg;subst hg;have ho':o.op=.binOp (if (op==.neq)=true then .neq else .eql) t y z yt:=by
      rcases hop with rfl | rfl <;>simpa using ho
     simp only[aT] at h;split at h
     ·rename_i s' hs';simp only[v6] at h;subst h;have:=uY (r:=true) ho' hu h1 h2 (.inl ⟨s',hs',rfl⟩);rw[show (if (op==BinOp.neq)=true then !true else true) = !(op==BinOp.neq) from by cases (op==BinOp.neq) <;>rfl] at this;exact this
     ·rename_i s' es hs';split at h
      ·cases h
      ·rename_i hne;simp only[v6] at h;subst h;have:=uY (r:=false) ho' hu h1 h2 (.inr (.inl ⟨s',es,hs',by simpa using hne,rfl⟩));rw[show (if (op==BinOp.neq)=true then !false else false)=(op==BinOp.neq) from by cases (op==BinOp.neq) <;>rfl] at this;exact this
     ·rename_i n p s' lo k hs';simp only[v6] at h;subst h;have:=uY (r:=false) ho' hu h1 h2 (.inr (.inr ⟨n,p,s',lo,k,hs',rfl⟩));rw[show (if (op==BinOp.neq)=true then !false else false)=(op==BinOp.neq) from by cases (op==BinOp.neq) <;>rfl] at this;exact this
     ·cases h
    ·cases hg
   ·cases hg
  ·rename_i e y' z' hu h1 h2;split at hg
   ·rename_i hop;simp only[v6] at hg;subst hg;have ho':o.op=.binOp (if (op==.neq)=true then .neq else .eql) t y z yt:=by
     rcases hop with rfl | rfl <;>simpa using ho
    simp only[aT] at h;cases hb1:gR (af A y') with
    |none=>rw[hb1] at h;cases h
    |some b1=>cases hb2:gR (af A z') with
     |none=>rw[hb1,hb2] at h;cases h
     |some b2 =>
      rw[hb1,hb2] at h;simp only[lN] at h;split at h
      ·rename_i hor;simp only[v6] at h;subst h;exact TO ho' hu h1 h2 hb1 hb2 (by simpa using hor)
      ·cases h
   ·cases hg
  ·rename_i ms y' z' hu h1 h2;split at hg
   ·split at hg
    ·rename_i hop;simp only[v6] at hg;subst hg;have ho':o.op=.binOp (if (op==.neq)=true then .neq else .eql) t y z yt:=by
      rcases hop with rfl | rfl <;>simpa using ho
     exact TL ho' hu h1 h2 (by simpa only[aT,Z4,zz0] using h)
    ·cases hg
   ·cases hg
  ·rename_i d y' z' _ _ _ _ _ hu h1 h2;split at hg
   ·rename_i hop;simp only[t7] at hg;obtain ⟨ty,hty,rfl⟩:=hg;have ho':o.op=.binOp (if (op==.neq)=true then .neq else .eql) t y z yt:=by
     rcases hop.1 with rfl | rfl <;>simpa using ho
    simp only[aT,t7] at h;obtain ⟨r,hr,rfl⟩:=h;exact Ts ho' h1 h2 hop.2 hty hr
   ·cases hg
  ·cases hg
 -- unOp
 ·rename_i op t y ho;simp only[t7] at hg;obtain ⟨z,hz,rfl⟩:=hg;simp only[aT] at h;split at h
  ·rename_i b hb;simp only[v6] at h;subst h;exact TM ho hz hb
  ·rename_i k n hb;simp only[v6] at h;subst h;exact TK ho hz hb
  ·rename_i k n hb;simp only[v6] at h;subst h;exact Tq ho hz hb
  ·cases h
 -- nilCheck
 ·rename_i y ho;simp only[t7] at hg;obtain ⟨z,hz,rfl⟩:=hg;simp only[aT] at h;cases hy:af A z <;>rw[hy] at h <;>simp only[my,v6] at h <;>try (cases h;done)
  ·subst h;rw[←hy];exact Ao ho hz (.inr ⟨_,hy⟩)
  ·subst h;rw[←hy];exact Ao ho hz (.inl ⟨_,_,hy⟩)
 -- makeMap
 ·simp only[v6] at hg;subst hg;simp[aT] at h
 -- lookup
 ·rename_i t m k ok ho;split at hg
  ·rename_i kt et m' k' hu h1 h2;split at hg
   ·rename_i ty z hk hz;split at hg
    ·rename_i hp;simp only[v6] at hg;subst hg;simp only[aT] at h;cases hm:fH A (af A m') with
     |none=>rw[hm] at h;cases h
     |some q =>
      obtain ⟨ks,vs⟩:=q;rw[hm] at h;simp only[pJ] at h;cases hl:pL ty z (af A k') ks vs with
      |none=>rw[hl] at h;cases h
      |some q =>
       obtain ⟨v,b⟩:=q;rw[hl] at h;simp only[pK,v6] at h;subst h;exact TE ho hu hk hz hp h1 h2 hm hl
    ·cases hg
   ·cases hg
  ·cases hg
 -- mapUpdate,insert
 iterate 2
  ·split at hg
   ·split at hg
    ·simp only[v6] at hg;subst hg;simp[aT] at h
    ·cases hg
   ·cases hg
 -- makeSlice
 ·split at hg
  ·split at hg
   ·split at hg
    ·simp only[v6] at hg;subst hg;simp[aT] at h
    ·cases hg
   ·cases hg
  ·cases hg
 -- range
 ·split at hg
  ·simp only[t7] at hg;obtain ⟨z,_,rfl⟩:=hg;simp[aT] at h
  ·cases hg
 -- next
 ·simp only[t7] at hg;obtain ⟨z,_,rfl⟩:=hg;simp[aT] at h
 -- entry
 ·rename_i y ho;simp only[t7] at hg;obtain ⟨z,hz,rfl⟩:=hg;simp only[aT] at h;split at h
  ·rename_i n hn;split at h
   ·rename_i ks vs left cur hob;cases cur with
    |none=>cases h
    |some i =>
     simp only[rp] at h;split at h
     ·rename_i kk xx hk hx;simp only[v6] at h;subst h;exact Tr ho hz hn hob hk hx
     ·cases h
   ·cases h
  ·cases h
 -- convert
 ·rename_i ln dst y ho;split at hg
  ·rename_i k0 k y' h1 h2 h3;simp only[v6] at hg;subst hg;simp only[aT] at h;split at h
   ·rename_i k1 n hn;simp only[v6] at h;subst h;exact Tp ho h1 h2 h3 hn
   ·cases h
  ·rename_i e y' h1 h2 h3;split at hg
   ·rename_i he;simp only[v6] at hg;subst hg;exact Tl ho h1 he h2 h3 (by simpa only[aT] using h)
   ·cases hg
  ·rename_i e y' h1 h2 h3;split at hg
   ·rename_i he;simp only[v6] at hg;subst hg;simp only[aT] at h;cases h
   ·cases hg
  ·cases hg
 -- load
 ·rename_i t y ho;split at hg
  ·rename_i s y' h1 h2;simp only[v6] at hg;subst hg;simp only[aT] at h;split at h
   ·rename_i v hv;split at h
    ·rename_i hok;simp only[v6] at h;subst h;exact TD ho h1 h2 hv hok
    ·cases h
   ·cases h
  ·cases hg
 -- fieldAddr
 ·rename_i t y f ho;split at hg
  ·rename_i fs y' hu h1;split at hg
   ·rename_i fd hf;split at hg
    ·cases hg
    ·rename_i hz;simp only[v6] at hg;subst hg;simp only[aT] at h;split at h
     ·rename_i gs hgs;split at h
      ·rename_i v hv;split at h
       ·rename_i hoff;simp only[v6] at h;subst h;exact Tv ho hu hf hz h1 hgs hv hoff
       ·cases h
      ·cases h
     ·rename_i n p hp;split at h
      ·rename_i gs hgs;split at h
       ·rename_i hoff;simp only[v6] at h;subst h;exact Tu ho hu hf hz h1 hp hgs hoff.1 hoff.2
       ·cases h
      ·cases h
     ·cases h
   ·cases hg
  ·cases hg
 -- field
 ·rename_i t y f ho;split at hg
  ·rename_i fs y' hu h1;split at hg
   ·rename_i fd hf;simp only[t7] at hg;obtain ⟨s,hs,rfl⟩:=hg;simp only[aT] at h;split at h
    ·rename_i gs hgs;split at h
     ·rename_i v hv;split at h
      ·rename_i hoff;simp only[v6] at h;subst h;exact Tw ho hu hf hs h1 hgs hv hoff.1 hoff.2
      ·cases h
     ·cases h
    ·cases h
   ·cases hg
  ·cases hg
 -- indexAddr
 ·rename_i t y i ho;split at hg
  ·rename_i n e y' i' hu h1 h2;split at hg
   ·rename_i hinfo;obtain ⟨ti,hti⟩:=Y6.1 hinfo;simp only[v6] at hg;subst hg;simp only[aT] at h;split at h
    ·rename_i kk k hk;split at h
     ·rename_i hb;split at h
      ·rename_i gs hgs;split at h
       ·rename_i hev;simp only[t7] at h;obtain ⟨v,hv,rfl⟩:=h;exact Ty ho hu hti h1 h2 hgs hk hb hev hv
       ·cases h
      ·rename_i m p hp;split at h
       ·rename_i gs hgs;split at h
        ·rename_i hev;simp only[v6] at h;subst h;exact Tx ho hu hti h1 h2 hp hk hb hgs hev
        ·cases h
       ·cases h
      ·cases h
     ·cases h
    ·cases h
   ·cases hg
  ·rename_i e y' i' hu h1 h2;split at hg
   ·rename_i hinfo;obtain ⟨ti,hti⟩:=Y6.1 hinfo;simp only[v6] at hg;subst hg;simp only[aT] at h;split at h
    ·rename_i kk k hk;split at h
     ·rename_i sz es hes;split at h
      ·rename_i hb;obtain ⟨rfl,hb⟩:=hb;simp only[t7] at h;obtain ⟨v,hv,rfl⟩:=h;exact Tz ho hu hti h1 h2 hes hk hb hv
      ·cases h
     ·rename_i m l hm;split at h
      ·rename_i T sz es hes;split at h
       ·rename_i hb;obtain ⟨rfl,rfl,hb⟩:=hb;simp only[t7] at h;obtain ⟨v,hv,rfl⟩:=h;exact TA ho hu hti h1 h2 hm hes hk hb hv
       ·cases h
      ·cases h
     ·rename_i m p sz lo l hm;split at h
      ·rename_i fs hfs;split at h
       ·rename_i hb;simp only[v6] at h;subst h;exact TB ho hu hti h1 h2 hb.1 hm hfs hk hb.2
       ·cases h
      ·cases h
     ·cases h
    ·cases h
   ·cases hg
  ·cases hg
 -- index
 ·rename_i t y i ho;split at hg
  ·rename_i n e y' i' hu h1 h2;simp only[t7] at hg;obtain ⟨s,hs,rfl⟩:=hg;simp only[aT] at h;split at h
   ·rename_i kk k hk;split at h
    ·rename_i hb;split at h
     ·rename_i gs hgs;split at h
      ·rename_i hev;split at h
       ·rename_i v hv;split at h
        ·rename_i hok;simp only[v6] at h;subst h;exact TC ho hu hs h1 h2 hgs hk hb hev hv hok
        ·cases h
       ·cases h
      ·cases h
     ·cases h
    ·cases h
   ·cases h
  ·rename_i y' i' hu h1 h2;simp only[v6] at hg;subst hg;exact TP ho hu h1 h2 (by simpa only[aT,Z4,zz0] using h)
  ·cases hg
 -- slice
 ·rename_i t y lo hi mx ho;split at hg
  ·rename_i n e y' hu h1;split at hg
   ·split at hg
    ·rename_i hinfo;obtain ⟨ti,hti⟩:=Y6.1 hinfo;simp only[v6] at hg;subst hg;simp only[aT] at h;split at h
     ·rename_i m p hp;split at h
      ·rename_i gs hgs;split at h
       ·rename_i hev;simp only[v6] at h;subst h;exact TU ho hu hti h1 hp hgs hev.1 hev.2.1 hev.2.2
       ·cases h
      ·cases h
     ·rename_i gs hgs;split at h
      ·rename_i hev;simp only[v6] at h;subst h;exact TV ho hu hti h1 hgs hev.1 hev.2.1
      ·cases h
     ·cases h
    ·cases hg
   ·cases hg
  ·rename_i e y' hu h1;split at hg
   ·rename_i lo' hi' mx' q1 q2 q3;split at hg
    ·rename_i hc;obtain ⟨ti,hti⟩:=Y6.1 hc.2;simp only[v6] at hg;subst hg;simp only[aT] at h;split at h
     ·rename_i sz es hes;split at h
      ·rename_i hsz;subst hsz;exact uZ ho hu hti h1 q1 q2 q3 hc.1 (.inl hes) h
      ·cases h
     ·rename_i sz hes;split at h
      ·rename_i hsz;subst hsz;exact uZ ho hu hti h1 q1 q2 q3 hc.1 (.inr (.inl ⟨hes,rfl⟩)) h
      ·cases h
     ·rename_i sz hes;split at h
      ·rename_i hsz;subst hsz;exact uZ ho hu hti h1 q1 q2 q3 hc.1 (.inr (.inr ⟨hes,rfl⟩)) h
      ·cases h
     ·rename_i n p sz l0 k hv;split at h
      ·rename_i fs hfs;split at h
       ·rename_i hsz;exact TQ ho hu hti h1 q1 q2 q3 hc.1 hsz hv hfs h
       ·cases h
      ·cases h
     ·cases h
    ·cases hg
   ·cases hg
  ·rename_i y' hu h1;split at hg
   ·rename_i hi;simp only[t7] at hg;obtain ⟨hi',h2,rfl⟩:=hg;exact TS ho hu h1 h2 (by simpa only[aT,Z4,zz0] using h)
   ·rename_i lo;simp only[t7] at hg;obtain ⟨lo',h2,rfl⟩:=hg;exact TT ho hu h1 h2 (by simpa only[aT,Z4,zz0] using h)
   ·split at hg
    ·rename_i lo' hi' h2 h3;simp only[v6] at hg;subst hg;exact TR ho hu h1 h2 h3 (by simpa only[aT,Z4,zz0] using h)
    ·cases hg
   ·cases hg
  ·cases hg
 -- build
 ·rename_i t parts ho;split at hg
  ·rename_i zs ps hz hp;split at hg
   ·rename_i fs hu;split at hg
    ·rename_i hc;simp only[v6] at hg;subst hg;simp only[aT,t7] at h;obtain ⟨zs',h,rfl⟩:=h;exact Am ho hz hp (.inl ⟨fs,hu,hc.1,hc.2⟩) h
    ·cases hg
   ·rename_i n e hu;split at hg
    ·rename_i hc;simp only[v6] at hg;subst hg;simp only[aT,t7] at h;obtain ⟨zs',h,rfl⟩:=h;exact Am ho hz hp (.inr ⟨n,e,hu,hc.1,hc.2.1,hc.2.2⟩) h
    ·cases hg
   ·cases hg
  ·cases hg
 -- buildSlice
 ·rename_i t len parts ho;split at hg
  ·rename_i e hu;split at hg
   ·rename_i ps hp;split at hg
    ·rename_i h0;obtain ⟨rfl,rfl,h0⟩:=h0;obtain ⟨ti,hti⟩:=Y6.1 h0;simp only[v6] at hg;subst hg;simp only[aT,v6] at h;subst h;exact Tn ho hu hti
    split at hg
    ·rename_i hc;obtain ⟨c1,c2,c3,c4,c5⟩:=hc;simp only[v6] at hg;subst hg;simp only[aT] at h;split at h
     ·rename_i es hes;split at h
      ·rename_i hev;simp only[v6] at h;subst h;refine Tm ho hu hp c1 c2 c3 c4 c5 hes (fun y hy =>?_) hev.2;have:=Y5.1 hev.1 y hy;simpa using this
      ·cases h
     ·cases h
    ·cases hg
   ·cases hg
  ·cases hg
 -- extract
 ·rename_i y i ho;simp only[t7] at hg;obtain ⟨z,hz,rfl⟩:=hg;simp only[aT] at h;split at h
  ·rename_i fs hfs;exact Tt ho hz hfs h
  ·cases h
 -- makeFunc
 ·rename_i f first caps ho
  split at hg
  case isFalse=>cases hg
  rename_i hlt;split at hg
  ·rename_i hfirst;simp only[t7] at hg;obtain ⟨ys,hys,rfl⟩:=hg;simp only[aT] at h;split at h
   ·rename_i hv;simp only[v6] at h;subst h;have hf:first = #[]:=by simpa using hfirst
    rw[hf] at ho;refine TF hlt ho hys (fun y hy =>?_);have:=Y5.1 hv (af A y) (zz1.2 ⟨y,hy,rfl⟩);exact this
   ·cases h
  ·split at hg
   case isFalse=>cases hg
   rename_i hcaps;simp only[t7] at hg;obtain ⟨ys,hys,rfl⟩:=hg;simp only[aT] at h;split at h
   ·rename_i hv;simp only[v6] at h;subst h;have hf:caps = #[]:=by simpa using hcaps
    rw[hf] at ho;refine TH ho hys (fun y hy =>?_);have:=Y5.1 hv (af A y) (zz1.2 ⟨y,hy,rfl⟩);exact this
   ·cases h
 -- alloc
 ·simp only[t7] at hg;obtain ⟨z,_,rfl⟩:=hg;simp[aT] at h
 -- box
 ·simp only[t7] at hg;obtain ⟨z,_,rfl⟩:=hg;simp[aT] at h
 -- store
 ·split at hg
  ·split at hg
   ·simp only[v6] at hg;subst hg;simp[aT] at h
   ·cases hg
  ·cases hg
 -- call
 ·split at hg
  ·simp only[t7] at hg;obtain ⟨z,_,rfl⟩:=hg;simp[aT] at h
  ·simp only[t7] at hg;obtain ⟨z,_,rfl⟩:=hg;simp[aT] at h
 ·split at hg
  ·simp only[v6] at hg;subst hg;simp[aT] at h
  ·cases hg
 -- len
 ·rename_i args tys ho;split at hg
  ·rename_i y ty hargs htys;have ho':o.op=.call { callee:=.builtin .len,args := #[y],argTypes := #[ty] } :=by
    rw[ho];have e1:args = #[y]:=by apply Array.ext';simpa using hargs
    have e2:tys = #[ty]:=by apply Array.ext';simpa using htys
    rw[e1,e2]
   split at hg
   ·rename_i e hu;simp only[t7] at hg;obtain ⟨y',hy,rfl⟩:=hg;simp only[aT] at h;split at h
    ·rename_i sz es hes;simp only[v6] at h;subst h;refine nO ho' hu (.inl ⟨e,rfl⟩) hy (fun a w D E hs v hv =>?_);rw[hes] at hv;obtain ⟨ad,cap,e1,e2,e3,_⟩:=ke hv;exact ⟨Nat.le_trans e2 e3,fun _=>⟨ad,cap,e1⟩,fun e=>by cases e⟩
    ·rename_i sz hes;simp only[v6] at h;subst h;refine nO (n:=0) ho' hu (.inl ⟨e,rfl⟩) hy (fun a w D E hs v hv =>?_);rw[hes] at hv;obtain ⟨cs,q1,q2⟩:=hv;simp only[ae] at q2;exact ⟨by simp[maxLen],fun _=>⟨none,0,by simpa[aW,I.isAgg,q2] using q1.symm⟩,fun e=>by cases e⟩
    ·rename_i sz hes;simp only[v6] at h;subst h;refine nO (n:=0) ho' hu (.inl ⟨e,rfl⟩) hy (fun a w D E hs v hv =>?_);rw[hes] at hv;obtain ⟨cs,q1,q2⟩:=hv;simp only[ae] at q2;obtain ⟨ad,q2⟩:=q2;exact ⟨by simp[maxLen],fun _=>⟨ad,0,by simpa[aW,I.isAgg,q2] using q1.symm⟩,fun e=>by cases e⟩
    ·rename_i m l hm;split at h
     ·rename_i T sz es hes;split at h
      ·rename_i hl;subst hl;simp only[v6] at h;subst h;refine nO ho' hu (.inl ⟨e,rfl⟩) hy (fun a w D E hs v hv =>?_);rw[hm] at hv;rcases hs.own hes hv with ⟨rfl,_,rfl⟩ | ⟨b,cap,cs,pre,rest,_,rfl,_,_,_,_,_,k8,k9,_⟩
       ·exact ⟨by simp[maxLen],fun _=>⟨none,0,rfl⟩,fun e=>by cases e⟩
       ·exact ⟨Nat.le_trans k8 k9,fun _=>⟨_,_,rfl⟩,fun e=>by cases e⟩
      ·cases h
     ·cases h
    ·rename_i n p sz lo k hm;simp only[v6] at h;subst h;refine nO ho' hu (.inl ⟨e,rfl⟩) hy (fun a w D E hs v hv =>?_);rw[hm] at hv;obtain ⟨cs,q1,q2⟩:=hv;simp only[ae] at q2;obtain ⟨b,aK,off,l,_,_,_,q2,q3,q4,_⟩:=q2;exact ⟨by omega,fun _=>⟨_,_,by simpa[aW,I.isAgg,q2] using q1.symm⟩,fun e=>by cases e⟩
    ·cases h
   ·rename_i hu;simp only[t7] at hg;obtain ⟨y',hy,rfl⟩:=hg;simp only[aT] at h;split at h
    ·rename_i s hs';simp only[v6] at h;subst h;refine nO ho' hu (.inr rfl) hy (fun a w D E hs v hv =>?_);rw[hs'] at hv;obtain ⟨e1,e2⟩:=fL hv;exact ⟨e2,(fun e=>by obtain ⟨_,e⟩:=e;cases e),fun _=>⟨s,e1,rfl⟩⟩
    ·cases h
   ·cases hg
  ·cases hg
 -- append
 ·split at hg
  ·split at hg
   ·split at hg
    ·simp only[t7] at hg;obtain ⟨z,_,rfl⟩:=hg;simp[aT] at h
    ·split at hg
     ·simp only[t7] at hg;obtain ⟨z,_,rfl⟩:=hg;simp[aT] at h
     ·cases hg
   ·cases hg
  ·cases hg
 -- cap
 ·rename_i args tys ho;split at hg
  ·rename_i y ty hargs htys;have ho':o.op=.call { callee:=.builtin .cap,args := #[y],argTypes := #[ty] } :=by
    rw[ho];have e1:args = #[y]:=by apply Array.ext';simpa using hargs
    have e2:tys = #[ty]:=by apply Array.ext';simpa using htys
    rw[e1,e2]
   split at hg
   ·rename_i e hu;simp only[t7] at hg;obtain ⟨y',hy,rfl⟩:=hg;simp only[aT] at h;split at h
    ·rename_i sz hes;simp only[v6] at h;subst h;refine uX ho' hu hy (fun a w D E hs v hv =>?_);rw[hes] at hv;obtain ⟨cs,q1,q2⟩:=hv;simp only[ae] at q2;exact ⟨by simp[maxLen],_,_,by simpa[aW,I.isAgg,q2] using q1.symm⟩
    ·rename_i sz hes;simp only[v6] at h;subst h;refine uX ho' hu hy (fun a w D E hs v hv =>?_);rw[hes] at hv;obtain ⟨cs,q1,q2⟩:=hv;simp only[ae] at q2;obtain ⟨ad,q2⟩:=q2;exact ⟨by simp[maxLen],_,_,by simpa[aW,I.isAgg,q2] using q1.symm⟩
    ·rename_i n p sz lo k hm;split at h
     ·rename_i fs hfs;simp only[v6] at h;subst h;refine uX ho' hu hy (fun a w D E hs v hv =>?_);rw[hm] at hv;obtain ⟨_,b,cs,T,off,c1,c2,c3,_,_,_,_,_,_,_,_,_,_,_,q1,q2⟩:=hs.view hv hfs;exact ⟨by omega,_,_,q2⟩
     ·cases h
    ·cases h
   ·cases hg
  ·cases hg
 -- clear
 ·split at hg
  ·split at hg
   ·simp only[t7] at hg;obtain ⟨z,_,rfl⟩:=hg;simp[aT] at h
   ·cases hg
  ·cases hg
 -- copy
 ·split at hg
  ·split at hg
   ·split at hg
    ·simp only[v6] at hg;subst hg;simp[aT] at h
    ·cases hg
   ·cases hg
  ·cases hg
 -- delete
 ·split at hg
  ·split at hg
   ·simp only[t7] at hg;obtain ⟨z,_,rfl⟩:=hg;simp[aT] at h
   ·cases hg
  ·cases hg
 -- max
 ·rename_i args _ ho;split at hg
  ·rename_i x y hargs;split at hg
   ·rename_i x' y' h1 h2;simp only[v6] at hg;subst hg;simp only[aT] at h;have e1:args = #[x,y]:=by apply Array.ext';simpa using hargs
    rw[e1] at ho;exact TJ ho h1 h2 h
   ·cases hg
  ·cases hg
 -- min
 ·rename_i args tys ho;split at hg
  ·rename_i x y hargs;split at hg
   ·rename_i x' y' h1 h2;simp only[v6] at hg;subst hg;have e1:args = #[x,y]:=by apply Array.ext';simpa using hargs
    rw[e1] at ho;exact TI ho h1 h2 (by simpa only[aT,Z4,zz0] using h)
   ·cases hg
  ·cases hg
 -- makeInterface
 ·rename_i t y ho;split at hg
  ·rename_i hu;simp only[t7] at hg;obtain ⟨y',h1,rfl⟩:=hg;exact TG ho hu h1 (by simpa only[aT,Z4,zz0] using h)
  ·cases hg
 -- panic
 ·simp only[t7] at hg;obtain ⟨y',_,rfl⟩:=hg;simp[aT,ej] at h
 ·cases hg
theorem dY.append{α β:Type}{R:α→β→Prop} : ∀ {xs:List α} {ys:List β} {xs':List α} {ys':List β},dY R xs ys→dY R xs' ys'→dY R (xs++xs') (ys++ys')
 |_,_,_,_,.nil,h=>h
 |_,_,_,_,.cons h1 h2,h=>.cons h1 (h2.append h)
theorem oo{w:World}{D:aD}{E:aN} : ∀ {xs:List I} {vs:List Value},ao w D E xs vs→dY (aP w D E) xs vs
 | [],vs,h=>by simp only[ao] at h;subst h;exact .nil
 |x::xs,vs,h=>by
  simp only[ao] at h;obtain ⟨v,rest,cs,rfl,h1,h2,h3⟩:=h;exact .cons (fp h1 h2) (oo h3)
theorem HC {P : Program} {f : FuncId} (h : dO P f = true) : ∃ fn, P.funcs[f]? = some fn ∧ ¬ fn.name = "runtime.NumGoroutine" ∧ ¬ fn.body = none := by
 unfold dO at h;rw[Z0] at h
 replace h:=h.2
 cases hf:P.funcs[f]? with
 |none=>simp[hf] at h
 |some fn =>
  simp only[hf,Option.any_some,Z0,bne_iff_ne,ne_eq] at h;refine ⟨fn,rfl,by simpa using h.1,?_⟩;cases hb:fn.body <;>simp_all
theorem yT{P:Program}{f:FuncId}(h:dO P f=true):f<1000000:=by
 unfold dO at h;rw[Z0] at h;simpa[Nat.blt_eq] using h.1
theorem lQ{P:Program}{w:World}{f:FuncId}{args:Array Value}(h:dO P f=true):(callFunc f args).run P w=.ok (.enter f args) w:=by
 obtain ⟨fn,h1,h2,h3⟩:=HC h;simp[callFunc,h1,h2,h3]
theorem aL.jc{A:ab}{a:Act}{w:World}{D:aD}{E:aN}(h:aL c A a w D E){n:Nat}{e:br}{b:Nat}(he:E n=some e)(hb:e.aA=some b):c.eg b:=by
 have:=h.bz n;unfold cX at this;split at this
 ·simp[this] at he
 ·obtain ⟨b',cs,T,h1,h2,_⟩:=this;rw[h1,v6] at he;subst he;simp only[br.aA,v6] at hb;exact hb▸h2
 ·obtain ⟨aA,h1,h2,h3⟩:=this;rw[h1,v6] at he;subst he;split at h3
  ·cases hb
  ·obtain ⟨cs,pre,rest,h4,_⟩:=h3;simp only[br.aA,v6] at hb;exact hb▸h4
 ·obtain ⟨b',h1,h2,_⟩:=this;rw[h1,v6] at he;subst he;simp only[br.aA,v6] at hb;exact hb▸h2
 ·obtain ⟨b',es,ck,h1,h2,_⟩:=this;rw[h1,v6] at he;subst he;simp only[br.aA,v6] at hb;exact hb▸h2
 ·obtain ⟨b',bb,es,ck,dK,se,la,h1,h2,_⟩:=this;rw[h1,v6] at he;subst he;simp only[br.aA,v6] at hb;exact hb▸h2
 ·obtain ⟨aA,h1,h2,h3⟩:=this;rw[h1,v6] at he;subst he;split at h3
  ·cases hb
  ·obtain ⟨cs,m,h4,_⟩:=h3;simp only[br.aA,v6] at hb;exact hb▸h4
theorem aL.pH{A:ab}{a:Act}{w:World}{D:aD}{E:aN}(h:aL c A a w D E):eA c.P w (bQ E) :=
 h.eI.1.AM h.df (fun _ hb=>hb) fun _ ⟨_,_,h1,h2⟩=>h.jc h1 h2
theorem aL.vb{A:ab}{a:Act}{w:World}{D:aD}{E:aN}(h:aL c A a w D E):eA c.P w (fun _=>False):=h.pH.rY fun _ h=>h.elim
theorem aL.nV{A:ab}{a:Act}{w:World}{D:aD}{E:aN}(h:aL c A a w D E){ρ:List (Nat×Nat)}{os:List (Nat×ai)} : eA c.P w (bQ (aq ρ os E)):=h.pH.rY fun b ⟨n,e,h1,h2⟩=>by
 simp only[aq] at h1;split at h1
 ·exact ⟨_,e,h1,h2⟩
 ·cases h1
theorem aQ.XT{f:FuncId}{avs cargs:List I}{r:I}{vs:List Value}{a:Act}{w:World}{D:aD}{E:aN}(hs:aL c A a w D E)(h:aQ c.P f cargs r)(hf:r.flat=true)(hc:bC true A avs=some cargs)(hv:dY (aP w D E) avs vs) :
  Calls c.P f vs.toArray w fun e w'=>∃ v D',e=.returned v∧aL c A a w' D' E∧aP w' D' E r v:=by
 have hw:gw true A D E (fun b _=>b<w.heap.size):=by
  refine ⟨fun b o hd=>hs.cL b o hd,fun n T sz es b cap hn aq o _=>hs.eW aq rfl,fun _ n x b aK hn aq o _=>hs.eW aq rfl,fun _ n ks vs b hn aq=>hs.eW aq rfl⟩
 have hrv:=kM (E':=cu) hs (fun _ _ h=>h) hw avs cargs vs (kg _ _ hv (po hc)) hc;refine (h.2 w _ vs hs.vb (fun _ _ hd=>hd) hrv).mono fun e w' ⟨v,D',he,h1,h2,h3,h4⟩=>⟨v,D,he,?_,aP.flat hf h1⟩
 exact hs.grow h2 (fun _ _ hd=>hd) (fun _ _ hd _=>hd) (fun b o hd=>Nat.lt_of_lt_of_le (hs.cL b o hd) h2.size)
theorem aQ.XV{f:FuncId}{avs cargs:List I}{r:I}{vs:List Value}{a:Act}{w:World}{D:aD}{E:aN}(hs:aL c A a w D E)(h:aQ c.P f cargs r)(hc:bC false A avs=some cargs)(hv:dY (aP w D E) avs vs) :
  Calls c.P f vs.toArray w fun e w'=>∃ v D',e=.returned v∧aL c A a w' D' E∧aP w' D' E r v:=by
 obtain ⟨hs1,hw⟩:=hs.mZ;have hrv:=kM (E':=cu) hs (fun _ _ h=>h) hw avs cargs vs (kg _ _ hv (po hc)) hc;refine (h.2 w _ vs hs.vb hs1.cL hrv).mono fun e w' ⟨v,D',he,h1,h2,h3,h4⟩=>⟨v,fun b o=>mU A D E b o∨(w.heap.size≤b∧D' b o),he,?_,?_⟩
 ·refine hs1.grow h2 (fun _ _ hd=>.inl hd) ?_ ?_
  ·rintro b o (hd | ⟨hle,_⟩) hlt
   ·exact hd
   ·omega
  ·rintro b o (hd | ⟨_,hd⟩)
   ·exact Nat.lt_of_lt_of_le (hs1.cL b o hd) h2.size
   ·exact h3 b o hd
 ·refine aP.later (E:=cu) ⟨fun b o hd =>?_,fun _ _ _ _ h=>h,fun n b aK hn=>by simp[cu] at hn,fun n aA l hn=>by simp[cu] at hn,fun n b hn=>by simp[cu] at hn,fun n b hn=>by simp[cu] at hn,fun _ _ _ _ h=>h⟩ h1;rcases Nat.lt_or_ge b w.heap.size with hlt | hge
  ·exact .inl (h4 b o hd hlt)
  ·exact .inr ⟨hge,hd⟩
theorem A7(p:Nat→Bool)(os:List (Nat×ai))(n:Nat):aH (os.filter fun q=>p q.1) n=if p n then aH os n else none:=by
 induction os with
 |nil=>simp[aH]
 |cons q os ih =>
  obtain ⟨k,v⟩:=q;simp only[List.filter_cons];by_cases hk:p k=true
  ·simp only[hk,if_true,aH,ih];by_cases hn:n=k
   ·subst hn;simp only[hk,if_true]
   ·simp only[if_neg hn]
  ·simp only[hk,Z7,if_false,ih,aH];by_cases hn:n=k
   ·subst hn;simp[hk]
   ·simp only[if_neg hn]
theorem r4(ns:List Nat)(os:List (Nat×ai))(n:Nat):aH (dR ns os) n=if ns.contains n then none else aH os n:=by
 rw[dR,A7 (fun n => !ns.contains n)];cases ns.contains n <;>rfl
theorem pM(ns:List Nat)(os:List (Nat×ai))(n:Nat):aH (j0 ns os) n=if ns.contains n then aH os n else none:=A7 _ _ _
theorem BE{p:Nat→Bool} : ∀ {os:List (Nat×ai)},bP p os→∀ k x,aH os k=some x→x.only p=true
 | [],_,k,x,hx=>by simp[aH] at hx
 |(j,v)::r,h,k,x,hx=>by
  simp only[bP] at h;simp only[aH] at hx;split at hx
  ·simp only[v6] at hx;subst hx;exact h.1
  ·exact BE h.2 k x hx
theorem A8(ns:List Nat):∀ (ts:List (Nat×I)) (t:Nat),b9 (iX ns ts) t=if (b9 ts t).only (fun n => !ns.contains n) then b9 ts t else .cU
 | [],t=>by simp[iX,b9,I.only]
 |(k,v)::r,t=>by
  simp only[iX,Z4,b9];by_cases h:t=k
  ·simp only[if_pos h]
  ·simp only[if_neg h];exact A8 ns r t
theorem aL.freeze{a:Act}{w:World}{D:aD}{E:aN}{ts:List (Nat×I)}{os0:List (Nat×ai)}(h:aL c (aw ts os0) a w D E)(ns:List Nat)(ho:bP (fun n => !ns.contains n) (dR ns os0)) :
  ∃ D' E',aL c (aw (iX ns ts) (dR ns os0)) a w D' E'∧gw true (aw ts (j0 ns os0)) D E D':=by
 have h1:=h.mZ.1;have hw1:=h.mZ.2;obtain ⟨D1,hD1⟩:∃ D1,D1=mU (aw ts os0) D E:=⟨_,rfl⟩
 rw[←hD1] at h1 hw1;obtain ⟨D2,hD2⟩:∃ D2:aD,D2=fun b o=>D1 b o∨(∃ n x aK,ns.contains n=true∧aH os0 n=some (.box x)∧E n=some (.aB b aK)∧o<x.size)∨∃ n ks vs,ns.contains n=true∧aH os0 n=some (.b7 ks vs)∧E n=some (.b7 b)∧o=0:=⟨_,rfl⟩
 obtain ⟨E2,hE2⟩:∃ E2:aN,E2=fun n=>if ns.contains n then none else E n:=⟨_,rfl⟩
 have e2:∀ n,(!ns.contains n)=true→E2 n=E n:=fun n hn=>by rw[hE2];simp at hn;simp[hn]
 have hl:dh w D1 E2 w D2 E2:=⟨fun b o hd=>by rw[hD2];exact .inl hd,fun _ _ _ _ h=>h,fun _ _ _ h=>h,fun _ aA l h=>⟨aA,l,h,Z5 _,fun _=>rfl⟩,fun _ _ h=>h,fun _ _ h=>h,fun _ _ _ _ h=>h⟩
 have nZ:∀ b o,D2 b o→D1 b o∨∃ n e q,ns.contains n=true∧E n=some e∧e.aA=some b∧c.eg b∧w.heap[b]?=some q:=fun b o hd=>by
  rw[hD2] at hd;rcases hd with hd | ⟨n,x,aK,k1,k2,k3,k4⟩ | ⟨n,ks,vs,k1,k2,k3,_⟩
  ·exact .inl hd
  ·obtain ⟨b',cs,T,q1,q2,q3,_⟩:=h.box (n:=n) (x:=x) (by simpa[aw] using k2);rw[k3] at q1;simp only[v6,br.aB.injEq] at q1;obtain ⟨rfl,rfl⟩:=q1;obtain ⟨_,q3,_⟩:=q3.bz;exact .inr ⟨n,_,_,k1,k3,rfl,q2,q3⟩
  ·obtain ⟨b',es,ck,q1,q2,q3,_⟩:=h.map (n:=n) (ks:=ks) (vs:=vs) (by simpa[aw] using k2);rw[k3] at q1;cases q1;exact .inr ⟨n,_,_,k1,k3,rfl,q2,q3⟩
 refine ⟨D2,E2,⟨h1.sz,h1.ec,fun t =>?_,h1.df,fun b o hd hm =>?_,fun b o hd =>?_,fun n =>?_,fun n m e e' b g1 g2 g3 g4 =>?_,fun n e hn =>?_,h1.eF,fun b o hd=>hl.cI b o (h1.cw b o hd),h1.eI,h1.fb⟩,?_⟩
 ·simp only[aw,A8];have ht:=h1.dB t;simp only[aw] at ht;split
  ·rename_i hp;exact aP.later hl (aP.dD e2 hp ht)
  ·simp[aP]
 ·rcases nZ b o hd with hd | ⟨n,e,q,_,_,_,k,_⟩
  ·exact h1.cI b o hd hm
  ·exact absurd k hm
 ·rcases nZ b o hd with hd | ⟨n,e,q,_,_,_,_,k⟩
  ·exact h1.cL b o hd
  ·exact eG k
 ·simp only[aw,r4];by_cases hn:ns.contains n=true
  ·simp only[hn,if_true,cX];rw[hE2];simp only[hn,if_true]
  ·have hnb:(!ns.contains n)=true:=by simpa using hn
   simp only[hn,Z7,if_false];have hob:=h1.bz n;simp only[aw] at hob;cases hx:aH os0 n with
   |none=>rw[hx] at hob;simp only[cX] at hob ⊢;rw[e2 n hnb];exact hob
   |some x =>
    have hon:=BE ho n x (by rw[r4,if_neg hn];exact hx);have nD:∀ e b,E n=some e→e.aA=some b→∀ o,D2 b o→D1 b o:=fun e b he hb o hd=>by
     rcases nZ b o hd with hd | ⟨m,e',q,k1,k3,k2,_⟩
     ·exact hd
     ·have:=h.cz n m e _ b he k3 hb k2;subst this;exact absurd k1 hn
    rw[hx] at hob;cases x with
    |box x =>
     obtain ⟨b,cs,T,k1,k2,k3,k4,k5⟩:=hob;exact ⟨b,cs,T,(e2 n hnb).trans k1,k2,k3,ae.later hl _ _ (ae.dD e2 _ _ (by simpa[ai.only] using hon) k4),fun o hd=>k5 o (nD _ b k1 rfl o hd)⟩
    |bE T sz es =>
     obtain ⟨aA,k1,k2,k3⟩:=hob;refine ⟨aA,(e2 n hnb).trans k1,k2,?_⟩;cases aA with
     |none=>exact k3
     |some bc =>
      obtain ⟨b,cap⟩:=bc;obtain ⟨cs,pre,rest,q1,q2,q3,q4,q5,q6,q7,q8⟩:=k3;exact ⟨cs,pre,rest,q1,q2,q3,az.later hl _ _ (az.dD e2 _ _ (by simpa[ai.only] using hon) q4),q5,q6,q7,fun o hd=>q8 o (nD _ b k1 rfl o hd)⟩
    |dL T xs =>
     obtain ⟨aA,k1,k2,k3⟩:=hob;refine ⟨aA,(e2 n hnb).trans k1,k2,?_⟩;cases aA with
     |none=>exact k3
     |some bc =>
      obtain ⟨b,cap⟩:=bc;obtain ⟨cs,r,q1,q2,q3,q4,q5,q6,q7⟩:=k3;exact ⟨cs,r,q1,q2,q3,q4,q5,q6,fun o hd=>q7 o (nD _ b k1 rfl o hd)⟩
    |db x =>
     obtain ⟨b,k1,k2,k3,k4,k5⟩:=hob;exact ⟨b,(e2 n hnb).trans k1,k2,k3,k4,fun o hd=>k5 o (nD _ b k1 rfl o hd)⟩
    |b7 ks vs =>
     obtain ⟨b,es,ck,k1,k2,k3,k4,k5,k6,k7⟩:=hob;simp only[ai.only,Z0] at hon;exact ⟨b,es,ck,(e2 n hnb).trans k1,k2,k3,k4,ao.later hl _ _ (ao.dD e2 _ _ hon.1 k5),ao.later hl _ _ (ao.dD e2 _ _ hon.2 k6),fun o hd=>k7 o (nD _ b k1 rfl o hd)⟩
    |it ks vs left cur =>
     obtain ⟨r,b,es,ck,dK,se,la,k1,k2,k3,k4,k5,k6,k7,k8,k9,k9',k10⟩:=hob;simp only[ai.only,Z0] at hon;exact ⟨r,b,es,ck,dK,se,la,(e2 n hnb).trans k1,k2,k3,k4.later hl,ao.later hl _ _ (ao.dD e2 _ _ hon.1 k5),ao.later hl _ _ (ao.dD e2 _ _ hon.2 k6),k7,k8,k9,k9',fun o hd=>k10 o (nD _ r k1 rfl o hd)⟩
 ·have nG:∀ n e,E2 n=some e→E n=some e:=fun n e he=>by
   rw[hE2] at he;simp only at he;split at he
   ·cases he
   ·exact he
  exact h.cz n m e e' b (nG n e g1) (nG m e' g2) g3 g4
 ·by_cases hm:ns.contains n=true
  ·left;rw[hE2];simp only[hm,if_true]
  ·rw[e2 n (by simpa using hm)];exact h.dy n e hn
 ·refine ⟨fun b o hd=>by rw[hD2];exact .inl (hw1.cI b o hd),fun n T sz es b cap hn aq o hlt =>?_,fun _ n x b aK hn aq o hlt =>?_,fun _ n ks vs b hn aq =>?_⟩
  ·simp only[aw,pM] at hn;split at hn
   ·rw[hD2];exact .inl (hw1.bE n T sz es b cap hn aq o hlt)
   ·cases hn
  ·simp only[aw,pM] at hn;split at hn
   ·rename_i hk;rw[hD2];exact .inr (.inl ⟨n,x,aK,hk,hn,aq,hlt⟩)
   ·cases hn
  ·simp only[aw,pM] at hn;split at hn
   ·rename_i hk;rw[hD2];exact .inr (.inr ⟨n,ks,vs,hk,hn,aq,rfl⟩)
   ·cases hn
theorem aQ.XU{f:FuncId}{avs cargs:List I}{r:I}{vs:List Value}{a:Act}{w:World}{D:aD}{E:aN}{ts:List (Nat×I)}{os0:List (Nat×ai)}(hs:aL c (aw ts os0) a w D E)(ns:List Nat)(ho:bP (fun n => !ns.contains n) (dR ns os0))
  (h:aQ c.P f cargs r) (hc:bC true (aw ts (j0 ns os0)) avs=some cargs) (hv:dY (aP w D E) avs vs) :
  Calls c.P f vs.toArray w fun e w'=>∃ v D' E',e=.returned v∧aL c (aw (iX ns ts) (dR ns os0)) a w' D' E'∧aP w' D' E' r v:=by
 obtain ⟨D1,E1,hs1,hw⟩:=hs.freeze ns ho;have hu:dw (aw ts (j0 ns os0)) (aw ts os0):=fun n x hx=>by
  simp only[aw,pM] at hx ⊢;split at hx
  ·exact hx
  ·cases hx
 have hrv:=kM (E':=cu) hs hu hw avs cargs vs (kg _ _ hv (po hc)) hc;refine (h.2 w _ vs hs.vb hs1.cL hrv).mono fun e w' ⟨v,D',he,h1,h2,h3,h4⟩=>⟨v,fun b o=>D1 b o∨(w.heap.size≤b∧D' b o),E1,he,?_,?_⟩
 ·refine hs1.grow h2 (fun _ _ hd=>.inl hd) ?_ ?_
  ·rintro b o (hd | ⟨hle,_⟩) hlt
   ·exact hd
   ·omega
  ·rintro b o (hd | ⟨_,hd⟩)
   ·exact Nat.lt_of_lt_of_le (hs1.cL b o hd) h2.size
   ·exact h3 b o hd
 ·refine aP.later (E:=cu) ⟨fun b o hd =>?_,fun _ _ _ _ h=>h,fun n b aK hn=>by simp[cu] at hn,fun n aA l hn=>by simp[cu] at hn,fun n b hn=>by simp[cu] at hn,fun n b hn=>by simp[cu] at hn,fun _ _ _ _ h=>h⟩ h1;rcases Nat.lt_or_ge b w.heap.size with hlt | hge
  ·exact .inl (h4 b o hd hlt)
  ·exact .inr ⟨hge,hd⟩
theorem tI{a:Act}{w:World}{D D1:aD}{E:aN}{ts:List (Nat×I)}{os0 os:List (Nat×ai)}{ρ:List (Nat×Nat)}{aB:Bool}{A0:ab}(hs:aL c (aw ts os0) a w D E)(hu:dw A0 (aw ts os0))(hD:∀ b o,D b o→D1 b o)(hw:gw aB A0 D E D1) :
  ∀ (avs cargs:List I) (vs:List Value),fN aB A0 ρ os avs cargs→dY (aP w D E) avs vs→ao w D1 (aq ρ os E) cargs vs
 | [],[],vs,_,hv=>by cases hv;simp[ao]
 | [],_::_,_,h,_=>by simp[fN] at h
 |_::_,[],_,h,_=>by simp[fN] at h
 |x::xs,y::ys,vs,h,hv=>by
  cases hv with
  |cons hv hvs =>
  rename_i v vs;simp only[fN] at h;have ih:=tI hs hu hD hw xs ys vs h.2 hvs;have hl:dh w D (aq ρ os E) w D1 (aq ρ os E):=⟨hD,fun _ _ _ _ h=>h,fun _ _ _ h=>h,fun _ aA l h=>⟨aA,l,h,Z5 _,fun _=>rfl⟩,fun _ _ h=>h,fun _ _ h=>h,fun _ _ _ _ h=>h⟩
  have h1:∃ cs,aW y v cs∧ae w D1 (aq ρ os E) y cs:=by
   rcases h.1 with ⟨k1,k2,k3⟩ | k
   ·rw[k1] at hv;have h2:=aP.later hl ((aP.aR (w:=w) (D:=D) (p:=aC os) (ρ:=bo ρ) (E:=aq ρ os E) (E':=E) (fun n hn=>by simp only[aq,hn,if_true]) k2).1 hv);cases y <;>simp only[aP] at h2 <;>first | (simp[I.cv] at k3;done) | exact h2
   ·have h2:ao w D E [x] [v]:=kg [x] [v] (.cons hv .nil) (by
     intro z hz;simp only[zy2] at hz;subst hz;cases z <;>simp_all[aZ,I.cv])
    have h3:=kM (E':=aq ρ os E) hs hu hw [x] [y] [v] h2 (by simp[bC,k]);simp only[ao] at h3;obtain ⟨v',rest,cs,e,k1,k2,_⟩:=h3;simp only[Y9] at e;obtain ⟨rfl,_⟩:=e;exact ⟨cs,k1,k2⟩
  obtain ⟨cs,k1,k2⟩:=h1;simp only[ao];exact ⟨v,vs,cs,rfl,k1,k2,ih⟩
theorem dw.drop(ts:List (Nat×I))(ns:List Nat)(os0:List (Nat×ai)):dw (aw ts (dR ns os0)) (aw ts os0):=fun n x hx=>by
 simp only[aw,r4] at hx ⊢;split at hx
 ·cases hx
 ·exact hx
theorem lZ.use{run:Array Value→World→(Ending→World→Prop)→Prop}{since:World→aD→aN→Prop}{avs cargs:List I}{post:b6}{vs:List Value}{a:Act}{w:World}{D:aD}{E:aN}{ts:List (Nat×I)}{os0 os:List (Nat×ai)}{ρ:List (Nat×Nat)}
  (hs:aL c (aw ts os0) a w D E) (h:lZ run since cargs os post) (aB:Bool) (hmono:∀ {vs w R R'},run vs w R→(∀ e w,R e w→R' e w)→run vs w R') (hsince:(aB=true→∀ D,since w D (aq ρ os E))∧(aB=false→since w (mU (aw ts os0) D E) (aq ρ os E)))
  (hg:eM ρ os os0) (ha:fN aB (aw ts (dR (im ρ os) os0)) ρ os avs cargs) (hb:∀ r os',post r os'→dG aB ρ os os0 r os') (hv:dY (aP w D E) avs vs) :
  run vs.toArray w fun e w'=>∃ v r os' D2 E2,e=.returned v∧post r os'∧aL c (aw ts (cY ρ os'++os0)) a w' D2 E2∧aP w' D2 E2 (r.aR (bo ρ)) v∧∀ m e,aq ρ os E m=some e→aC os' m=true→∃ e',E2 (bo ρ m)=some e'∧e.fo e':=by
 have notName:∀ n,(im ρ os).contains n=false→∀ m,aC os m=true→bo ρ m≠n:=fun n hn m hm he=>by
  obtain ⟨q,hq,rfl⟩:=u5.1 hm;have:(im ρ os).contains n=true:=by simp only[im,List.contains_iff_mem,zz1];exact ⟨q,hq,he⟩
  rw[this] at hn;cases hn
 have other:∀ {D:aD},aL c (aw ts os0) a w D E→∀ n e b x,aH (dR (im ρ os) os0) n=some x→E n=some e→e.aA=some b→¬ bQ (aq ρ os E) b:=fun hs n e b x hx he hb ho=>by
  obtain ⟨m,e',h1,h2,hb',_⟩:=hs.rJ hg ho;rw[r4] at hx;split at hx
  ·cases hx
  ·rename_i hc;have:=hs.cz n (bo ρ m) e _ b he h2 hb hb';exact notName n (by simpa using hc) m h1 this.symm
 cases aB with
 |true =>
  obtain ⟨D1,hD1⟩:∃ D1:aD,D1=fun b o=>D b o∨(b<w.heap.size∧¬ bQ (aq ρ os E) b):=⟨_,rfl⟩
  have hD:∀ b o,D b o→D1 b o:=fun b o hd=>by rw[hD1];exact .inl hd
  have hw:gw true (aw ts (dR (im ρ os) os0)) D E D1:=by
   refine ⟨hD,fun n T sz es b cap hn aq o _ =>?_,fun _ n x b aK hn aq o _ =>?_,fun _ n ks vs b hn aq =>?_⟩
   ·rw[hD1];exact .inr ⟨hs.eW aq rfl,other hs n _ b _ hn aq rfl⟩
   ·rw[hD1];exact .inr ⟨hs.eW aq rfl,other hs n _ b _ hn aq rfl⟩
   ·rw[hD1];exact .inr ⟨hs.eW aq rfl,other hs n _ b _ hn aq rfl⟩
  have hrv:=tI hs (dw.drop ts _ os0) hD hw avs cargs vs ha hv;refine hmono (h w D1 (aq ρ os E) vs (hsince.1 rfl _) (fun b o hd=>by
   rw[hD1] at hd;rcases hd with hd | hd
   ·exact hs.cL b o hd
   ·exact hd.1) (hs.Av hg hD fun b o hd ho=>by
    rw[hD1] at hd;rcases hd with hd | hd
    ·exact hd
    ·exact absurd ho hd.2) hrv) ?_
  rintro e w' ⟨v,D',E',r,os',he,hp,h1,h2,h3,h4,h5,h6,h7,h8⟩;obtain ⟨D2,E2,k1,k2⟩:=hs.kD hg hD (fun h=>by cases h) (hb r os' hp) h1 h2 h3 h5 h4 h8 h6 h7;exact ⟨v,r,os',D2,E2,he,hp,k1,k2⟩
 |false =>
  obtain ⟨hs1,hw⟩:=hs.mZ;have hw':gw false (aw ts (dR (im ρ os) os0)) D E (mU (aw ts os0) D E):=⟨hw.cI,fun n T sz es b cap hn aq o hlt=>hw.bE n T sz es b cap (dw.drop ts _ os0 n _ hn) aq o hlt,(fun hb=>by cases hb),fun hb=>by cases hb⟩
  have hrv:=tI hs (dw.drop ts _ os0) hw.cI hw' avs cargs vs ha hv;refine hmono (h w _ (aq ρ os E) vs (hsince.2 rfl) hs1.cL (hs1.Av hg (fun _ _ h=>h) fun b o hd _=>hd) hrv) ?_;rintro e w' ⟨v,D',E',r,os',he,hp,h1,h2,h3,h4,h5,h6,h7,h8⟩;obtain ⟨D2,E2,k1,k2⟩:=hs1.kD hg (fun _ _ h=>h) (fun _ _ _ h=>h) (hb r os' hp) h1 h2 h3 h5 h4 h8 h6 h7;exact ⟨v,r,os',D2,E2,he,hp,k1,k2⟩
theorem aL.since{A:ab}{a:Act}{w:World}{D:aD}{E E':aN}(h:aL c A a w D E)(aq:∀ n,E' n=E n∨E' n=none):xg c w D E' :=
 ⟨h.df,h.cw,h.cI,fun n e hn=>by
  rcases aq n with k | k
  ·rw[k];exact h.dy n e hn
  ·exact .inl k,h.fb,h.pH.rY fun b ⟨n,e,h1,h2⟩=>by
   rcases aq n with k | k
   ·rw[k] at h1;exact ⟨n,e,h1,h2⟩
   ·rw[k] at h1;cases h1⟩
theorem kN(c:cm)(f:FuncId):c.bh.fn f:=by unfold cm.bh;split <;>trivial
theorem uk(c:cm):c.bh.depth.isSome=true→1≤9:=fun _=>by omega
theorem iS{a:Act}{w:World} : ∀ f,o.about c.P w a.eval=some f→c.bh.fn f:=fun f _=>kN c f
theorem jh{g:bq}(hg:cA c.P o=some g)(r:Option Nat)(ρ:Operand→Value):o.semAt r ρ=execOp ρ o:=by
 cases r with
 |none=>rfl
 |some l =>
  refine Oper.semAt_some l ρ o fun cl h =>?_;unfold cA at hg;rw[h] at hg;simp at hg
theorem yU{f:FuncId}{args:Array Value}{w:World}{R:Ending→World→Prop}(h:Calls c.P f args w R):CallsIn c.bh (9-1) c.P f args w R:=by
 have h1:CallsIn Fence.wide (9-1) c.P f args w R:=callsIn_wide.2 h;unfold cm.bh;split
 ·exact h1
 ·exact h1
theorem qK.mono{P:Program}{v:Value}{vs:Array Value}{w:World}{R R':Ending→World→Prop}(h:qK P v vs w R)(hr:∀ e w,R e w→R' e w):qK P v vs w R':=by
 obtain ⟨l,h1,fn,tmps,assign,body,h2,h3⟩:=h;exact ⟨l,h1,fn,tmps,assign,body,h2,h3.mono hr⟩
theorem Xc{l:Nat}{f:FuncId}{tmps:Array Value}{assign body:Code}{w:World}{R:Ending→World→Prop}(h:RoundIn Fence.wide 9 c.P l f tmps assign body w R):RoundIn c.bh (9-1) c.P l f tmps assign body w R:=by
 have h1:RoundIn Fence.wide (9-1) c.P l f tmps assign body w R:=⟨h.1,fun cc cs _=>h.2 cc cs (room_wide _)⟩
 unfold cm.bh;split
 ·exact h1
 ·exact h1
theorem ga.wp{B:ab}{g:bq}(hg:cA c.P o=some g)(h:ga c A o B){a:Act}{w:World}{K:Act→World→Prop}{Q:Exit→Act→World→Prop}(hs:bA c A a w)(hK:∀ a w,bA c B a w→K a w):o.wpIn c.bh 9 c.P a w K Q:=by
 obtain ⟨D,E,hs⟩:=hs;obtain ⟨w',h⟩:=h a w D E hs;refine ⟨iS,?_⟩;rw[jh hg];rcases h with ⟨v,h1,h2⟩ | ⟨h1,h2⟩
 ·rw[h1];exact hK _ _ h2
 ·rw[h1];exact hK _ _ h2
theorem tX{dr:Bool}{K:ab→Prop}{f:FuncId}{avs:List I}{a1 a2:Option (List I)}{vs:List Value}{dst:Option Nat}{rest:List ar}{a:Act}{w:World}{Kw:Act→World→Prop}{Q:Exit→Act→World→Prop}{g:bq}(hg:cA c.P o=some g)(h1:bC true A avs=a1)(h2:bC false A avs=a2)
  (hs:∀ D E,aL c A a w D E→dY (aP w D E) avs vs) (hsim:bA c A a w) (hwp:aX c.P c.Y dr K (.call f avs a1 a2 dst rest A)) (hd:o.dst=dst) (hdn:∀ k,dst=some k→k<c.n)
  (hrun:dO c.P f=true→(execOp a.eval o).run c.P w=.ok (.enter f vs.toArray) w)
  (hK:∀ B a' w',aX c.P c.Y dr K (al rest B)→bA c B a' w'→Kw a' w'):o.wpIn c.bh 9 c.P a w Kw Q:=by
 obtain ⟨D,E,hsw⟩:=hsim;have ni:∀ {R:Ending→World→Prop},dO c.P f=true→Calls c.P f vs.toArray w R→(∀ e w',R e w'→∃ v,e=.returned v∧Kw (a.put o.dst v) w')→o.wpIn c.bh 9 c.P a w Kw Q:=fun {R} hc hcl hR=>by
  refine ⟨iS,?_⟩;rw[jh hg,hrun hc,Oper.uponIn_enter];refine ⟨uk c,yU (hcl.mono fun e w' he =>?_)⟩;obtain ⟨v,rfl,hv⟩:=hR e w' he;exact hv
 cases hwp with
 |flat r hspec hflat hrest =>
  refine ni hspec.1 (hspec.XT hsw hflat h1 (hs D E hsw)) ?_;rintro e w' ⟨v,D',he,hs',hv⟩;refine ⟨v,he,?_⟩;rw[hd];exact hK _ _ _ hrest ⟨D',E,hs'.aM hdn hv⟩
 |lead r hspec hrest =>
  refine ni hspec.1 (hspec.XV hsw h2 (hs D E hsw)) ?_;rintro e w' ⟨v,D',he,hs',hv⟩;refine ⟨v,he,?_⟩;rw[hd];exact hK _ _ _ hrest ⟨D',E,hs'.aM hdn hv⟩
 |js ns r hdr hspec hf ho hrest =>
  refine ni hspec.1 (hspec.XU hsw ns ho hf (hs D E hsw)) ?_;rintro e w' ⟨v,D',E',he,hs',hv⟩;refine ⟨v,he,?_⟩;rw[hd];exact hK _ _ _ hrest ⟨D',E',hs'.aM hdn hv⟩
 |bz aB ρ os cargs post hdr hspec hgv ha hb hrest =>
  refine ni hspec.1 (hspec.2.use hsw aB (fun h=>h.mono) ⟨fun _ _=>hsw.nV,fun _=>hsw.nV⟩ hgv ha hb (hs D E hsw)) ?_;rintro e w' ⟨v,r,os',D2,E2,he,hp,hs',hv,_⟩;refine ⟨v,he,?_⟩;rw[hd];exact hK _ _ _ (hrest r os' hp) ⟨D2,E2,hs'.aM hdn hv⟩
theorem HE{dr:Bool}{K:ab→Prop}{v:Value}{avs:List I}{vs:List Value}{dst:Option Nat}{rest:List ar}{a:Act}{w:World}{Kw:Act→World→Prop}{Q:Exit→Act→World→Prop}{g:bq}(hg:cA c.P o=some g)
  (hs:∀ D E,aL c A a w D E→dY (aP w D E) avs vs) (hsim:bA c A a w) (hwp:aX c.P c.Y dr K (.kH v avs dst rest A)) (hd:o.dst=dst) (hdn:∀ k,dst=some k→k<c.n)
  (hrun:∀ l,v=.func (.yield l) #[] #[]→(execOp a.eval o).run c.P w=(Instr.yield l vs.toArray).run c.P w)
  (hK:∀ B a' w',aX c.P c.Y dr K (al rest B)→bA c B a' w'→Kw a' w'):o.wpIn c.bh 9 c.P a w Kw Q:=by
 obtain ⟨D,E,hsw⟩:=hsim;cases hwp with
 |th os cargs post hdr hY hgv ha hb hrest =>
  have hyr:=(hsw.eI.2 _ _ _ _ hY).use (ρ:=[]) hsw false (fun h=>h.mono) ⟨(fun h=>by cases h),fun _=>hsw.mZ.1.since (fun n=>by simp only[aq,bo];split <;>simp)⟩ hgv ha hb (hs D E hsw);obtain ⟨l,rfl,fn,tmps,assign,body,h2,h3⟩:=hyr;refine ⟨iS,?_⟩;rw[jh hg,hrun l rfl,h2,Oper.uponIn_round];refine ⟨uk c,Xc (h3.mono fun e w' he =>?_)⟩;obtain ⟨v,r,os',D2,E2,rfl,hp,hs',hv,_⟩:=he;rw[hd];exact hK _ _ _ (hrest r os' hp) ⟨D2,E2,hs'.aM hdn hv⟩
end
section
variable {c:cm} {A:ab} {o:Oper}
theorem nB{P:Program}{n:Nat}{bg:Array Oper}{g:ar}(h:kG P n bg o=some g):cA P o=some g.op∧g.dst=o.dst∧(∀ k,o.dst=some k→k<n) ∧
  ((o.guard=none∧g.guard=none)∨∃ j b t,o.guard=some (j,b)∧(bg[j]?).bind (·.dst)=some t∧g.guard=some (t,b)):=by
 unfold kG at h;split at h
 ·cases h
 rename_i g' hg';split at h
 case isFalse=>cases h
 rename_i hd;have hdst:∀ k,o.dst=some k→k<n:=by
  intro k hk;rw[hk] at hd;simpa[zo] using hd
 split at h
 ·rename_i hgd;simp only[v6] at h;subst h;exact ⟨hg',rfl,hdst,.inl ⟨hgd,rfl⟩⟩
 ·rename_i j b hgd;split at h
  ·rename_i t ht;simp only[v6] at h;subst h;exact ⟨hg',rfl,hdst,.inr ⟨j,b,t,hgd,ht,rfl⟩⟩
  ·cases h
theorem Aj{dr:Bool}{K:ab→Prop}{op:bq}{dst:Option Nat}{rest:List ar}{a:Act}{w:World}{Kw:Act→World→Prop}{Q:Exit→Act→World→Prop}(hop:cA c.P o=some op)(hd:o.dst=dst)(hdn:∀ k,dst=some k→k<c.n)
  (hsim:bA c A a w) (hK:∀ B a' w',aX c.P c.Y dr K (al rest B)→bA c B a' w'→Kw a' w') (h:aX c.P c.Y dr K (b8 (aT A op) fun v=>al rest (A.aM dst v))):o.wpIn c.bh 9 c.P a w Kw Q:=by
 cases hv:aT A op with
 |some v =>
  rw[hv] at h;exact ((BZ hop hv).does (by rw[hd];exact hdn)).wp hop hsim (fun a' w' hs=>by rw[hd] at hs;exact hK _ a' w' h hs)
 |none=>rw[hv] at h;cases h
theorem SV{dr:Bool}{K:ab→Prop}{dst:Option Nat}{rest:List ar}{a:Act}{w:World}{Kw:Act→World→Prop}{Q:Exit→Act→World→Prop}{z:I}(hop:cA c.P o=some (.alloc z))(hd:o.dst=dst)(hdn:∀ k,dst=some k→k<c.n)
  (hwp:aX c.P c.Y dr K (aU A dst (.alloc z) rest (al rest))) (hsim:bA c A a w) (hK:∀ B a' w',aX c.P c.Y dr K (al rest B)→bA c B a' w'→Kw a' w'):o.wpIn c.bh 9 c.P a w Kw Q:=by
 have hop0:=hop;simp only[aU] at hwp;split at hwp
 case h_2=>cases hwp
 rename_i d;split at hwp
 case h_2=>cases hwp
 rename_i hf;unfold cA at hop;split at hop <;>try (first | (simp at hop;done) | ((repeat' split at hop) <;>simp at hop;done))
 rename_i t ho;simp only[t7,bq.alloc.injEq] at hop;obtain ⟨z',hz,rfl⟩:=hop;exact (Kz ho hz hd (hdn d rfl) hf).wp hop0 hsim (fun a' w' hs=>hK _ a' w' hwp hs)
theorem SZ{dr:Bool}{K:ab→Prop}{dst:Option Nat}{rest:List ar}{a:Act}{w:World}{Kw:Act→World→Prop}{Q:Exit→Act→World→Prop}{x:au}(hop:cA c.P o=some (.box x))(hd:o.dst=dst)(hdn:∀ k,dst=some k→k<c.n)
  (hwp:aX c.P c.Y dr K (aU A dst (.box x) rest (al rest))) (hsim:bA c A a w) (hK:∀ B a' w',aX c.P c.Y dr K (al rest B)→bA c B a' w'→Kw a' w'):o.wpIn c.bh 9 c.P a w Kw Q:=by
 have hop0:=hop;simp only[aU] at hwp;split at hwp
 case h_2=>cases hwp
 rename_i d;split at hwp
 case h_2=>cases hwp
 rename_i hf;split at hwp
 case isFalse=>cases hwp
 rename_i hv;unfold cA at hop;split at hop <;>try (first | (simp at hop;done) | ((repeat' split at hop) <;>simp at hop;done))
 rename_i t y ho;simp only[t7,bq.box.injEq] at hop;obtain ⟨z',hz,rfl⟩:=hop;exact (KE ho hz hv hd (hdn d rfl) hf).wp hop0 hsim (fun a' w' hs=>hK _ a' w' hwp hs)
theorem Tc{dr:Bool}{K:ab→Prop}{dst:Option Nat}{rest:List ar}{a:Act}{w:World}{Kw:Act→World→Prop}{Q:Exit→Act→World→Prop}{s:Option Nat}{x v:au}(hop:cA c.P o=some (.aV s x v))(hd:o.dst=dst)(hdn:∀ k,dst=some k→k<c.n)
  (hwp:aX c.P c.Y dr K (aU A dst (.aV s x v) rest (al rest))) (hsim:bA c A a w) (hK:∀ B a' w',aX c.P c.Y dr K (al rest B)→bA c B a' w'→Kw a' w'):o.wpIn c.bh 9 c.P a w Kw Q:=by
 have hop0:=hop;simp only[aU] at hwp;split at hwp
 case h_2=>cases hwp
 split at hwp
 case h_2=>cases hwp
 rename_i n p hp;split at hwp
 case h_2=>cases hwp
 rename_i b hb;split at hwp
 case h_2=>cases hwp
 rename_i old hat;split at hwp
 case isFalse=>cases hwp
 rename_i hok;unfold cA at hop;split at hop <;>try (first | (simp at hop;done) | ((repeat' split at hop) <;>simp at hop;done))
 rename_i t y z ho;split at hop
 case h_2=>cases hop
 rename_i s' x' v' h1 h2 h3;split at hop
 case isFalse=>cases hop
 rename_i hk;simp only[v6,bq.aV.injEq] at hop;obtain ⟨rfl,rfl,rfl⟩:=hop;exact (KM ho h1 hk h2 h3 hp hb hat hok.1 hok.2.1 hok.2.2 hd).wp hop0 hsim (fun a' w' hs=>hK _ a' w' hwp hs)
theorem S0{dr:Bool}{K:ab→Prop}{dst:Option Nat}{rest:List ar}{a:Act}{w:World}{Kw:Act→World→Prop}{Q:Exit→Act→World→Prop}{f:FuncId}{args:List au}(hop:cA c.P o=some (.call f args))(hd:o.dst=dst)(hdn:∀ k,dst=some k→k<c.n)
  (hwp:aX c.P c.Y dr K (aU A dst (.call f args) rest (al rest))) (hsim:bA c A a w) (hK:∀ B a' w',aX c.P c.Y dr K (al rest B)→bA c B a' w'→Kw a' w'):o.wpIn c.bh 9 c.P a w Kw Q:=by
 have hop0:=hop;simp only[aU] at hwp;unfold cA at hop;split at hop <;>try (first | (simp at hop;done) | ((repeat' split at hop) <;>simp at hop;done))
 rename_i f' xs ts ho;split at hop
 case isFalse=>simp at hop
 simp only[t7,bq.call.injEq] at hop;obtain ⟨ys,hys,rfl,rfl⟩:=hop;refine tX (vs:=xs.toList.map a.eval) hop0 rfl rfl (fun D E hs=>jO hs xs.toList ts.toList ys hys) hsim hwp hd hdn (fun hc =>?_) hK;have e:xs.map a.eval=(xs.toList.map a.eval).toArray:=by apply Array.ext';simp
 simp only[execOp,ho,resolve,Act.eval,Deferred.ofValue,Sem.run_bind,Sem.run_pure,Result.andThen_ok,invoke,Array.append_empty,Array.empty_append,lQ hc];rw[←e]
theorem Td{dr:Bool}{K:ab→Prop}{dst:Option Nat}{rest:List ar}{a:Act}{w:World}{Kw:Act→World→Prop}{Q:Exit→Act→World→Prop}{f:FuncId}{args:List au}(hop:cA c.P o=some (.gv f args))(hd:o.dst=dst)(hdn:∀ k,dst=some k→k<c.n)
  (hwp:aX c.P c.Y dr K (aU A dst (.gv f args) rest (al rest))) (hsim:bA c A a w) (hK:∀ B a' w',aX c.P c.Y dr K (al rest B)→bA c B a' w'→Kw a' w'):o.wpIn c.bh 9 c.P a w Kw Q:=by
 have hop0:=hop;simp only[aU] at hwp;unfold cA at hop;split at hop <;>try (first | (simp at hop;done) | ((repeat' split at hop) <;>simp at hop;done))
 rename_i f' xs ts ho;split at hop
 case isTrue=>simp at hop
 simp only[t7,bq.gv.injEq] at hop;obtain ⟨ys,hys,rfl,rfl⟩:=hop;obtain ⟨D,E,hs⟩:=hsim;cases hwp with
 |ext r hdr hx hw =>
  obtain ⟨v,g1,g2⟩:=hx c a w D E (xs.toList.map a.eval) rfl hs (jO hs xs.toList ts.toList ys hys);have e:xs.map a.eval=(xs.toList.map a.eval).toArray:=by apply Array.ext';simp
  have hrun:(execOp a.eval o).run c.P w=.ok (.value v) w:=by
   simp only[execOp,ho,resolve,Act.eval,Deferred.ofValue,Sem.run_bind,Sem.run_pure,Result.andThen_ok,invoke,Array.append_empty,Array.empty_append];rw[←e] at g1;exact g1
  refine ⟨iS,?_⟩;rw[jh hop0,hrun,Oper.uponIn_value];exact hK _ _ _ hw ⟨D,E,by rw[hd];exact hs.aM hdn g2⟩
theorem S5{dr:Bool}{K:ab→Prop}{dst:Option Nat}{rest:List ar}{a:Act}{w:World}{Kw:Act→World→Prop}{Q:Exit→Act→World→Prop} (hop:cA c.P o=some (.j5))(hd:o.dst=dst)(hdn:∀ k,dst=some k→k<c.n)
  (hwp:aX c.P c.Y dr K (aU A dst (.j5) rest (al rest))) (hsim:bA c A a w) (hK:∀ B a' w',aX c.P c.Y dr K (al rest B)→bA c B a' w'→Kw a' w'):o.wpIn c.bh 9 c.P a w Kw Q:=by
 have hop0:=hop;simp only[aU] at hwp;split at hwp
 case h_2=>cases hwp
 rename_i d;split at hwp
 case h_2=>cases hwp
 rename_i hf;unfold cA at hop;split at hop <;>try (first | (simp at hop;done) | ((repeat' split at hop) <;>simp at hop;done))
 rename_i t ho;exact (KJ ho hd (hdn d rfl) hf).wp hop0 hsim (fun a' w' hs=>hK _ a' w' hwp hs)
theorem S6{dr:Bool}{K:ab→Prop}{dst:Option Nat}{rest:List ar}{a:Act}{w:World}{Kw:Act→World→Prop}{Q:Exit→Act→World→Prop}{e:TypeId}{bytes:Nat}{z:I}{n:au}(hop:cA c.P o=some (.jd e bytes z n))(hd:o.dst=dst)(hdn:∀ k,dst=some k→k<c.n)
  (hwp:aX c.P c.Y dr K (aU A dst (.jd e bytes z n) rest (al rest))) (hsim:bA c A a w) (hK:∀ B a' w',aX c.P c.Y dr K (al rest B)→bA c B a' w'→Kw a' w'):o.wpIn c.bh 9 c.P a w Kw Q:=by
 have hop0:=hop;simp only[aU] at hwp;split at hwp
 case h_2=>cases hwp
 rename_i d;split at hwp
 case h_2=>cases hwp
 rename_i hf;split at hwp
 case h_2=>cases hwp
 rename_i k m hn;split at hwp
 case isFalse=>cases hwp
 rename_i hc;unfold cA at hop;split at hop <;>try (first | (simp at hop;done) | ((repeat' split at hop) <;>simp at hop;done))
 rename_i t l l' ho;split at hop
 case h_2=>cases hop
 rename_i e' n' hu hl;split at hop
 case h_2=>cases hop
 rename_i z' hz;split at hop
 case isFalse=>cases hop
 rename_i hc2;simp only[v6,bq.jd.injEq] at hop;obtain ⟨rfl,rfl,rfl,rfl⟩:=hop;obtain ⟨j,rfl⟩:=Y0 hc.1;simp only[Int.toNat_natCast] at hc hwp;exact (KK ho (Xl hc2.1) hu hl hn hz hc2.2.1 hc2.2.2 hc.2.1 hc.2.2 hd (hdn d rfl) hf).wp hop0 hsim (fun a' w' hs=>hK _ a' w' hwp hs)
theorem S7{dr:Bool}{K:ab→Prop}{dst:Option Nat}{rest:List ar}{a:Act}{w:World}{Kw:Act→World→Prop}{Q:Exit→Act→World→Prop}{ty:bZ}{m k v:au}(hop:cA c.P o=some (.jA ty m k v))(hd:o.dst=dst)(hdn:∀ k,dst=some k→k<c.n)
  (hwp:aX c.P c.Y dr K (aU A dst (.jA ty m k v) rest (al rest))) (hsim:bA c A a w) (hK:∀ B a' w',aX c.P c.Y dr K (al rest B)→bA c B a' w'→Kw a' w'):o.wpIn c.bh 9 c.P a w Kw Q:=by
 have hop0:=hop;simp only[aU] at hwp;split at hwp
 case h_2=>cases hwp
 split at hwp
 case h_2=>cases hwp
 rename_i n hm;split at hwp
 case h_2=>cases hwp
 rename_i ks vs hn;split at hwp
 case h_2=>cases hwp
 rename_i ks' vs' hl;unfold cA at hop;split at hop <;>try (first | (simp at hop;done) | ((repeat' split at hop) <;>simp at hop;done))
 all_goals
  rename_i t mo ko vo ho;split at hop
  case h_2=>cases hop
  rename_i kt et m' k' hu h1 h2;split at hop
  case h_2=>cases hop
  rename_i ty' v' hk h3;simp only[v6,bq.jA.injEq] at hop;obtain ⟨rfl,rfl,rfl,rfl⟩:=hop
 ·exact (zn (.inl ho) hu hk h1 h2 h3 hm hn hl hd).wp hop0 hsim (fun a' w' hs=>hK _ a' w' hwp hs)
 ·exact (zn (.inr ho) hu hk h1 h2 h3 hm hn hl hd).wp hop0 hsim (fun a' w' hs=>hK _ a' w' hwp hs)
theorem S4{dr:Bool}{K:ab→Prop}{dst:Option Nat}{rest:List ar}{a:Act}{w:World}{Kw:Act→World→Prop}{Q:Exit→Act→World→Prop}{ty:bZ}{m k:au}(hop:cA c.P o=some (.kR ty m k))(hd:o.dst=dst)(hdn:∀ k,dst=some k→k<c.n)
  (hwp:aX c.P c.Y dr K (aU A dst (.kR ty m k) rest (al rest))) (hsim:bA c A a w) (hK:∀ B a' w',aX c.P c.Y dr K (al rest B)→bA c B a' w'→Kw a' w'):o.wpIn c.bh 9 c.P a w Kw Q:=by
 have hop0:=hop;simp only[aU] at hwp;split at hwp
 case h_2=>cases hwp
 split at hwp
 case h_2=>cases hwp
 rename_i n hm;split at hwp
 case h_2=>cases hwp
 rename_i ks vs hn;split at hwp
 case h_2=>cases hwp
 rename_i ks' vs' hl;unfold cA at hop;split at hop <;>try (first | (simp at hop;done) | ((repeat' split at hop) <;>simp at hop;done))
 rename_i args tys ho;split at hop
 case h_2=>cases hop
 rename_i mo ko t t' ha ht;split at hop
 case h_2=>cases hop
 rename_i kt et m' k' hu h1 h2;simp only[t7,bq.kR.injEq] at hop;obtain ⟨ty',hk,rfl,rfl,rfl⟩:=hop;have ha':args = #[mo,ko]:=by apply Array.ext';simpa using ha
 have ht':tys = #[t,t']:=by apply Array.ext';simpa using ht
 subst ha' ht';exact (KI ho hu hk h1 h2 hm hn hl hd).wp hop0 hsim (fun a' w' hs=>hK _ a' w' hwp hs)
theorem Ta{dr:Bool}{K:ab→Prop}{dst:Option Nat}{rest:List ar}{a:Act}{w:World}{Kw:Act→World→Prop}{Q:Exit→Act→World→Prop}{x:au}(hop:cA c.P o=some (.jI x))(hd:o.dst=dst)(hdn:∀ k,dst=some k→k<c.n)
  (hwp:aX c.P c.Y dr K (aU A dst (.jI x) rest (al rest))) (hsim:bA c A a w) (hK:∀ B a' w',aX c.P c.Y dr K (al rest B)→bA c B a' w'→Kw a' w'):o.wpIn c.bh 9 c.P a w Kw Q:=by
 have hop0:=hop;simp only[aU] at hwp;split at hwp
 case h_2=>cases hwp
 rename_i d;split at hwp
 case h_2=>cases hwp
 rename_i hf;split at hwp
 case h_2=>cases hwp
 rename_i ks vs hx;unfold cA at hop;split at hop <;>try (first | (simp at hop;done) | ((repeat' split at hop) <;>simp at hop;done))
 rename_i t y ho;split at hop
 case h_2=>cases hop
 rename_i kt et hu;simp only[t7,bq.jI.injEq] at hop;obtain ⟨z,hz,rfl⟩:=hop;exact (KL ho hu hz hx hd (hdn d rfl) hf).wp hop0 hsim (fun a' w' hs=>hK _ a' w' hwp hs)
theorem S9{dr:Bool}{K:ab→Prop}{dst:Option Nat}{rest:List ar}{a:Act}{w:World}{Kw:Act→World→Prop}{Q:Exit→Act→World→Prop}{x:au}(hop:cA c.P o=some (.jB x))(hd:o.dst=dst)(hdn:∀ k,dst=some k→k<c.n)
  (hwp:aX c.P c.Y dr K (aU A dst (.jB x) rest (al rest))) (hsim:bA c A a w) (hK:∀ B a' w',aX c.P c.Y dr K (al rest B)→bA c B a' w'→Kw a' w'):o.wpIn c.bh 9 c.P a w Kw Q:=by
 have hop0:=hop;simp only[aU] at hwp;split at hwp
 case h_2=>cases hwp
 rename_i n hx;split at hwp
 case h_2=>cases hwp
 rename_i ks vs left cur hn;unfold cA at hop;split at hop <;>try (first | (simp at hop;done) | ((repeat' split at hop) <;>simp at hop;done))
 rename_i y ho;simp only[t7,bq.jB.injEq] at hop;obtain ⟨z,hz,rfl⟩:=hop;obtain ⟨D,E,hs⟩:=hsim;obtain ⟨w',v,hrun,hor⟩:=U7 ho hz hx hn (by rw[hd];exact hdn) hs;refine ⟨iS,?_⟩;rw[jh hop0,hrun,Oper.uponIn_value];rw[hd] at hor;split at hwp
 ·rename_i hl;rcases hor with ⟨_,hor⟩ | ⟨i,k,x,hi,_⟩
  ·exact hK _ _ _ hwp (by rw[hd];exact hor)
  ·rw[hl] at hi;cases hi
 ·rename_i hl;rcases hor with ⟨h,_⟩ | ⟨i,k,x,hi,hk,hx,hor⟩
  ·exact absurd h hl
  ·cases hwp with
   |any hdr hall =>
    have:=hall i hi;simp only[hk,hx] at this;exact hK _ _ _ this (by rw[hd];exact hor)
theorem S1{dr:Bool}{K:ab→Prop}{dst:Option Nat}{rest:List ar}{a:Act}{w:World}{Kw:Act→World→Prop}{Q:Exit→Act→World→Prop}{x:au}{args:List au}(hop:cA c.P o=some (.eX x args))(hd:o.dst=dst)(hdn:∀ k,dst=some k→k<c.n)
  (hwp:aX c.P c.Y dr K (aU A dst (.eX x args) rest (al rest))) (hsim:bA c A a w) (hK:∀ B a' w',aX c.P c.Y dr K (al rest B)→bA c B a' w'→Kw a' w'):o.wpIn c.bh 9 c.P a w Kw Q:=by
 have hop0:=hop;simp only[aU] at hwp;unfold cA at hop;split at hop <;>try (first | (simp at hop;done) | ((repeat' split at hop) <;>simp at hop;done))
 rename_i y xs ts _ ho;split at hop
 case h_2=>cases hop
 rename_i y' ys h1 h2;simp only[v6,bq.eX.injEq] at hop;obtain ⟨rfl,rfl⟩:=hop;obtain ⟨D,E,hs⟩:=hsim;have hv:=bn hs h1;split at hwp
 ·rename_i f caps hx;rw[hx] at hv;obtain ⟨cs,q1,q2⟩:=hv;simp only[ae] at q2;obtain ⟨vs,q3,q4⟩:=q2;have hval:a.eval y=iH f vs:=by simpa[aW,I.isAgg,q3] using q1.symm
  have caps_ok:∀ D' E',aL c A a w D' E'→dY (aP w D' E') caps vs:=fun D' E' hs'=>by
   have hv':=bn hs' h1;rw[hx] at hv';obtain ⟨cs',q1',q2'⟩:=hv';simp only[ae] at q2';obtain ⟨vs',q3',q4'⟩:=q2';have hval':a.eval y=iH f vs':=by simpa[aW,I.isAgg,q3'] using q1'.symm
   rw[hval] at hval';have:=Lw hval';subst this;exact oo q4'
  have e:xs.map a.eval=(xs.toList.map a.eval).toArray:=by apply Array.ext';simp
  rcases Nat.lt_or_ge f 1000000 with hf | hf
  ·rw[uF hf,uE hf] at hwp;rw[lC hf] at hval;refine tX (vs:=xs.toList.map a.eval++vs) hop0 rfl rfl (fun D' E' hs'=>(jO hs' xs.toList ts.toList ys h2).append (caps_ok D' E' hs')) ⟨D,E,hs⟩ hwp hd hdn (fun hc =>?_) hK;simp only[execOp,ho,resolve,hval,Deferred.ofValue,Sem.run_bind,Sem.run_pure,Result.andThen_ok,invoke,Array.empty_append,lQ hc];rw[e];simp
  ·obtain ⟨g,rfl⟩:∃ g:Nat,f=g+1000000:=⟨Nat.sub f 1000000,(Nat.sub_add_cancel hf).symm⟩
   rw[zI,zH] at hwp;rw[pq] at hval;refine tX (vs:=vs++xs.toList.map a.eval) hop0 rfl rfl (fun D' E' hs'=>(caps_ok D' E' hs').append (jO hs' xs.toList ts.toList ys h2)) ⟨D,E,hs⟩ hwp hd hdn (fun hc =>?_) hK;simp only[execOp,ho,resolve,hval,Deferred.ofValue,Sem.run_bind,Sem.run_pure,Result.andThen_ok,invoke,Array.append_empty,lQ hc];rw[e];simp
 ·rename_i u hx;rw[hx] at hv;obtain ⟨cs,q1,q2⟩:=hv;simp only[ae] at q2;have hval:a.eval y=u:=by simpa[aW,I.isAgg,q2.1] using q1.symm
  refine HE (vs:=xs.toList.map a.eval) hop0 (fun D' E' hs'=>jO hs' xs.toList ts.toList ys h2) ⟨D,E,hs⟩ hwp hd hdn (fun l hl =>?_) hK;subst hl;have e:xs.map a.eval=(xs.toList.map a.eval).toArray:=by apply Array.ext';simp
  simp only[execOp,ho,resolve,hval,Deferred.ofValue,Sem.run_bind,Sem.run_pure,Result.andThen_ok,invoke,Array.empty_append];rw[e]
 ·cases hwp
theorem S8{dr:Bool}{K:ab→Prop}{dst:Option Nat}{rest:List ar}{a:Act}{w:World}{Kw:Act→World→Prop}{Q:Exit→Act→World→Prop}{neg:Bool}{x:au}(hop:cA c.P o=some (.nilS neg x))(hd:o.dst=dst)(hdn:∀ k,dst=some k→k<c.n)
  (hwp:aX c.P c.Y dr K (aU A dst (.nilS neg x) rest (al rest))) (hsim:bA c A a w) (hK:∀ B a' w',aX c.P c.Y dr K (al rest B)→bA c B a' w'→Kw a' w'):o.wpIn c.bh 9 c.P a w Kw Q:=by
 have hop0:=hop;simp only[aU] at hwp;split at hwp
 case isFalse=>exact Aj hop hd hdn hsim hK hwp
 rename_i hu;cases hwp with
 |any hdr hall =>
 unfold cA at hop;split at hop <;>try (first | (simp at hop;done) | ((repeat' split at hop) <;>simp at hop;done))
 rename_i bop t y z yt ho;split at hop
 ·simp at hop
 ·simp at hop
 ·rename_i e y' z' hut h1 h2;split at hop
  ·rename_i s;split at hop
   ·rename_i hopp;simp only[v6,bq.nilS.injEq] at hop;obtain ⟨rfl,rfl⟩:=hop;have ho':o.op=.binOp (if (bop==.neq)=true then .neq else .eql) t y z yt:=by
     rcases hopp with rfl | rfl <;>simpa using ho
    obtain ⟨D,E,hs⟩:=hsim;have hund:∃ sz,af A y'=.slice sz []∨af A y'=.c0 sz:=by
     generalize af A y'=q at hu;cases q <;>simp only[iN,Z7,List.isEmpty_iff] at hu
     ·rename_i sz;exact ⟨sz,.inr rfl⟩
     ·rename_i sz es;subst hu;exact ⟨sz,.inl rfl⟩
    obtain ⟨b,hrun⟩:=U8 ho' hut h1 h2 hund hs;refine ⟨iS,?_⟩;rw[jh hop0,hrun,Oper.uponIn_value];have hb:=hall (if b then 0 else 1) (by cases b <;>simp);refine hK _ _ _ hb ⟨D,E,?_⟩;rw[hd];have e:((if b=true then (0:Nat) else 1)==0)=b:=by cases b <;>rfl
    rw[e];exact hs.aM hdn (j4 b)
   ·cases hop
  ·cases hop
 ·split at hop <;>simp at hop
 ·(repeat' split at hop) <;>simp at hop
 ·split at hop <;>simp at hop
 ·cases hop
theorem SX{dr:Bool}{K:ab→Prop}{dst:Option Nat}{rest:List ar}{a:Act}{w:World}{Kw:Act→World→Prop}{Q:Exit→Act→World→Prop}{e:TypeId}{esz bytes:Nat}{z:I}{s x:au}(hop:cA c.P o=some (.dM e esz bytes z s x))(hd:o.dst=dst)(hdn:∀ k,dst=some k→k<c.n)
  (hwp:aX c.P c.Y dr K (aU A dst (.dM e esz bytes z s x) rest (al rest))) (hsim:bA c A a w) (hK:∀ B a' w',aX c.P c.Y dr K (al rest B)→bA c B a' w'→Kw a' w'):o.wpIn c.bh 9 c.P a w Kw Q:=by
 have hop0:=hop;simp only[aU] at hwp;unfold cA at hop;split at hop <;>try (first | (simp at hop;done) | ((repeat' split at hop) <;>simp at hop;done))
 rename_i args tys ho;split at hop
 case h_2=>cases hop
 rename_i y q t t' ha ht;split at hop
 case h_2=>cases hop
 rename_i e' s' x' k1 k2 k3;split at hop
 case isFalse=>split at hop <;>simp at hop
 rename_i hk;simp only[t7,bq.dM.injEq] at hop;obtain ⟨zz,hz1,rfl,rfl,rfl,rfl,rfl,rfl⟩:=hop;obtain ⟨rfl,hk2,hk3⟩:=hk;have ha':args = #[y,q]:=by apply Array.ext';simpa using ha
 have ht':tys = #[t,t]:=by apply Array.ext';simpa using ht
 subst ha' ht';rw[hz1] at hk3;simp only[Y1,v6] at hk3;have hinfo:(c.P.info? e').isSome=true:=by
  obtain ⟨ti,_,hti,_⟩:=kp hz1;rw[hti];rfl
 have grow:∀ es ys,cO A (c.P.cellsOf e') (af A s')=some es→cO A (c.P.cellsOf e') (af A x')=some ys→ys≠[]→(∀ a w D E,aL c A a w D E→∀ ad l cp,a.eval y=.slice ad l cp→cp<l+ys.length) →
   aX c.P c.Y dr K (eN A dst (c.P.cellsOf e') (c.P.bytesOf e') zz es ys (al rest))→o.wpIn c.bh 9 c.P a w Kw Q:=fun es ys hse hsx hne hfull h=>by
  simp only[eN] at h;split at h
  case h_2=>cases h
  rename_i d;split at h
  case h_2=>cases h
  rename_i hf;split at h
  case isFalse=>cases h
  rename_i hb;cases h with
  |any hdr hall =>
   obtain ⟨D,E,hs⟩:=hsim;obtain ⟨v,w',m,g1,g2,g3⟩:=FR ho k1 k2 k3 hz1 hk3 hse hsx hb.1 hd (hdn d rfl) hf hne hs (hfull a w D E hs) hb.2;refine ⟨iS,?_⟩;rw[jh hop0,g1,Oper.uponIn_value,hd];rw[hd] at g3;exact hK _ _ _ (hall m g2) g3
 split at hwp
 ·rename_i n l hs';split at hwp
  case h_2=>cases hwp
  rename_i sz ys hx';split at hwp
  case h_3=>cases hwp
  case h_2 =>
   rename_i T xs hn;split at hwp
   case isFalse=>cases hwp
   rename_i hok;obtain ⟨h1,h2,h3,h4,h5,h6,h7,h8⟩:=hok;subst h3 h4;have hl5:ys.length=(pz ys).length:=(congrArg List.length h5).trans (by simp);rw[hl5] at h7 h8 hwp;rw[h5] at hx';have hd':=KB (o:=o) ho k1 k2 k3 hz1 h2 hs' hn h1 hx' (fun e=>h6 (by rw[h5,e];rfl)) h7 h8 (by rw[hd];exact hdn);exact hd'.wp hop0 hsim (fun a' w' hs=>by rw[hd] at hs;exact hK _ a' w' hwp hs)
  rename_i T sz' es hn;split at hwp
  case isFalse=>cases hwp
  rename_i hok;obtain ⟨h1,h2,h3,h4,h5,h6,h7⟩:=hok;subst h2 h3 h4;have hd':=KA (o:=o) ho k1 k2 k3 hz1 hk3 hk2 hs' hn h1 hx' rfl h5 h6 h7 (by rw[hd];exact hdn);exact hd'.wp hop0 hsim (fun a' w' hs=>by rw[hd] at hs;exact hK _ a' w' hwp hs)
 ·simp only[eb] at hwp;split at hwp
  case h_2=>cases hwp
  rename_i es ys hse hsx;split at hwp
  ·rename_i hne;subst hne;exact ((KD ho k1 hinfo k2 k3 hse hsx).does (by rw[hd];exact hdn)).wp hop0 hsim (fun a' w' hs=>by rw[hd] at hs;exact hK _ a' w' hwp hs)
  ·rename_i hne;have hpos:0<ys.length:=List.length_pos_iff.2 hne;split at hwp
   ·rename_i z0 hsv;refine grow es ys hse hsx hne (fun a w D E hs ad l cp hv =>?_) hwp;have h0:=bn hs k2;rw[hsv] at h0;obtain ⟨cs,q1,q2⟩:=h0;simp only[ae] at q2;have:a.eval y=.slice none 0 0:=by simpa[aW,I.isAgg,q2] using q1.symm
    rw[this] at hv;simp only[Value.slice.injEq] at hv;omega
   ·rename_i z0 hsv;refine grow es ys hse hsx hne (fun a w D E hs ad l cp hv =>?_) hwp;have h0:=bn hs k2;rw[hsv] at h0;obtain ⟨cs,q1,q2⟩:=h0;simp only[ae] at q2;obtain ⟨ad',q2⟩:=q2;have:a.eval y=.slice ad' 0 0:=by simpa[aW,I.isAgg,q2] using q1.symm
    rw[this] at hv;simp only[Value.slice.injEq] at hv;omega
   ·rename_i n p sz lo l hsv;split at hwp
    case h_2=>cases hwp
    rename_i b hn;split at hwp
    case h_2=>cases hwp
    rename_i fs hat;split at hwp
    ·rename_i hroom;split at hwp
     case isFalse=>cases hwp
     rename_i hok;obtain ⟨rfl,hsh⟩:=hok;exact (KC ho k1 hinfo k2 k3 hsv hn hat hsx hroom hsh (by rw[hd];exact hdn)).wp hop0 hsim (fun a' w' hs=>by rw[hd] at hs;exact hK _ a' w' hwp hs)
    ·rename_i hroom;refine grow es ys hse hsx hne (fun a w D E hs ad l' cp hv =>?_) hwp;have h0:=bn hs k2;rw[hsv] at h0;obtain ⟨_,bb,cs,T,off,c1,c2,c3,_,_,_,_,_,_,_,_,_,_,r1,ir,sG⟩:=hs.view (fs:=fs) h0 (by simp only[bO,hn,hat]);rw[sG] at hv;simp only[Value.slice.injEq] at hv;omega
   ·cases hwp
theorem SY{dr:Bool}{K:ab→Prop}{dst:Option Nat}{rest:List ar}{a:Act}{w:World}{Kw:Act→World→Prop}{Q:Exit→Act→World→Prop}{e:TypeId}{esz bytes:Nat}{z:I}{s n:au}(hop:cA c.P o=some (.jj e esz bytes z s n))(hd:o.dst=dst)(hdn:∀ k,dst=some k→k<c.n)
  (hwp:aX c.P c.Y dr K (aU A dst (.jj e esz bytes z s n) rest (al rest))) (hsim:bA c A a w) (hK:∀ B a' w',aX c.P c.Y dr K (al rest B)→bA c B a' w'→Kw a' w'):o.wpIn c.bh 9 c.P a w Kw Q:=by
 have hop0:=hop;simp only[aU] at hwp;unfold cA at hop;split at hop <;>try (first | (simp at hop;done) | ((repeat' split at hop) <;>simp at hop;done))
 rename_i args tys ho;split at hop
 case h_2=>cases hop
 rename_i y q t t' ha ht;split at hop
 case h_2=>cases hop
 rename_i e' s' x' k1 k2 k3;split at hop
 case isTrue=>simp at hop
 split at hop
 case isFalse=>cases hop
 rename_i hk;simp only[t7,bq.jj.injEq] at hop;obtain ⟨zz,hz1,rfl,rfl,rfl,rfl,rfl,rfl⟩:=hop;obtain ⟨hint,hk2,hk3⟩:=hk;have ha':args = #[y,q]:=by apply Array.ext';simpa using ha
 have ht':tys = #[t,t']:=by apply Array.ext';simpa using ht
 subst ha' ht';rw[hz1] at hk3;simp only[Y1,v6] at hk3;obtain ⟨kt,hkt⟩:∃ kt,c.P.underlying t'=some (.int kt):=by
  cases hu:c.P.underlying t' with
  |none=>rw[hu] at hint;cases hint
  |some dsc=>cases dsc <;>rw[hu] at hint <;>first | exact ⟨_,rfl⟩ | cases hint
 split at hwp
 case h_2=>cases hwp
 rename_i kx bw hx';simp only[oS] at hwp;split at hwp
 case h_2=>cases hwp
 rename_i es hse;split at hwp
 case h_2=>cases hwp
 rename_i nn p sz lo l hsv;split at hwp
 case h_2=>cases hwp
 rename_i bb hn;split at hwp
 case h_2=>cases hwp
 rename_i fs hat;split at hwp
 case isFalse=>cases hwp
 rename_i hroom;simp only[eN] at hwp;split at hwp
 case h_2=>cases hwp
 rename_i d;split at hwp
 case h_2=>cases hwp
 rename_i hf;split at hwp
 case isFalse=>cases hwp
 rename_i hb;rw[List.length_replicate] at hb;cases hwp with
 |any hdr hall =>
  obtain ⟨D,E,hs⟩:=hsim;obtain ⟨v,w',m,g1,g2,g3⟩:=FU ho k1 k2 k3 hkt hx' rfl hroom.1 hk2 hz1 hk3 hse hb.1 hd (hdn d rfl) hf hs (fun ad l' cp hv=>by
   have h0:=bn hs k2;rw[hsv] at h0;have hsv':=hse;obtain ⟨_,b1,cs,T,off,c1,c2,c3,_,_,_,_,_,_,_,_,_,_,r1,ir,sG⟩:=hs.view (fs:=fs) h0 (by simp only[bO,hn,hat]);rw[sG] at hv;simp only[Value.slice.injEq] at hv;have hel:es.length=l:=by
    rw[hsv] at hse;simp only[cO,bO,hn,hat] at hse;split at hse
    ·simp only[v6] at hse;rw[←hse,Z6,List.length_drop];omega
    ·cases hse
   omega) hb.2
  refine ⟨iS,?_⟩;rw[jh hop0,g1,Oper.uponIn_value,hd];rw[hd] at g3;have:=hall m (by rw[List.length_replicate];exact g2);rw[List.length_replicate] at this;exact hK _ _ _ this g3
theorem S2{dr:Bool}{K:ab→Prop}{dst:Option Nat}{rest:List ar}{a:Act}{w:World}{Kw:Act→World→Prop}{Q:Exit→Act→World→Prop}{esz:Nat}{z:I}{x:au}(hop:cA c.P o=some (.iV esz z x))(hd:o.dst=dst)(hdn:∀ k,dst=some k→k<c.n)
  (hwp:aX c.P c.Y dr K (aU A dst (.iV esz z x) rest (al rest))) (hsim:bA c A a w) (hK:∀ B a' w',aX c.P c.Y dr K (al rest B)→bA c B a' w'→Kw a' w'):o.wpIn c.bh 9 c.P a w Kw Q:=by
 have hop0:=hop;simp only[aU] at hwp;split at hwp
 case h_2=>cases hwp
 unfold cA at hop;split at hop <;>try (first | (simp at hop;done) | ((repeat' split at hop) <;>simp at hop;done))
 rename_i args tys ho;split at hop
 case h_2=>cases hop
 rename_i y t ha ht;split at hop
 case h_2=>cases hop
 rename_i e' x' k1 k2;simp only[t7,bq.iV.injEq] at hop;obtain ⟨zz,hz1,rfl,rfl,rfl⟩:=hop;have ha':args = #[y]:=by apply Array.ext';simpa using ha
 have ht':tys = #[t]:=by apply Array.ext';simpa using ht
 subst ha' ht';have nothing:aX c.P c.Y dr K (al rest A)→(∀ a w D E,aL c A a w D E→∃ ad cp,a.eval y=.slice ad 0 cp)→o.wpIn c.bh 9 c.P a w Kw Q:=fun h hv=>by
  obtain ⟨D,E,hs⟩:=hsim;obtain ⟨ad,cp,hv⟩:=hv a w D E hs;refine ⟨iS,?_⟩;have hrun:(execOp a.eval o).run c.P w=.ok (.value (.tuple #[])) w:=by
   cases ad <;>simp[execOp,ho,resolve,invoke,builtin,Builtin.clear_,run_underlying k1,hv]
  rw[jh hop0,hrun,Oper.uponIn_value,hd];exact hK _ _ _ h ⟨D,E,hs⟩
 unfold nC at hwp;split at hwp
 ·rename_i n p sz lo l hv;split at hwp
  case h_2=>cases hwp
  rename_i b hn;split at hwp
  case h_2=>cases hwp
  rename_i fs hat;split at hwp
  case isFalse=>cases hwp
  rename_i hok;obtain ⟨rfl,hsh⟩:=hok;exact (KF ho k1 k2 hz1 hv hn hat hsh hd).wp hop0 hsim (fun a' w' hs=>hK _ a' w' hwp hs)
 ·rename_i z0 hv;refine nothing hwp fun a w D E hs =>?_;have h0:=bn hs k2;rw[hv] at h0;obtain ⟨cs,q1,q2⟩:=h0;simp only[ae] at q2;exact ⟨none,0,by simpa[aW,I.isAgg,q2] using q1.symm⟩
 ·rename_i z0 hv;refine nothing hwp fun a w D E hs =>?_;have h0:=bn hs k2;rw[hv] at h0;obtain ⟨cs,q1,q2⟩:=h0;simp only[ae] at q2;obtain ⟨ad,q2⟩:=q2;exact ⟨ad,0,by simpa[aW,I.isAgg,q2] using q1.symm⟩
 ·cases hwp
theorem S3{dr:Bool}{K:ab→Prop}{dst:Option Nat}{rest:List ar}{a:Act}{w:World}{Kw:Act→World→Prop}{Q:Exit→Act→World→Prop}{esz:Nat}{x y:au}(hop:cA c.P o=some (.fP esz x y))(hd:o.dst=dst)(hdn:∀ k,dst=some k→k<c.n)
  (hwp:aX c.P c.Y dr K (aU A dst (.fP esz x y) rest (al rest))) (hsim:bA c A a w) (hK:∀ B a' w',aX c.P c.Y dr K (al rest B)→bA c B a' w'→Kw a' w'):o.wpIn c.bh 9 c.P a w Kw Q:=by
 have hop0:=hop;simp only[aU] at hwp;unfold cA at hop;split at hop <;>try (first | (simp at hop;done) | ((repeat' split at hop) <;>simp at hop;done))
 rename_i args tys ho;split at hop
 case h_2=>cases hop
 rename_i u v t t' ha ht;split at hop
 case h_2=>cases hop
 rename_i e' x' y' k1 k2 k3;split at hop
 case isFalse=>cases hop
 rename_i hk;simp only[v6,bq.fP.injEq] at hop;obtain ⟨rfl,rfl,rfl⟩:=hop;obtain ⟨_,hinfo⟩:=hk;have ha':args = #[u,v]:=by apply Array.ext';simpa using ha
 have ht':tys = #[t,t']:=by apply Array.ext';simpa using ht
 subst ha' ht';unfold jS at hwp;split at hwp
 ·rename_i n p sz lo l ys hv hsx;split at hwp
  case h_2=>cases hwp
  rename_i b hn;split at hwp
  case h_2=>cases hwp
  rename_i fs hat;split at hwp
  case isFalse=>cases hwp
  rename_i hok;obtain ⟨rfl,hsh⟩:=hok;exact (KG ho k1 hinfo k2 k3 hv hn hat hsx rfl hsh (by rw[hd];exact hdn)).wp hop0 hsim (fun a' w' hs=>by rw[hd] at hs;exact hK _ a' w' hwp hs)
 ·rename_i z0 ys hv hsx;exact (KH ho k1 hinfo k2 k3 hv hsx (by rw[hd];exact hdn)).wp hop0 hsim (fun a' w' hs=>by rw[hd] at hs;exact hK _ a' w' hwp hs)
 ·cases hwp
theorem Tb{dr:Bool}{K:ab→Prop}{dst:Option Nat}{rest:List ar}{a:Act}{w:World}{Kw:Act→World→Prop}{Q:Exit→Act→World→Prop}{x:au}(hop:cA c.P o=some (.ef x))(hd:o.dst=dst)(hdn:∀ k,dst=some k→k<c.n)
  (hwp:aX c.P c.Y dr K (aU A dst (.ef x) rest (al rest))) (hsim:bA c A a w) (hK:∀ B a' w',aX c.P c.Y dr K (al rest B)→bA c B a' w'→Kw a' w'):o.wpIn c.bh 9 c.P a w Kw Q:=by
 have hop0:=hop;simp only[aU] at hwp;unfold cA at hop;split at hop <;>try (first | (simp at hop;done) | ((repeat' split at hop) <;>simp at hop;done))
 rename_i t t' y ho;split at hop
 case h_1=>simp at hop
 case h_2=>(repeat' split at hop) <;>simp at hop
 case h_4=>cases hop
 rename_i e y' k1 k2 k3;split at hop
 case h_2=>cases hop
 rename_i k4;simp only[v6,bq.ef.injEq] at hop;subst hop;cases hse:kZ (af A y') with
 |none=>rw[hse] at hwp;simp only[gY] at hwp;cases hwp
 |some ys =>
  rw[hse] at hwp;simp only[gY] at hwp;split at hwp
  case h_2=>cases hwp
  rename_i d;split at hwp
  case h_2=>cases hwp
  rename_i hf;cases hwp with
  |any hdr hall =>
   obtain ⟨D,E,hs⟩:=hsim;obtain ⟨v,w',m,g1,g2,g3⟩:=Xj ho k1 k2 k4 k3 hse hd (hdn d rfl) hf hs;refine ⟨iS,?_⟩;rw[jh hop0,g1,Oper.uponIn_value,hd];rw[hd] at g3;exact hK _ _ _ (hall m g2) g3
theorem rH{dr:Bool}{K:ab→Prop}{op:bq}{dst:Option Nat}{rest:List ar}{a:Act}{w:World}{Kw:Act→World→Prop}{Q:Exit→Act→World→Prop}(hop:cA c.P o=some op)(hd:o.dst=dst)(hdn:∀ k,dst=some k→k<c.n)
  (hwp:aX c.P c.Y dr K (aU A dst op rest (al rest))) (hsim:bA c A a w) (hK:∀ B a' w',aX c.P c.Y dr K (al rest B)→bA c B a' w'→Kw a' w'):o.wpIn c.bh 9 c.P a w Kw Q:=by
 cases op with
 |alloc z=>exact SV hop hd hdn hwp hsim hK
 |box x=>exact SZ hop hd hdn hwp hsim hK
 |aV s x v=>exact Tc hop hd hdn hwp hsim hK
 |call f args=>exact S0 hop hd hdn hwp hsim hK
 |gv f args=>exact Td hop hd hdn hwp hsim hK
 |j5=>exact S5 hop hd hdn hwp hsim hK
 |jd e bytes z n=>exact S6 hop hd hdn hwp hsim hK
 |jA ty m k v=>exact S7 hop hd hdn hwp hsim hK
 |kR ty m k=>exact S4 hop hd hdn hwp hsim hK
 |jI x=>exact Ta hop hd hdn hwp hsim hK
 |jB x=>exact S9 hop hd hdn hwp hsim hK
 |eX x args=>exact S1 hop hd hdn hwp hsim hK
 |nilS neg x=>exact S8 hop hd hdn hwp hsim hK
 |dM e esz bytes z s x=>exact SX hop hd hdn hwp hsim hK
 |jj e esz bytes z s n=>exact SY hop hd hdn hwp hsim hK
 |iV esz z x=>exact S2 hop hd hdn hwp hsim hK
 |fP esz x y=>exact S3 hop hd hdn hwp hsim hK
 |ef x=>exact Tb hop hd hdn hwp hsim hK
 |_=>exact Aj hop hd hdn hsim hK (by simpa only[aU] using hwp)
theorem rM{j t:Nat}{bg:Array Oper}{a:Act}{w:World}{b b':Bool}(hs:bA c A a w)(hg:o.guard=some (j,b))(ht:(bg[j]?).bind (·.dst)=some t)(hv:A.t t=.bool b'):Region.wanted o (yielded bg a.tmps)=(b'==b):=by
 obtain ⟨D,E,hs⟩:=hs;have h:=hs.dB t;rw[hv] at h;have h:=kc h;have hy:yielded bg a.tmps j=some b':=by
  unfold yielded;rw[ht];simp only[zy5];simp only[Array.getD_eq_getD_getElem?] at h;cases hh:a.tmps[t]? with
  |none=>simp[hh,undef] at h
  |some v=>simp only[hh,Option.getD_some] at h;subst h;rfl
 unfold Region.wanted;rw[hg];simp only[hy];cases b <;>cases b' <;>rfl
theorem rN{j t:Nat}{bg:Array Oper}{a:Act}{w:World}{b:Bool}(hs:bA c A a w)(hg:o.guard=some (j,b))(ht:(bg[j]?).bind (·.dst)=some t)(hv:A.t t=.undef):Region.wanted o (yielded bg a.tmps)=false:=by
 obtain ⟨D,E,hs⟩:=hs;have h:=hs.dB t;rw[hv] at h;simp only[aP] at h;have hy:yielded bg a.tmps j=none:=by
  unfold yielded;rw[ht];simp only[zy5];simp only[Array.getD_eq_getD_getElem?] at h;cases hh:a.tmps[t]? with
  |none=>rfl
  |some v=>simp only[hh,Option.getD_some] at h;subst h;rfl
 unfold Region.wanted;rw[hg];simp only[hy];rfl
theorem bA.lO{a:Act}{w:World}(h:bA c A a w){d:Option Nat}(hd:∀ k,d=some k→k<c.n):bA c (A.aM d .undef) (a.put d undef) w:=by
 obtain ⟨D,E,h⟩:=h;exact ⟨D,E,h.aM hd (by simp[aP])⟩
theorem rL{dr:Bool}{K:ab→Prop}{bg:Array Oper}{Q:Exit→Act→World→Prop}(hQ:∀ B a w,K B→bA c B a w→Q .normal a w):∀ (l:List Oper) (gs:List ar) (A:ab) (a:Act) (w:World),fi c.P c.n bg l=some gs→aX c.P c.Y dr K (al gs A) →
  bA c A a w→wpListIn c.bh 9 c.P bg Q l a w
 | [],gs,A,a,w,hc,hwp,hs=>by
  simp only[fi,v6] at hc;subst hc;simp only[al] at hwp;cases hwp with
  |done hk=>exact hQ A a w hk hs
 |o::l,gs,A,a,w,hc,hwp,hs=>by
  simp only[fi] at hc;split at hc
  case h_2=>cases hc
  rename_i g gs' hg hgs;simp only[v6] at hc;subst hc;obtain ⟨h1,h2,h3,h4⟩:=nB hg;have step:aX c.P c.Y dr K (aU A g.dst g.op gs' (al gs'))→o.wpIn c.bh 9 c.P a w (wpListIn c.bh 9 c.P bg Q l) Q:=fun h =>
   rH h1 h2.symm (by rw[h2];exact h3) h hs (fun B a' w' hw hs'=>rL hQ l gs' B a' w' hgs hw hs')
  simp only[wpListIn];simp only[al] at hwp;rcases h4 with ⟨h5,h6⟩ | ⟨j,b,t,h5,h6,h7⟩
  ·rw[h6] at hwp;have hw:Region.wanted o (yielded bg a.tmps)=true:=by simp[Region.wanted,h5]
   rw[hw,if_pos rfl];exact step hwp
  ·rw[h7] at hwp;simp only at hwp;split at hwp
   ·rename_i b' hb';rw[rM hs h5 h6 hb'];split at hwp
    ·rename_i hbb;subst hbb;simp only[BEq.rfl,if_true];exact step hwp
    ·rename_i hbb;have:(b'==b)=false:=by simpa using hbb
     rw[this];simp only[Z7,if_false];exact ⟨fun f _=>kN c f,rL hQ l gs' _ _ w hgs hwp (by rw[h2];exact hs.lO h3)⟩
   ·rename_i hb';rw[rN hs h5 h6 hb'];simp only[Z7,if_false];exact ⟨fun f _=>kN c f,rL hQ l gs' _ _ w hgs hwp (by rw[h2];exact hs.lO h3)⟩
   ·cases hwp
end
def au.sl:au→List Nat
 | .t n=>[n]
 | .c _=>[]
def sq:Option au→List Nat
 |some x=>x.sl
 |none=>[]
def iy(l:List au):List Nat:=l.flatMap au.sl
def bq.ct:bq→List Nat
 | .mv x=>x.sl
 | .pick c a b=>c.sl++(a.sl++b.sl)
 | .bin _ x y=>x.sl++y.sl
 | .eqv _ _ x y=>x.sl++y.sl
 | .nilS _ x=>x.sl
 | .conv _ x=>x.sl
 | .un _ x=>x.sl
 | .ld _ x=>x.sl
 | .fa _ _ x=>x.sl
 | .fl _ _ _ x=>x.sl
 | .ia _ _ x i=>x.sl++i.sl
 | .is _ x i=>x.sl++i.sl
 | .ix _ _ _ x i=>x.sl++i.sl
 | .len x=>x.sl
 | .lenT x=>x.sl
 | .va _ _ x=>x.sl
 | .sl _ x lo hi mx=>x.sl++(sq lo++(sq hi++sq mx))
 | .bld _ ps=>iy (ps.map (·.2))
 | .bs _ _ ps=>iy ps
 | .ext x _=>x.sl
 | .mk _ caps=>iy caps
 | .alloc _=>[]
 | .box x=>x.sl
 | .aV _ x v=>x.sl++v.sl
 | .dM _ _ _ _ s x=>s.sl++x.sl
 | .jj _ _ _ _ s x=>s.sl++x.sl
 | .cap x=>x.sl
 | .bs0 _=>[]
 | .iV _ _ x=>x.sl
 | .fP _ x y=>x.sl++y.sl
 | .call _ args=>iy args
 | .eX x args=>x.sl++iy args
 | .gv _ args=>iy args
 | .nilC x=>x.sl
 | .ptrE _ x y=>x.sl++y.sl
 | .max2 x y=>x.sl++y.sl
 | .prim _ xs=>iy xs
 | .b2s x=>x.sl
 | .ef x=>x.sl
 | .jd _ _ _ n=>n.sl
 | .j5=>[]
 | .lk _ _ _ m k=>m.sl++k.sl
 | .jA _ m k v=>m.sl++(k.sl++v.sl)
 | .kR _ m k=>m.sl++k.sl
 | .jI x=>x.sl
 | .jB x=>x.sl
 | .ent x=>x.sl
def ar.ct(g:ar):List Nat:=g.op.ct++(match g.guard with | some (t,_)=>[t] | none=>[])
def bq.fF:bq→Nat
 | .mv _ | .pick .. | .bin .. | .eqv .. | .nilS .. | .conv .. | .un .. | .fl .. | .ix .. | .lenT _ | .bld .. | .ext .. | .mk .. | .nilC _ | .ptrE .. | .max2 .. | .prim .. =>0
 | .ld .. | .fa .. | .ia .. | .is .. | .len _ | .va .. | .bs .. | .sl .. | .cap _ | .bs0 _ | .lk .. | .ent _ | .b2s _=>1
 | .call .. | .eX .. =>2
 | .alloc _ | .box _=>3
 | .aV .. =>4
 | .dM .. | .jj .. | .iV .. | .fP .. | .gv .. | .jd .. | .j5 | .jA .. | .kR .. | .jI _ | .jB _ | .ef _=>5
def uc(a b:Nat):Bool:=(decide (a≤2)&&decide (b≤3))||(a==0&&b==4)
def lF(g h:ar):Bool:=uc g.op.fF h.op.fF&&(match g.dst with
  |some d => !h.ct.contains d&&h.dst != some d
  |none=>true)&&(match h.dst with
  |some d => !g.ct.contains d
  |none=>true)
def dv(A A':ab)(l:List Nat):Prop:=∀ k∈l,A'.t k=A.t k
section
variable {A A':ab}
theorem cB{x:au}(h:dv A A' x.sl):af A' x=af A x:=by
 cases x with
 |t n=>exact h n (by simp[au.sl])
 |c x=>rfl
theorem dv.l{l m:List Nat}(h:dv A A' (l++m)):dv A A' l:=fun k hk=>h k (List.mem_append_left _ hk)
theorem dv.r{l m:List Nat}(h:dv A A' (l++m)):dv A A' m:=fun k hk=>h k (List.mem_append_right _ hk)
theorem jV:∀ {l:List au},dv A A' (iy l)→l.map (af A')=l.map (af A)
 | [],_=>rfl
 |x::l,h=>by
  simp only[iy,List.flatMap_cons] at h;simp only[Z4,cB h.l,jV (l:=l) h.r]
theorem nK{x:Option au}(h:dv A A' (sq x)):x.map (af A')=x.map (af A):=by
 cases x with
 |none=>rfl
 |some x=>simp only[Y1,cB (x:=x) h]
theorem zE:∀ {l:List (Nat×au)},dv A A' (iy (l.map (·.2)))→(l.map fun p=>(p.1,af A' p.2))=l.map fun p=>(p.1,af A p.2)
 | [],_=>rfl
 |x::l,h=>by
  simp only[iy,Z4,List.flatMap_cons] at h;simp only[Z4,cB h.l,zE (l:=l) h.r]
theorem pN{f g:I→Option I}(h:∀ x v,f x=some v→g x=some v):∀ {xs vs:List I},gG f xs=some vs→gG g xs=some vs
 | [],vs,hx=>by simpa only[gG] using hx
 |x::xs,vs,hx=>by
  simp only[gG] at hx ⊢;cases h1:f x with
  |none=>rw[h1] at hx;cases hx
  |some y=>cases h2:gG f xs with
   |none=>rw[h1,h2] at hx;cases hx
   |some ys=>rw[h1,h2] at hx;rw[h x y h1,pN h h2];exact hx
theorem uJ(hu:dw A A'):∀ (k:Nat) (x v:I),fS A k x=some v→fS A' k x=some v
 |0,_,_,h=>by simp[fS] at h
 |k+1,x,v,h=>by
  have ih:=uJ hu k;simp only[fS] at h ⊢;split at h
  ·rename_i hc;rw[if_pos hc];exact h
  ·rename_i hc;rw[if_neg hc];cases x <;>simp only[] at h ⊢ <;>try (cases h;done)
   case agg fs =>
    simp only[t7] at h ⊢;obtain ⟨a,h1,h2⟩:=h;exact ⟨a,pN ih h1,h2⟩
   case func f fs =>
    split at h
    case isFalse hf=>rw[if_neg hf];exact h
    rename_i hf;rw[if_pos hf];simp only[t7] at h ⊢;obtain ⟨a,h1,h2⟩:=h;exact ⟨a,pN ih h1,h2⟩
   case ptr n p =>
    cases hd:bO A (.ptr n p) with
    |none=>rw[hd] at h;cases h
    |some y =>
     rw[hd] at h;rw[ig hu hd];simp only[t7] at h ⊢;obtain ⟨a,h1,h2⟩:=h;exact ⟨a,ih _ _ h1,h2⟩
   case view n p sz lo l =>
    cases hd:bO A (.ptr n p) with
    |none=>rw[hd] at h;cases h
    |some y=>rw[hd] at h;rw[ig hu hd];exact h
   case mref n =>
    cases ho:A.o n with
    |none=>rw[ho] at h;cases h
    |some y =>
     rw[ho] at h;rw[hu n y ho];cases y <;>try (cases h;done)
     simp only at h ⊢;split at h
     ·rename_i hk;rw[if_pos hk];simp only[t7] at h ⊢;obtain ⟨a,h1,h2⟩:=h;exact ⟨a,pN ih h1,h2⟩
     ·cases h
   case own n l =>
    cases ho:A.o n with
    |none=>rw[ho] at h;cases h
    |some y=>rw[ho] at h;rw[hu n y ho];exact h
mutual
theorem zO(hu:dw A A'){aB:Bool} : ∀ {x v:I},aZ aB A x=some v→aZ aB A' x=some v
 | .ptr n p,v,h=>by
  simp only[aZ] at h ⊢;cases aB <;>simp only[Z7,if_false,if_true] at h ⊢
  ·exact h
  ·cases hd:bO A (.ptr n p) with
   |none=>rw[hd] at h;cases h
   |some y =>
    rw[hd] at h;rw[ig hu hd];simp only at h ⊢;split at h
    ·rename_i hc;rw[if_pos hc];exact h
    ·rename_i hc;rw[if_neg hc];simp only[t7] at h ⊢;obtain ⟨a,h1,h2⟩:=h;exact ⟨a,uJ hu 9 _ _ h1,h2⟩
 | .mref n,v,h=>by
  simp only[aZ] at h ⊢;cases aB <;>simp only[Z7,if_false,if_true] at h ⊢
  ·exact h
  ·cases ho:A.o n with
   |none=>rw[ho] at h;cases h
   |some y =>
    rw[ho] at h;rw[hu n y ho];cases y <;>try (cases h;done)
    simp only at h ⊢;split at h
    ·rename_i hk;rw[if_pos hk];simp only[t7] at h ⊢;obtain ⟨a,h1,h2⟩:=h;exact ⟨a,pN (uJ hu 9) h1,h2⟩
    ·cases h
 | .cR _,_,h=>by simp[aZ] at h
 | .cW _ _,_,h=>by simpa only[aZ] using h
 | .own n k,v,h=>by
  simp only[aZ] at h ⊢;cases ho:A.o n with
  |none=>rw[ho] at h;cases h
  |some y=>rw[ho] at h;rw[hu n y ho];exact h
 | .view n p sz lo k,v,h=>by
  simp only[aZ] at h ⊢;cases aB <;>simp only[Z7,if_false,if_true] at h ⊢
  ·exact h
  ·cases hd:bO A (.ptr n p) with
   |none=>rw[hd] at h;cases h
   |some y=>rw[hd] at h;rw[ig hu hd];exact h
 | .func f caps,v,h=>by
  simp only[aZ] at h ⊢;split at h
  case isFalse hf=>rw[if_neg hf];exact h
  rename_i hf;rw[if_pos hf];simp only[t7] at h ⊢;obtain ⟨a,h1,h2⟩:=h;exact ⟨a,jY hu h1,h2⟩
 | .agg fs,v,h=>by
  simp only[aZ,t7] at h ⊢;obtain ⟨a,h1,h2⟩:=h;exact ⟨a,jY hu h1,h2⟩
 | .nils _,_,h | .c0 _,_,h | .tuple _,_,h | .undef,_,h | .cU,_,h | .bool _,_,h | .int _ _,_,h | .aj _,_,h | .nilp,_,h | .c8,_,h | .cN,_,h | .any,_,h | .raw _,_,h | .slice _ _,_,h | .ref _,_,h | .iface _ _,_,h=>by simpa only[aZ] using h
theorem jY(hu:dw A A'){aB:Bool} : ∀ {xs vs:List I},bC aB A xs=some vs→bC aB A' xs=some vs
 | [],vs,h=>by simpa only[bC] using h
 |x::xs,vs,h=>by
  simp only[bC] at h ⊢;cases h1:aZ aB A x with
  |none=>rw[h1] at h;cases h
  |some y=>cases h2:bC aB A xs with
   |none=>rw[h1,h2] at h;cases h
   |some ys=>rw[h1,h2] at h;rw[zO hu h1,jY hu h2];exact h
end
theorem vL{op:bq}(hc:op.fF=0)(h:dv A A' op.ct):aT A' op=aT A op:=by
 cases op <;>simp only[bq.fF] at hc <;>try (cases hc;done)
 all_goals simp only[bq.ct] at h
 case mv x=>simp only[aT,cB h]
 case pick c a b=>simp only[aT,cB h.l,cB h.r.l,cB h.r.r]
 case bin _ x y=>simp only[aT,cB h.l,cB h.r]
 case eqv _ _ x y=>simp only[aT,cB h.l,cB h.r]
 case nilS x=>simp only[aT,cB h]
 case conv x=>simp only[aT,cB h]
 case un x=>simp only[aT,cB h]
 case fl x=>simp only[aT,cB h]
 case ix x i=>simp only[aT,cB h.l,cB h.r]
 case lenT x=>simp only[aT,cB h]
 case bld zs ps=>simp only[aT,zE h]
 case ext x i=>simp only[aT,cB h]
 case mk f caps=>simp only[aT,jV h]
 case nilC x=>simp only[aT,cB h]
 case ptrE neg x y=>simp only[aT,cB h.l,cB h.r]
 case max2 x y=>simp only[aT,cB h.l,cB h.r]
 case prim p xs=>simp only[aT,jV h]
theorem US(hu:dw A A'){m:I}{q:List I×List I}(h:fH A m=some q):fH A' m=some q:=by
 cases m with
 |mref n =>
  simp only[fH] at h ⊢;cases hd:A.o n with
  |none=>simp only[hd] at h;cases h
  |some y=>simp only[hd] at h;simp only[hu n y hd];exact h
 |raw v=>cases v <;>first | (cases h;done) | (rename_i m;cases m <;>first | exact h | cases h)
 |cW ks vs=>exact h
 |_=>simp only[fH] at h;cases h
theorem XB(hu:dw A A'){sz:Nat}{x:I}{es:List I}(h:cO A sz x=some es):cO A' sz x=some es:=by
 cases x <;>simp only[cO] at h ⊢ <;>try (exact h)
 ·rename_i n l;cases hd:A.o n with
  |none=>rw[hd] at h;cases h
  |some y=>rw[hd] at h;rw[hu n y hd];exact h
 ·rename_i n p z lo k;cases hd:bO A (.ptr n p) with
  |none=>rw[hd] at h;cases h
  |some y=>rw[hd] at h;rw[ig hu hd];exact h
theorem BY{op:bq}(hu:dw A A')(h:dv A A' op.ct){v:I}(hv:aT A op=some v):aT A' op=some v:=by
 by_cases hc:op.fF=0
 ·rw[vL hc h];exact hv
 cases op <;>try (exact absurd rfl hc)
 all_goals simp only[bq.ct] at h
 case ld s x =>
  simp only[aT,cB h] at hv ⊢;cases hd:bO A (af A x) with
  |none=>rw[hd] at hv;cases hv
  |some y=>rw[hd] at hv;rw[ig hu hd];exact hv
 case fa f off x =>
  simp only[aT,cB h] at hv ⊢;generalize af A x=z at *;cases z <;>try (first | exact hv | (rename_i y;cases y <;>exact hv))
  rename_i n p;cases hd:bO A (.ptr n p) with
  |none=>simp only[hd] at hv;cases hv
  |some y=>simp only[hd] at hv;simp only[ig hu hd];exact hv
 case ia n esz x i =>
  simp only[aT,cB h.l,cB h.r] at hv ⊢;generalize af A x=z at *;cases z <;>try (first | exact hv | (rename_i y;cases y <;>exact hv))
  rename_i n p;cases hd:bO A (.ptr n p) with
  |none=>simp only[hd] at hv;(repeat' split at hv) <;>cases hv
  |some y=>simp only[hd] at hv;simp only[ig hu hd];exact hv
 case is esz x i =>
  simp only[aT,cB h.l,cB h.r] at hv ⊢;generalize af A i=q at *;cases q <;>try (exact hv)
  simp only at hv ⊢;generalize af A x=z at *;cases z <;>try (first | exact hv | (rename_i y;cases y <;>exact hv))
  ·rename_i n p;cases hd:A.o n with
   |none=>simp only[hd] at hv;cases hv
   |some y=>simp only[hd] at hv;simp only[hu n y hd];exact hv
  ·rename_i n p sz lo k;simp only at hv ⊢;cases hd:bO A (.ptr n p) with
   |none=>simp only[hd] at hv;cases hv
   |some y=>simp only[hd] at hv;simp only[ig hu hd];exact hv
 case len x =>
  simp only[aT,cB h] at hv ⊢;generalize af A x=z at *;cases z <;>try (first | exact hv | (rename_i y;cases y <;>exact hv))
  rename_i n p;cases hd:A.o n with
  |none=>simp only[hd] at hv;cases hv
  |some y=>simp only[hd] at hv;simp only[hu n y hd];exact hv
 case cap x =>
  simp only[aT,cB h] at hv ⊢;generalize af A x=z at *;cases z <;>try (first | exact hv | (rename_i y;cases y <;>exact hv))
  rename_i n p sz lo k;simp only at hv ⊢;cases hd:bO A (.ptr n p) with
  |none=>simp only[hd] at hv;cases hv
  |some y=>simp only[hd] at hv;simp only[ig hu hd];exact hv
 case bs0 esz=>exact hv
 case sl esz x lo hi mx =>
  simp only[aT,cB h.l,nK h.r.l,nK h.r.r.l,nK h.r.r.r] at hv ⊢;generalize af A x=z at *;cases z <;>try (first | exact hv | (rename_i y;cases y <;>exact hv))
  rename_i n p sz l0 k;simp only at hv ⊢;cases hd:bO A (.ptr n p) with
  |none=>simp only[hd] at hv;cases hv
  |some y=>simp only[hd] at hv;simp only[ig hu hd];exact hv
 case va n esz x =>
  simp only[aT,cB h] at hv ⊢;generalize af A x=z at *;cases z <;>try (first | exact hv | (rename_i y;cases y <;>exact hv))
  rename_i n p;cases hd:bO A (.ptr n p) with
  |none=>simp only[hd] at hv;cases hv
  |some y=>simp only[hd] at hv;simp only[ig hu hd];exact hv
 case lk ty z ok m k =>
  simp only[aT,cB h.l,cB h.r] at hv ⊢;cases hd:fH A (af A m) with
  |none=>rw[hd] at hv;cases hv
  |some y=>rw[hd] at hv;rw[US hu hd];exact hv
 case ent x =>
  simp only[aT,cB h] at hv ⊢;generalize af A x=z at *;cases z <;>try (exact hv)
  rename_i n;simp only at hv ⊢;cases hd:A.o n with
  |none=>simp only[hd] at hv;cases hv
  |some y=>simp only[hd] at hv;simp only[hu n y hd];exact hv
 case b2s x =>
  simp only[aT,cB h] at hv ⊢;cases hd:cO A 1 (af A x) with
  |none=>rw[hd] at hv;cases hv
  |some y=>rw[hd] at hv;rw[XB hu hd];exact hv
 case bs esz ps =>
  simp only[aT,jV h] at hv ⊢;cases hd:bC false A (ps.map (af A)) with
  |none=>rw[hd] at hv;cases hv
  |some y=>rw[hd] at hv;rw[jY hu hd];exact hv
 all_goals (simp only[aT] at hv;cases hv)
end
def pass(A:ab)(g:ar):Prop:=match g.guard with | none=>True | some (t,b)=>A.t t=.bool b
def fw(A:ab)(g:ar):Prop:=match g.guard with | none=>False | some (t,b)=>A.t t=.bool (!b)∨A.t t=.undef
inductive iA (P:Program) (A:ab):bq→I→Prop where
 |pure {op:bq} {v:I} : aT A op=some v→iA P A op v
 |flat {f:FuncId} {args:List au} {cargs:List I} {r:I} : bC true A (args.map (af A))=some cargs→aQ P f cargs r→r.flat=true→iA P A (.call f args) r
 |lead {f:FuncId} {args:List au} {cargs:List I} {r:I} : bC false A (args.map (af A))=some cargs→aQ P f cargs r→iA P A (.call f args) r
 |te {x:au} {f:FuncId} {caps:List I} {args:List au} {cargs:List I} {r:I} : af A x=.func f caps→bC true A (gz f (args.map (af A)) caps)=some cargs→aQ P (jW f) cargs r→r.flat=true→iA P A (.eX x args) r
 |tf {x:au} {f:FuncId} {caps:List I} {args:List au} {cargs:List I} {r:I} : af A x=.func f caps→bC false A (gz f (args.map (af A)) caps)=some cargs→aQ P (jW f) cargs r→iA P A (.eX x args) r
def qI(A:ab)(op:bq)(x:I):Prop:=op=.alloc x∨∃ y,op=.box y∧(af A y).cv=true∧x=af A y
def qJ(A:ab)(op:bq)(n:Nat)(z:ai):Prop:=∃ s x v p b old,op=.aV s x v∧af A x=.ptr n p∧A.o n=some (.box b)∧b.at p=some old∧vD s (af A v) old∧z=.box (b.dz p (af A v))
def Fl(A:ab)(dst:Option Nat)(op:bq)(B:ab):Prop:=op.fF=5∧∀ (rest:List ar) (k:ab→bV),aU A dst op rest k=k B
theorem XS{A:ab}{neg:Bool}{x:au}{v:I}(h:aT A (.nilS neg x)=some v):iN (af A x)=false:=by
 simp only[aT] at h;generalize af A x=q at *;cases q <;>simp only[iN] <;>simp only at h <;>try (cases h;done)
 rename_i sz es;cases es with
 |nil=>simp at h
 |cons=>rfl
inductive eB (P:Program) (g:ar) (A:ab):ab→Prop where
 |skip:fw A g→eB P g A (A.aM g.dst .undef)
 |val {v:I} : pass A g→iA P A g.op v→eB P g A (A.aM g.dst v)
 |ik {d:Nat} {x:I} : pass A g→g.dst=some d→qI A g.op x→A.o d=none→eB P g A ((A.aO d (.box x)).put d (.ptr d []))
 |aV {n:Nat} {z:ai} : pass A g→g.dst=none→qJ A g.op n z→eB P g A (A.aO n z)
 |fQ {B:ab} : pass A g→Fl A g.dst g.op B→eB P g A B
theorem tP{b' b:Bool}(h:b'≠b):b' = !b:=by cases b <;>cases b' <;>simp_all
section
variable {P:Program} {Y:Value→List I→List (Nat×ai)→b6→Prop} {K:ab→Prop}
theorem eB.Bq{A:ab}{g:ar}{rest:List ar}(hp:pass A g)(h:aX P Y true K (aU A g.dst g.op rest (al rest))):∃ B,eB P g A B∧aX P Y true K (al rest B):=by
 have pure:aX P Y true K (b8 (aT A g.op) fun v=>al rest (A.aM g.dst v))→∃ B,eB P g A B∧aX P Y true K (al rest B):=by
  intro h;cases hv:aT A g.op with
  |none=>rw[hv] at h;cases h
  |some v=>rw[hv] at h;exact ⟨_,.val hp (.pure hv),h⟩
 obtain ⟨dst,op,gd⟩:=g;cases op with
 |alloc z =>
  simp only[aU] at h;split at h
  case h_2=>cases h
  split at h
  case h_2=>cases h
  rename_i hd _ ho;exact ⟨_,.ik hp rfl (.inl rfl) ho,h⟩
 |box x =>
  simp only[aU] at h;split at h
  case h_2=>cases h
  split at h
  case h_2=>cases h
  rename_i hd _ ho;split at h
  case isFalse=>cases h
  rename_i hv;exact ⟨_,.ik hp rfl (.inr ⟨x,rfl,hv,rfl⟩) ho,h⟩
 |aV s x v =>
  simp only[aU] at h;split at h
  case h_2=>cases h
  split at h
  case h_2=>cases h
  rename_i n p hx;split at h
  case h_2=>cases h
  rename_i b hb;split at h
  case h_2=>cases h
  rename_i old hat;split at h
  case isFalse=>cases h
  rename_i hok;exact ⟨_,.aV hp rfl ⟨s,x,v,p,b,old,rfl,hx,hb,hat,hok,rfl⟩,h⟩
 |nilS neg x =>
  simp only[aU] at h;split at h
  ·cases h with | any hdr=>cases hdr
  ·exact pure h
 |dM e esz bytes z s x =>
  simp only[aU] at h;split at h
  ·rename_i n l hs';split at h
   case h_2=>cases h
   rename_i sz ys hx';split at h
   case h_3=>cases h
   case h_2 =>
    rename_i T xs hn;split at h
    case isFalse=>cases h
    rename_i hok;exact ⟨_,.fQ hp ⟨rfl,fun rest k=>by simp only[aU,hs',hx',hn,if_pos hok]⟩,h⟩
   rename_i T sz' es hn;split at h
   case isFalse=>cases h
   rename_i hok;exact ⟨_,.fQ hp ⟨rfl,fun rest k=>by simp only[aU,hs',hx',hn,if_pos hok]⟩,h⟩
  ·rename_i hno;have hg:∀ (rest:List ar) (k:ab→bV),aU A dst (.dM e esz bytes z s x) rest k=eb A dst esz bytes z (af A s) (cO A esz (af A s)) (cO A esz (af A x)) k:=fun rest k=>by
    simp only[aU]
   simp only[eb] at h hg;split at h
   case h_2=>cases h
   rename_i es ys hse hsx;simp only[hse,hsx] at hg;have grow:¬ aX P Y true K (eN A dst esz bytes z es ys (al rest)):=fun h=>by
    simp only[eN] at h;split at h
    case h_2=>cases h
    split at h
    case h_2=>cases h
    split at h
    case isFalse=>cases h
    cases h with | any hdr=>cases hdr
   split at h
   ·rename_i hne;simp only[if_pos hne] at hg;exact ⟨_,.fQ hp ⟨rfl,hg⟩,h⟩
   ·rename_i hne;simp only[if_neg hne] at hg;split at h
    ·exact absurd h grow
    ·exact absurd h grow
    ·rename_i n p sz lo l hsv;split at h
     case h_2=>cases h
     rename_i b hn;split at h
     case h_2=>cases h
     rename_i fs hat;split at h
     ·rename_i hroom;split at h
      case isFalse=>cases h
      rename_i hok;simp only[hsv,hn,hat,if_pos hroom,if_pos hok] at hg;exact ⟨_,.fQ hp ⟨rfl,hg⟩,h⟩
     ·exact absurd h grow
    ·cases h
 |gv f args =>
  simp only[aU] at h;cases h with | ext r hdr=>cases hdr
 |jj e esz bytes z s n =>
  exfalso
  simp only[aU] at h;split at h
  case h_2=>cases h
  simp only[oS] at h;split at h
  case h_2=>cases h
  split at h
  case h_2=>cases h
  split at h
  case h_2=>cases h
  split at h
  case h_2=>cases h
  split at h
  case isFalse=>cases h
  simp only[eN] at h;split at h
  case h_2=>cases h
  split at h
  case h_2=>cases h
  split at h
  case isFalse=>cases h
  cases h with | any hdr=>cases hdr
 |j5 =>
  simp only[aU] at h;split at h
  case h_2=>cases h
  rename_i d;split at h
  case h_2=>cases h
  rename_i hf;exact ⟨_,.fQ hp ⟨rfl,fun rest k=>by simp only[aU,hf]⟩,h⟩
 |jd e bytes z n =>
  simp only[aU] at h;split at h
  case h_2=>cases h
  rename_i d;split at h
  case h_2=>cases h
  rename_i hf;split at h
  case h_2=>cases h
  rename_i k m hn;split at h
  case isFalse=>cases h
  rename_i hc;exact ⟨_,.fQ hp ⟨rfl,fun rest k=>by simp only[aU,hf,hn,if_pos hc]⟩,h⟩
 |jA ty m key v =>
  simp only[aU] at h;split at h
  case h_2=>cases h
  split at h
  case h_2=>cases h
  rename_i n hm;split at h
  case h_2=>cases h
  rename_i ks vs hn;split at h
  case h_2=>cases h
  rename_i ks' vs' hl;exact ⟨_,.fQ hp ⟨rfl,fun rest k=>by simp only[aU,hm,hn,hl]⟩,h⟩
 |kR ty m key =>
  simp only[aU] at h;split at h
  case h_2=>cases h
  split at h
  case h_2=>cases h
  rename_i n hm;split at h
  case h_2=>cases h
  rename_i ks vs hn;split at h
  case h_2=>cases h
  rename_i ks' vs' hl;exact ⟨_,.fQ hp ⟨rfl,fun rest k=>by simp only[aU,hm,hn,hl]⟩,h⟩
 |jI x =>
  simp only[aU] at h;split at h
  case h_2=>cases h
  rename_i d;split at h
  case h_2=>cases h
  rename_i hf;split at h
  case h_2=>cases h
  rename_i ks vs hx;exact ⟨_,.fQ hp ⟨rfl,fun rest k=>by simp only[aU,hf,hx]⟩,h⟩
 |jB x =>
  simp only[aU] at h;split at h
  case h_2=>cases h
  rename_i n hx;split at h
  case h_2=>cases h
  rename_i ks vs left cur hn;split at h
  ·rename_i hl;exact ⟨_,.fQ hp ⟨rfl,fun rest k=>by simp only[aU,hx,hn,if_pos hl]⟩,h⟩
  ·cases h with | any hdr=>cases hdr
 |iV esz z x =>
  simp only[aU] at h;split at h
  case h_2=>cases h
  have hg:∀ (rest:List ar) (k:ab→bV),aU A none (.iV esz z x) rest k=nC A esz z k (af A x):=fun rest k=>rfl;simp only[nC] at h hg;split at h
  ·rename_i n p sz lo l hv;split at h
   case h_2=>cases h
   rename_i b hn;split at h
   case h_2=>cases h
   rename_i fs hat;split at h
   case isFalse=>cases h
   rename_i hok;simp only[hv,hn,hat,if_pos hok] at hg;exact ⟨_,.fQ hp ⟨rfl,hg⟩,h⟩
  ·rename_i z0 hv;simp only[hv] at hg;exact ⟨_,.fQ hp ⟨rfl,hg⟩,h⟩
  ·rename_i z0 hv;simp only[hv] at hg;exact ⟨_,.fQ hp ⟨rfl,hg⟩,h⟩
  ·cases h
 |fP esz x y =>
  have hg:∀ (rest:List ar) (k:ab→bV),aU A dst (.fP esz x y) rest k=jS A dst esz k (af A x) (jK A esz (af A y)):=fun rest k=>rfl;simp only[aU] at h;simp only[jS] at h hg;split at h
  ·rename_i n p sz lo l ys hv hsx;split at h
   case h_2=>cases h
   rename_i b hn;split at h
   case h_2=>cases h
   rename_i fs hat;split at h
   case isFalse=>cases h
   rename_i hok;simp only[hv,hsx,hn,hat,if_pos hok] at hg;exact ⟨_,.fQ hp ⟨rfl,hg⟩,h⟩
  ·rename_i z0 ys hv hsx;simp only[hv,hsx] at hg;exact ⟨_,.fQ hp ⟨rfl,hg⟩,h⟩
  ·cases h
 |ef x =>
  simp only[aU] at h;unfold gY at h;split at h
  case h_2=>cases h
  split at h
  case h_2=>cases h
  split at h
  case h_2=>cases h
  cases h with | any hdr=>cases hdr
 |call f args =>
  simp only[aU] at h;generalize h1:bC true A (args.map (af A))=a1 at h;generalize h2:bC false A (args.map (af A))=a2 at h;cases h with
  |flat r hc hf hw=>exact ⟨_,.val hp (.flat h1 hc hf),hw⟩
  |lead r hc hw=>exact ⟨_,.val hp (.lead h2 hc),hw⟩
  |js ns r hdr=>cases hdr
  |bz aB ρ os cargs post hdr=>cases hdr
 |eX x args =>
  simp only[aU] at h;split at h
  case h_3=>cases h
  case h_2=>cases h with | th os cargs post hdr=>cases hdr
  rename_i f caps hx;generalize h1:bC true A (gz f (args.map (af A)) caps)=a1 at h;generalize h2:bC false A (gz f (args.map (af A)) caps)=a2 at h;cases h with
  |flat r hc hf hw=>exact ⟨_,.val hp (.te hx h1 hc hf),hw⟩
  |lead r hc hw=>exact ⟨_,.val hp (.tf hx h2 hc),hw⟩
  |js ns r hdr=>cases hdr
  |bz aB ρ os cargs post hdr=>cases hdr
 |_=>exact pure (by simpa only[aU] using h)
theorem eB.vy{A:ab}{g:ar}{rest:List ar}(h:aX P Y true K (al (g::rest) A)):∃ B,eB P g A B∧aX P Y true K (al rest B):=by
 simp only[al] at h;split at h
 ·rename_i hg;exact eB.Bq (by simp only[pass,hg]) h
 ·rename_i t b hg;split at h
  ·rename_i b' hb;split at h
   ·rename_i hbb;subst hbb;exact eB.Bq (by simp only[pass,hg];exact hb) h
   ·rename_i hbb;refine ⟨_,.skip (by simp only[fw,hg];exact .inl (by rw[hb,tP hbb])),h⟩
  ·rename_i hb;exact ⟨_,.skip (by simp only[fw,hg];exact .inr hb),h⟩
  ·cases h
theorem ma{A:ab}{g:ar}{rest:List ar}(hp:pass A g):al (g::rest) A=aU A g.dst g.op rest (al rest):=by
 simp only[al];cases hg:g.guard with
 |none=>rfl
 |some tb =>
  obtain ⟨t,b⟩:=tb;simp only[pass,hg] at hp;simp only[hp,if_true]
theorem eB.wK{A B:ab}{g:ar}{rest:List ar}(h:eB P g A B)(hw:aX P Y true K (al rest B)):aX P Y true K (al (g::rest) A):=by
 cases h with
 |skip hn =>
  simp only[al];cases hg:g.guard with
  |none=>simp only[fw,hg] at hn
  |some tb =>
   obtain ⟨t,b⟩:=tb;simp only[fw,hg] at hn;rcases hn with hn | hn
   ·simp only[hn];rw[if_neg (by cases b <;>simp)];exact hw
   ·simp only[hn];exact hw
 |val hp hv =>
  rw[ma hp];obtain ⟨dst,op,gd⟩:=g;cases hv with
  |pure hv =>
   have hv':aT A op=some _:=hv;cases op <;>try (simp only[aU,hv',b8] <;>first | exact hw | (simp only[aT] at hv';cases hv');done)
   all_goals first
    |(simp only[aT] at hv';cases hv';done)
    |(simp only[aU,XS hv',Z7,if_false,hv',b8];exact hw)
  |flat h1 h2 h3=>simp only[aU,h1];exact .flat _ h2 h3 hw
  |lead h1 h2=>simp only[aU,h1];exact .lead _ h2 hw
  |te h0 h1 h2 h3=>simp only[aU,h0,h1];exact .flat _ h2 h3 hw
  |tf h0 h1 h2=>simp only[aU,h0,h1];exact .lead _ h2 hw
 |ik hp hd hm ho =>
  rw[ma hp];obtain ⟨dst,op,gd⟩:=g;simp only at hd;subst hd;rcases hm with hm | ⟨y,hm,hv,rfl⟩ <;>simp only at hm <;>subst hm
  ·simp only[aU,ho];exact hw
  ·simp only[aU,ho,hv,if_true];exact hw
 |aV hp hd hm =>
  rw[ma hp];obtain ⟨dst,op,gd⟩:=g;simp only at hd;subst hd;obtain ⟨s,x,v,p,b,old,h1,h2,h3,h4,h5,rfl⟩:=hm;simp only at h1;subst h1;simp only[aU,h2,h3,h4,if_pos h5];exact hw
 |fQ hp hm =>
  rw[ma hp,hm.2];exact hw
theorem iA.cw{A A':ab}{op:bq}{v:I}(h:iA P A op v)(hu:dw A A')(ha:dv A A' op.ct):iA P A' op v:=by
 cases h with
 |pure h=>exact .pure (BY hu ha h)
 |flat h1 h2 h3=>exact .flat (by rw[jV ha];exact jY hu h1) h2 h3
 |lead h1 h2=>exact .lead (by rw[jV ha];exact jY hu h1) h2
 |te h0 h1 h2 h3=>simp only[bq.ct] at ha;exact .te (by rw[cB ha.l];exact h0) (by rw[jV ha.r];exact jY hu h1) h2 h3
 |tf h0 h1 h2=>simp only[bq.ct] at ha;exact .tf (by rw[cB ha.l];exact h0) (by rw[jV ha.r];exact jY hu h1) h2
theorem iA.js{A A':ab}{op:bq}{v:I}(h:iA P A op v)(hc:op.fF=0)(ha:dv A A' op.ct):iA P A' op v:=by
 cases h with
 |pure h=>exact .pure (by rw[vL hc ha];exact h)
 |_=>simp[bq.fF] at hc
theorem lM{A A':ab}{g:ar}(ha:dv A A' g.ct)(h:pass A g):pass A' g:=by
 unfold pass at *;cases hg:g.guard with
 |none=>trivial
 |some tb=>simp only[hg] at h ⊢;rw[ha tb.1 (by simp[ar.ct,hg])];exact h
theorem oa{A A':ab}{g:ar}(ha:dv A A' g.ct)(h:fw A g):fw A' g:=by
 unfold fw at *;cases hg:g.guard with
 |none=>simp only[hg] at h
 |some tb=>simp only[hg] at h ⊢;rw[ha tb.1 (by simp[ar.ct,hg])];exact h
theorem ar.iJ{A A':ab}{g:ar}(ha:dv A A' g.ct):dv A A' g.op.ct:=fun k hk=>ha k (List.mem_append_left _ hk)
def jN(P:Program)(g:ar)(A:ab)(v:I):Prop:=(fw A g∧v=.undef)∨(pass A g∧iA P A g.op v)
theorem jN.step{A:ab}{g:ar}{v:I}(h:jN P g A v):eB P g A (A.aM g.dst v):=by
 rcases h with ⟨h,rfl⟩ | ⟨h,k⟩
 ·exact .skip h
 ·exact .val h k
theorem jN.cw{A A':ab}{g:ar}{v:I}(h:jN P g A v)(hu:dw A A')(ha:dv A A' g.ct):jN P g A' v:=by
 rcases h with ⟨h,rfl⟩ | ⟨h,k⟩
 ·exact .inl ⟨oa ha h,rfl⟩
 ·exact .inr ⟨lM ha h,k.cw hu (ar.iJ ha)⟩
theorem jN.js{A A':ab}{g:ar}{v:I}(h:jN P g A v)(hc:g.op.fF=0)(ha:dv A A' g.ct):jN P g A' v:=by
 rcases h with ⟨h,rfl⟩ | ⟨h,k⟩
 ·exact .inl ⟨oa ha h,rfl⟩
 ·exact .inr ⟨lM ha h,k.js hc (ar.iJ ha)⟩
theorem eB.gM{A B:ab}{g:ar}(h:eB P g A B)(hc:g.op.fF≤2):∃ v,jN P g A v∧B=A.aM g.dst v:=by
 cases h with
 |skip h=>exact ⟨_,.inl ⟨h,rfl⟩,rfl⟩
 |val h k=>exact ⟨_,.inr ⟨h,k⟩,rfl⟩
 |ik h1 h2 h3 h4=>rcases h3 with h3 | ⟨y,h3,_⟩ <;>(rw[h3] at hc;simp[bq.fF] at hc)
 |aV h1 h2 h3=>obtain ⟨s,x,v,p,b,old,h4,_⟩:=h3;rw[h4] at hc;simp[bq.fF] at hc
 |fQ h1 h3=>rw[h3.1] at hc;omega
theorem oh{A:ab}{a b:Option Nat}{v u:I}(h:∀ d,a=some d→b≠some d):(A.aM a v).aM b u=(A.aM b u).aM a v:=by
 cases a with
 |none=>rfl
 |some d=>cases b with
  |none=>rfl
  |some e =>
   have hne:d≠e:=fun he=>h d rfl (by rw[he]);simp only[ab.aM,ab.put,ab.mk.injEq,and_true]
   funext k
   by_cases h1:k=e <;>by_cases h2:k=d <;>simp_all
theorem gp{A:ab}{d:Option Nat}{v:I} : (A.aM d v).o=A.o:=by cases d <;>rfl
theorem kT{A:ab}{d:Option Nat}{v:I}{l:List Nat}(h:∀ k,d=some k→k∉l):dv A (A.aM d v) l:=by
 cases d with
 |none=>exact fun _ _=>rfl
 |some e =>
  intro k hk;have:k≠e:=fun he=>h e rfl (he▸hk);simp[ab.aM,ab.put,this]
theorem dv.symm{A A':ab}{l:List Nat}(h:dv A A' l):dv A' A l:=fun k hk=>(h k hk).symm
theorem qI.same{A A':ab}{op:bq}{x:I}(h:qI A op x)(ha:dv A A' op.ct):qI A' op x:=by
 rcases h with h | ⟨y,h1,h2,h3⟩
 ·exact .inl h
 ·subst h1;have:=cB (x:=y) ha;exact .inr ⟨y,rfl,by rw[this];exact h2,by rw[this];exact h3⟩
theorem qJ.same{A A':ab}{op:bq}{n:Nat}{z:ai}(h:qJ A op n z)(ho:A'.o=A.o)(ha:dv A A' op.ct):qJ A' op n z:=by
 obtain ⟨s,x,v,p,b,old,h1,h2,h3,h4,h5,h6⟩:=h;subst h1;simp only[bq.ct] at ha;have e1:=cB ha.l;have e2:=cB ha.r;exact ⟨s,x,v,p,b,old,rfl,by rw[e1];exact h2,by rw[ho];exact h3,h4,by rw[e2];exact h5,by rw[e2];exact h6⟩
theorem T9{g h:ar}(hi:lF g h=true):uc g.op.fF h.op.fF=true∧(∀ d,g.dst=some d→d∉h.ct)∧(∀ d,g.dst=some d→h.dst≠some d)∧(∀ d,h.dst=some d→d∉g.ct):=by
 simp only[lF,Z0] at hi;obtain ⟨⟨h1,h2⟩,h3⟩:=hi;refine ⟨h1,fun d hd =>?_,fun d hd =>?_,fun d hd =>?_⟩
 ·rw[hd] at h2;simp at h2;exact h2.1
 ·rw[hd] at h2;simp at h2;exact h2.2
 ·rw[hd] at h3;simpa using h3
theorem eB.qv{A B C:ab}{g h:ar}(hi:lF g h=true)(h1:eB P g A B)(h2:eB P h B C):∃ B',eB P h A B'∧eB P g B' C:=by
 obtain ⟨hc,i1,i2,i3⟩:=T9 hi;simp only[uc,Bool.or_eq_true,Z0,decide_eq_true_eq,beq_iff_eq] at hc;have hg2:g.op.fF≤2:=by rcases hc with hc | hc <;>omega
 obtain ⟨v,hv,rfl⟩:=h1.gM hg2;have ag:dv (A.aM g.dst v) A h.ct:=(kT i1).symm;have cw:dw (A.aM g.dst v) A:=fun n x hx=>by rwa [gp] at hx
 cases h2 with
 |skip hn =>
  exact ⟨_,.skip (oa ag hn),by
   rw[oh i2];exact (hv.cw (by intro n x hx;rwa [gp]) (kT i3)).step⟩
 |val hp hu =>
  exact ⟨_,.val (lM ag hp) (hu.cw cw (ar.iJ ag)),by
   rw[oh i2];exact (hv.cw (by intro n x hx;rwa [gp]) (kT i3)).step⟩
 |ik hp hd hm ho =>
  rename_i d x;rw[gp] at ho;refine ⟨_,.ik (lM ag hp) hd (hm.same (ar.iJ ag)) ho,?_⟩;have e:((A.aM g.dst v).aO d (.box x)).put d (.ptr d [])=((A.aO d (.box x)).put d (.ptr d [])).aM g.dst v:=by
   cases hgd:g.dst with
   |none=>rfl
   |some e =>
    have hne:e≠d:=fun he=>i2 e hgd (by rw[hd,he]);simp only[ab.aM,ab.put,ab.aO,ab.mk.injEq,and_true]
    funext k
    by_cases h1:k=e <;>by_cases h2:k=d <;>simp_all
  rw[e];refine (hv.cw (fun n y hy =>?_) (fun k hk =>?_)).step
  ·have:n≠d:=fun he=>by rw[he,ho] at hy;cases hy
   simp only[ab.put,ab.aO,this,if_false];exact hy
  ·have:k≠d:=fun he=>i3 d hd (he▸hk);simp only[ab.put,ab.aO,this,if_false]
 |aV hp hd hm =>
  rename_i n z;have hc0:g.op.fF=0:=by
   obtain ⟨s,x,v,p,b,old,h4,_⟩:=hm;rcases hc with hc | hc
   ·rw[h4] at hc;exact absurd hc.2 (by simp[bq.fF])
   ·exact hc.1
  refine ⟨_,.aV (lM ag hp) hd (hm.same gp.symm (ar.iJ ag)),?_⟩;have e:(A.aM g.dst v).aO n z=(A.aO n z).aM g.dst v:=by cases g.dst <;>rfl
  rw[e];exact (jN.js (A':=A.aO n z) hv hc0 (fun _ _=>rfl)).step
 |fQ hp hm =>
  exfalso
  rw[hm.1] at hc;omega
theorem aX.qv{A:ab}{g h:ar}{rest:List ar}(hi:lF g h=true)(hw:aX P Y true K (al (g::h::rest) A)):aX P Y true K (al (h::g::rest) A):=by
 obtain ⟨B,h1,h2⟩:=eB.vy hw;obtain ⟨C,h3,h4⟩:=eB.vy h2;obtain ⟨B',h5,h6⟩:=eB.qv hi h1 h3;exact h5.wK (h6.wK h4)
theorem aX.oY{g:ar} : ∀ {l:List ar} {r:List ar} {A:ab},(∀ j∈l,lF j g=true)→aX P Y true K (al (l++g::r) A)→aX P Y true K (al (g::(l++r)) A)
 | [],r,A,_,h=>h
 |j::l,r,A,hi,h=>by
  obtain ⟨B,h1,h2⟩:=eB.vy (g:=j) (rest:=l++g::r) h;have h3:=aX.oY (l:=l) (r:=r) (fun k hk=>hi k (by simp[hk])) h2;exact aX.qv (hi j (by simp)) (h1.wK h3)
end
def dI(o:Oper):List Nat:=(o.after.toList.filter fun e=>Region.binds .any e).map (·.on)
def nl(cl:List Nat):List Nat→Nat
 | []=>0
 |k::ks=>(2^k ||| cl.getD k 0) ||| nl cl ks
def rm(on:List (List Nat))(gs:List ar)(cl:List Nat):Bool :=
 (List.range gs.length).all fun i=>(on.getD i []).all (fun k=>decide (k<i))&&Nat.beq (cl.getD i 0) (nl cl (on.getD i [])) &&
  (List.range i).all fun j=>(cl.getD i 0).testBit j||lF (gs.getD j default) (gs.getD i default)
theorem wN{cl:List Nat}{j:Nat} : ∀ {l:List Nat},(nl cl l).testBit j=true→j∈l∨∃ k∈l,(cl.getD k 0).testBit j=true
 | [],h=>by simp[nl] at h
 |k::ks,h=>by
  simp only[nl,Nat.testBit_or,Bool.or_eq_true,Nat.testBit_two_pow,decide_eq_true_eq] at h;rcases h with (h | h) | h
  ·exact .inl (by simp[h])
  ·exact .inr ⟨k,by simp,h⟩
  ·rcases wN h with h | ⟨m,h1,h2⟩
   ·exact .inl (by simp[h])
   ·exact .inr ⟨m,by simp[h1],h2⟩
structure tl (l:List Oper) (gs:List ar):Prop where
 kD:∀ i o,l[i]?=some o→∀ k∈dI o,k<i
 u2:∀ (S:Nat→Prop),(∀ i o,l[i]?=some o→S i→∀ k∈dI o,S k)→∀ i o g j,l[i]?=some o→gs[i]?=some g→(∀ k∈dI o,S k)→j<i→¬ S j→lF (gs.getD j default) g=true
theorem KQ{l:List Oper}{gs:List ar}{cl:List Nat}(hlen:gs.length=l.length)(h:rm (l.map dI) gs cl=true):tl l gs:=by
 simp only[rm,Y5,List.mem_range] at h;have bB:∀ i o,l[i]?=some o→∃ g,gs[i]?=some g∧(∀ k∈dI o,k<i)∧(∀ j,(cl.getD i 0).testBit j=true→j∈dI o∨∃ k∈dI o,(cl.getD k 0).testBit j=true)∧∀ j,j<i→(cl.getD i 0).testBit j=true∨lF (gs.getD j default) g=true:=by
  intro i o ho;have hi:i<l.length:=(Z8.1 ho).1;have h1:=h i (by omega);have hon:(l.map dI).getD i []=dI o:=by simp[Y7,ho]
  have hgi:i<gs.length:=by omega
  have hg:gs[i]?=some gs[i]:=Y4 hgi;have hgd:gs.getD i default=gs[i]:=by simp[Y7,hg]
  rw[hon,hgd] at h1;simp only[Z0,Y5,decide_eq_true_eq,Bool.or_eq_true,List.mem_range] at h1;have hb:=Nat.eq_of_beq_eq_true h1.1.2;exact ⟨_,hg,h1.1.1,fun j hj=>wN (by rw[←hb];exact hj),h1.2⟩
 refine ⟨fun i o ho=>(bB i o ho).choose_spec.2.1,?_⟩;intro S hS i o g j ho hg hon hj hnj;have key:∀ n i o,i≤n→l[i]?=some o→(∀ k∈dI o,S k)→∀ j,(cl.getD i 0).testBit j=true→S j:=by
  intro n
  induction n with
  |zero =>
   intro i o hi ho hon j hj;obtain ⟨g,_,h1,h2,_⟩:=bB i o ho;rcases h2 j hj with h | ⟨k,hk,_⟩
   ·exact hon j h
   ·have:=h1 k hk;omega
  |succ n ih =>
   intro i o hi ho hon j hj;obtain ⟨g,_,h1,h2,_⟩:=bB i o ho;rcases h2 j hj with h | ⟨k,hk,hjk⟩
   ·exact hon j h
   ·have hki:=h1 k hk;have hkl:k<l.length:=Nat.lt_trans hki (Z8.1 ho).1;obtain ⟨ok,hok⟩:∃ ok,l[k]?=some ok:=⟨l[k],Y4 hkl⟩
    exact ih k ok (by omega) hok (hS k ok hok (hon k hk)) j hjk
 obtain ⟨g',hg',_,_,h3⟩:=bB i o ho;rw[hg,v6] at hg';subst hg';rcases h3 j hj with h | h
 ·exact absurd (key i i o (Z5 _) ho hon j h) hnj
 ·exact h
def gW(listed:Array Bool)(n:Nat):List Nat:=(List.range n).filter fun i => !listed.getD i true
def mL(gs:List ar)(listed:Array Bool)(n:Nat):List ar:=(gW listed n).map fun i=>gs.getD i default
theorem C1{i n:Nat}(h:i<n):List.range n=List.range i++i::(List.range (n-(i+1))).map (i+1 + ·):=by
 conv=>lhs;rw[show n=(i+1)+(n-(i+1)) by omega,List.range_add]
 rw[List.range_succ];simp
theorem WM{listed:Array Bool}{i n:Nat}(h:i<n)(hs:listed.size=n)(hu:listed.getD i true=false):∃ l1 l2,gW listed n=l1++i::l2∧gW (listed.setIfInBounds i true) n=l1++l2∧∀ j∈l1,j<i∧listed.getD j true=false:=by
 have same:∀ j,j≠i→(listed.setIfInBounds i true).getD j true=listed.getD j true:=fun j hj=>getD_set_ne true (Ne.symm hj);have ju:(listed.setIfInBounds i true).getD i true=true:=by simp[hs,h]
 refine ⟨(List.range i).filter fun j => !listed.getD j true,((List.range (n-(i+1))).map (i+1 + ·)).filter fun j => !listed.getD j true,?_,?_,?_⟩
 ·simp only[gW];rw[C1 h,List.filter_append,List.filter_cons];simp only[hu,Bool.not_false,if_true]
 ·simp only[gW];rw[C1 h,List.filter_append,List.filter_cons];simp only[ju,Bool.not_true,Z7,if_false]
  congr 1
  ·refine List.filter_congr fun j hj =>?_;rw[same j (by have:=List.mem_range.1 hj;omega)]
  ·refine List.filter_congr fun j hj =>?_;obtain ⟨k,_,rfl⟩:=zz1.1 hj;rw[same _ (by omega)]
 ·intro j hj;simp only[List.mem_filter,List.mem_range,Bool.not_eq_true'] at hj;exact hj
theorem De{n:Nat} : gW (Array.replicate n false) n=List.range n:=by
 simp only[gW];refine List.filter_eq_self.2 fun i hi =>?_;have:=List.mem_range.1 hi;simp[this]
theorem UT(gs:List ar):((List.range gs.length).map fun i=>gs.getD i default)=gs:=by
 apply List.ext_getElem
 ·simp
 ·intro i h1 h2;simp[Y7,h2]
section
variable {c:cm}
theorem lx{P:Program}{n:Nat}{bg:Array Oper} : ∀ {l:List Oper} {gs:List ar},fi P n bg l=some gs→gs.length=l.length∧∀ (i:Nat) (o:Oper),l[i]?=some o→∃ g,gs[i]?=some g∧kG P n bg o=some g
 | [],gs,h=>by simp only[fi,v6] at h;subst h;exact ⟨rfl,fun i o ho=>by simp at ho⟩
 |o::l,gs,h=>by
  simp only[fi] at h;split at h
  case h_2=>cases h
  rename_i g gs' hg hgs;simp only[v6] at h;subst h;obtain ⟨h1,h2⟩:=lx (l:=l) hgs;refine ⟨by simp[h1],fun i o' ho =>?_⟩;cases i with
  |zero=>simp only[List.getElem?_cons_zero,v6] at ho;subst ho;exact ⟨g,rfl,hg⟩
  |succ i=>simpa using h2 i o' (by simpa using ho)
theorem SO{K:ab→Prop}{bg:Array Oper}{Q:Exit→Act→World→Prop}{o:Oper}{g:ar}{rest:List ar}{A:ab}{a:Act}{w:World}{Kw:Act→World→Prop}(hg:kG c.P c.n bg o=some g)(hwp:aX c.P c.Y true K (al (g::rest) A))(hs:bA c A a w)
  (hK:∀ B a' w',aX c.P c.Y true K (al rest B)→bA c B a' w'→Kw a' w'):if Region.wanted o (yielded bg a.tmps) then o.wpIn c.bh 9 c.P a w Kw Q else (∀ f,o.about c.P w a.eval=some f→c.bh.fn f)∧Kw (a.put o.dst undef) w:=by
 obtain ⟨h1,h2,h3,h4⟩:=nB hg;have step:aX c.P c.Y true K (aU A g.dst g.op rest (al rest))→o.wpIn c.bh 9 c.P a w Kw Q:=fun h =>
  rH h1 h2.symm (by rw[h2];exact h3) h hs (fun B a' w' hw hs'=>hK B a' w' hw hs')
 simp only[al] at hwp;rcases h4 with ⟨h5,h6⟩ | ⟨j,b,t,h5,h6,h7⟩
 ·rw[h6] at hwp;have hw:Region.wanted o (yielded bg a.tmps)=true:=by simp[Region.wanted,h5]
  rw[hw,if_pos rfl];exact step hwp
 ·rw[h7] at hwp;simp only at hwp;split at hwp
  ·rename_i b' hb';rw[rM hs h5 h6 hb'];split at hwp
   ·rename_i hbb;subst hbb;simp only[BEq.rfl,if_true];exact step hwp
   ·rename_i hbb;have:(b'==b)=false:=by simpa using hbb
    rw[this];simp only[Z7,if_false];exact ⟨fun f _=>kN c f,hK _ _ _ hwp (by rw[h2];exact hs.lO h3)⟩
  ·rename_i hb';rw[rN hs h5 h6 hb'];simp only[Z7,if_false];exact ⟨fun f _=>kN c f,hK _ _ _ hwp (by rw[h2];exact hs.lO h3)⟩
  ·cases hwp
theorem FE{K:ab→Prop}{bg:Array Oper}{gs:List ar}{Q:Exit→Act→World→Prop}(hQ:∀ B a w,K B→bA c B a w→Q .normal a w)(hgs:fi c.P c.n bg bg.toList=some gs)(hd:tl bg.toList gs) :
  ∀ (fuel:Nat) (listed:Array Bool) (A:ab) (a:Act) (w:World),listed.size=bg.size→(∀ i o,bg.toList[i]?=some o→listed.getD i false=true→∀ k∈dI o,listed.getD k false=true)→(gW listed bg.size).length≤fuel →
   aX c.P c.Y true K (al (mL gs listed bg.size) A)→bA c A a w→wpAnyIn c.bh 9 c.P .any bg Q fuel listed a w:=by
 obtain ⟨hlen,hat⟩:=lx hgs;have onOf_mem:∀ (o:Oper) (e:Edge),e∈o.after→Region.binds .any e=true→e.on∈dI o:=fun o e he hb=>by
  simp only[dI,zz1,List.mem_filter];exact ⟨e,⟨by simpa using he,hb⟩,rfl⟩
 have of_onOf:∀ (o:Oper) (k:Nat),k∈dI o→∃ e∈o.after,Region.binds .any e=true∧e.on=k:=fun o k hk=>by
  simp only[dI,zz1,List.mem_filter] at hk;obtain ⟨e,⟨h1,h2⟩,h3⟩:=hk;exact ⟨e,by simpa using h1,h2,h3⟩
 have last:∀ (listed:Array Bool) (A:ab) (a:Act) (w:World),listed.size=bg.size→Region.ready .any bg listed=[]→aX c.P c.Y true K (al (mL gs listed bg.size) A)→bA c A a w→Q .normal a w:=by
  intro listed A a w hsz hr hwp hs;have hnone:gW listed bg.size=[]:=by
   have all:∀ n,∀ i,i<n→i<bg.size→listed.getD i true=true:=by
    intro n
    induction n with
    |zero=>intro i hi;omega
    |succ n ih =>
     intro i hi his;cases hb:listed.getD i true with
     |true=>rfl
     |false =>
      exfalso
      have ho:bg[i]?=some bg[i]:=Array.getElem?_eq_getElem his;have:i∈Region.ready .any bg listed:=mem_ready.2 ⟨hb,bg[i],ho,fun e he hbd=>by
       have hlt:=hd.kD i bg[i] (by simp) e.on (onOf_mem _ e he hbd);have h1:=ih e.on (by omega) (by omega);have h2:e.on<listed.size:=by omega
       simpa[Array.getD_eq_getD_getElem?,h2] using h1⟩
      rw[hr] at this;cases this
   simp only[gW];refine List.filter_eq_nil_iff.2 fun i hi =>?_;have:=all (i+1) i (by omega) (List.mem_range.1 hi);simp only[this,Bool.not_true,Z7,not_false_eq_true]
  simp only[mL,hnone,zz0,al] at hwp;cases hwp with
  |done hk=>exact hQ A a w hk hs
 intro fuel
 induction fuel with
 |zero =>
  intro listed A a w hsz hcl hcnt hwp hs;have hnone:gW listed bg.size=[]:=List.length_eq_zero_iff.1 (by omega);have hr:Region.ready .any bg listed=[]:=by
   refine List.eq_nil_iff_forall_not_mem.2 fun i hi =>?_;obtain ⟨h1,o,ho,_⟩:=mem_ready.1 hi;have:i∈gW listed bg.size:=by
    simp only[gW,List.mem_filter,List.mem_range,h1,Bool.not_false,and_true];exact (Y3.1 ho).1
   rw[hnone] at this;cases this
  exact ⟨hr,last listed A a w hsz hr hwp hs⟩
 |succ fuel ih =>
  intro listed A a w hsz hcl hcnt hwp hs;refine ⟨fun hr=>last listed A a w hsz hr hwp hs,fun i hi =>?_⟩;obtain ⟨hun,o,ho,hall⟩:=mem_ready.1 hi;have hin:i<bg.size:=(Y3.1 ho).1;obtain ⟨l1,l2,e1,e2,hl1⟩:=WM hin hsz hun;have hol:bg.toList[i]?=some o:=by simpa using ho
  obtain ⟨g,hgi,hcg⟩:=hat i o hol;have hon:∀ k∈dI o,listed.getD k false=true:=fun k hk=>by
   obtain ⟨e,h1,h2,h3⟩:=of_onOf o k hk;exact h3▸hall e h1 h2
  have hgd:gs.getD i default=g:=by simp[Y7,hgi]
  have hwp':aX c.P c.Y true K (al (g::mL gs (listed.setIfInBounds i true) bg.size) A):=by
   simp only[mL,e1,zz8,Z4,hgd] at hwp;simp only[mL,e2,zz8];refine aX.oY (fun j hj =>?_) hwp;obtain ⟨k,hk,rfl⟩:=zz1.1 hj;obtain ⟨hk1,hk2⟩:=hl1 k hk;refine hd.u2 (fun k=>listed.getD k false=true) hcl i o g k hol hgi hon hk1 ?_;have hks:k<listed.size:=by omega
   simp[Array.getD_eq_getD_getElem?,hks] at hk2 ⊢;exact hk2
  unfold wpOpIn;rw[ho];refine SO hcg hwp' hs fun B a' w' hw hs'=>ih _ B a' w' (by simpa using hsz) ?_ ?_ hw hs'
  ·intro m om hom hm k hk;by_cases hmi:m=i
   ·subst hmi;rw[hol,v6] at hom;subst hom;exact getD_set_true (hon k hk)
   ·rw[getD_set_ne false (Ne.symm hmi)] at hm;exact getD_set_true (hcl m om hom hm k hk)
  ·have:(gW listed bg.size).length=(gW (listed.setIfInBounds i true) bg.size).length+1:=by
    rw[e1,e2];simp;omega
   omega
theorem WL{K:ab→Prop}{bg:Array Oper}{gs:List ar}{Q:Exit→Act→World→Prop}{id:Nat}{A:ab}{a:Act}{w:World}(hm:c.P.follows .mixedOrders=true)(hQ:∀ B a w,K B→bA c B a w→Q .normal a w)(hgs:fi c.P c.n bg bg.toList=some gs)(hd:tl bg.toList gs)
  (hwp:aX c.P c.Y true K (al gs A)) (hs:bA c A a w):(Code.region id bg true).wpIn c.bh 9 c.P Q a w:=by
 refine wpIn_region_any hm (FE hQ hgs hd bg.size (Array.replicate bg.size false) A a _ (by simp) ?_ ?_ ?_ ?_)
 ·intro i o _ h
  exfalso
  simp only[Array.getD_eq_getD_getElem?,Array.getElem?_replicate] at h;split at h <;>simp at h
 ·rw[De];simp
 ·have hl:=(lx hgs).1;simp only[zz5] at hl;simp only[mL,De];rw[←hl,UT];exact hwp
 ·obtain ⟨D,E,hs⟩:=hs;exact ⟨D,E,hs.grow (w' := { w with drawn:=w.drawn+1 }) ⟨rfl,rfl,rfl,Z5 _,fun _ _=>rfl⟩ (fun _ _ h=>h) (fun _ _ h _=>h) (fun b o h=>hs.cL b o h)⟩
end
inductive bj where
 |bX (on:Option (List (List Nat))) (gs:List ar)
 |seq (x y:bj)
 |cond (b:au) (x y:bj)
 |block (id:Nat) (x:bj)
 |loop (x:bj)
 |exit (id:Nat)
 |ret
 |skip
 |scope (x:bj)
 |label
 |oV
 |mS (f:au) (ps:List Nat) (x y:bj)
 deriving Inhabited
def dN(P:Program)(n:Nat):Code→Option bj
 | .region _ bg draw=>match fi P n bg bg.toList with
  |some gs=>if (!draw||P.follows .mixedOrders)=true then some (.bX (bif draw then some (bg.toList.map dI) else none) gs) else none
  |none=>some .oV
 | .seq x y=>match dN P n x,dN P n y with
  |some x,some y=>some (.seq x y)
  |_,_=>none
 | .cond b x y=>match aS P 0 b,dN P n x,dN P n y with
  |some b,some x,some y=>some (.cond b x y)
  |_,_,_=>none
 | .block id x=>match dN P n x with
  |some x=>some (.block id x)
  |none=>none
 | .loop x=>match dN P n x with
  |some x=>some (.loop x)
  |none=>none
 | .exit id=>some (.exit id)
 | .ret=>some .ret
 | .skip=>some .skip
 | .scope x=>match dN P n x with
  |some x=>some (.scope x)
  |none=>none
 | .label _=>some .label
 | .rangeFunc f ps x y=>match aS P 0 f,dN P n x,dN P n y with
  |some f,some x,some y=>if (ps.toList.all fun p=>p<n)=true then some (.mS f ps.toList x y) else none
  |_,_,_=>none
 |_=>none
def rZ(c:cm)(Q:Exit→ab→Prop):Exit→Act→World→Prop:=fun e a w=>∃ A,Q e A∧bA c A a w
def U(c:cm)(x:bj)(Q:Exit→ab→Prop)(A:ab):Prop :=
 ∀ code,dN c.P c.n code=some x→∀ a w,bA c A a w→code.wpIn c.bh 9 c.P (rZ c Q) a w
def cQ(k:ab→Prop)(Q:Exit→ab→Prop):Exit→ab→Prop
 | .normal,A=>k A
 |e,A=>Q e A
def kF(id:Nat)(Q:Exit→ab→Prop):Exit→ab→Prop
 | .exit id',A=>if id'=id then Q .normal A else Q (.exit id') A
 |e,A=>Q e A
section
variable {c:cm} {A:ab} {Q:Exit→ab→Prop}
def Kt(d:Option (List (List Nat)))(gs:List ar)(cl:List Nat):Bool:=match d with
 |none=>true
 |some on=>rm on gs cl
theorem U.bX{d:Option (List (List Nat))}{gs:List ar}{cl:List Nat}(hd:Kt d gs cl=true)(h:∀ K:ab→Prop,(∀ B,Q .normal B→K B)→aX c.P c.Y d.isSome K (al gs A)):U c (.bX d gs) Q A:=by
 intro code hc a w hs;cases code <;>simp only[dN] at hc <;>try (first | (cases hc;done) | ((repeat' split at hc) <;>cases hc;done))
 rename_i id bg draw;split at hc
 ·rename_i gs' hgs;split at hc
  case isFalse=>cases hc
  rename_i hok;simp only[v6,bj.bX.injEq] at hc;obtain ⟨rfl,rfl⟩:=hc;cases draw with
  |false=>exact wpIn_region_list (rL (K:=Q .normal) (fun B a w hk hs=>⟨B,hk,hs⟩) bg.toList gs' A a w hgs (h _ fun _ hb=>hb) hs)
  |true =>
   simp only[Bool.not_true,Bool.false_or] at hok;exact WL (K:=Q .normal) hok (fun B a w hk hs=>⟨B,hk,hs⟩) hgs (KQ (lx hgs).1 hd) (h _ fun _ hb=>hb) hs
 ·cases hc
theorem U.seq{x y:bj}(h:U c x (cQ (fun B=>U c y Q B) Q) A):U c (.seq x y) Q A:=by
 intro code hc a w hs;cases code <;>simp only[dN] at hc <;>try (first | (cases hc;done) | ((repeat' split at hc) <;>cases hc;done))
 rename_i cx cy;split at hc
 ·rename_i x' y' hx hy;simp only[v6,bj.seq.injEq] at hc;obtain ⟨rfl,rfl⟩:=hc;refine wpIn_seq (wpIn_mono (h cx hx a w hs) ?_);rintro e a' w' ⟨B,hq,hs'⟩;cases e <;>simp only[cQ,Exit.then] at * <;>first | exact hq cy hy a' w' hs' | exact ⟨B,hq,hs'⟩
 ·cases hc
theorem U.cond{b:au}{x y:bj}{t:Bool}(hb:af A b=.bool t)(h1:t=true→U c x Q A)(h2:t=false→U c y Q A):U c (.cond b x y) Q A:=by
 intro code hc a w hs;cases code <;>simp only[dN] at hc <;>try (first | (cases hc;done) | ((repeat' split at hc) <;>cases hc;done))
 rename_i cb cx cy;split at hc
 ·rename_i b' x' y' hb' hx hy;simp only[v6,bj.cond.injEq] at hc;obtain ⟨rfl,rfl,rfl⟩:=hc;obtain ⟨D,E,hs'⟩:=hs;have hv:=bn hs' hb';rw[hb] at hv;exact wpIn_cond_split (kc hv) (fun ht=>h1 ht cx hx a w ⟨D,E,hs'⟩) (fun ht=>h2 ht cy hy a w ⟨D,E,hs'⟩)
 ·cases hc
theorem U.block{id:Nat}{x:bj}(h:U c x (kF id Q) A):U c (.block id x) Q A:=by
 intro code hc a w hs;cases code <;>simp only[dN] at hc <;>try (first | (cases hc;done) | ((repeat' split at hc) <;>cases hc;done))
 rename_i id' cx;split at hc
 ·rename_i x' hx;simp only[v6,bj.block.injEq] at hc;obtain ⟨rfl,rfl⟩:=hc;refine wpIn_block (wpIn_mono (h cx hx a w hs) ?_);rintro e a' w' ⟨B,hq,hs'⟩;cases e <;>simp only[kF,Exit.inBlock] at * <;>first
   |exact ⟨B,hq,hs'⟩
   |(split at hq
     ·rename_i he;rw[if_pos he];exact ⟨B,hq,hs'⟩
     ·rename_i he;rw[if_neg he];exact ⟨B,hq,hs'⟩)
 ·cases hc
theorem U.exit{id:Nat}(h:Q (.exit id) A):U c (.exit id) Q A:=by
 intro code hc a w hs;cases code <;>simp only[dN] at hc <;>try (first | (cases hc;done) | ((repeat' split at hc) <;>cases hc;done))
 simp only[v6,bj.exit.injEq] at hc;subst hc;exact wpIn_exit ⟨A,h,hs⟩
theorem U.ret(h:Q .ret A):U c .ret Q A:=by
 intro code hc a w hs;cases code <;>simp only[dN] at hc <;>try (first | (cases hc;done) | ((repeat' split at hc) <;>cases hc;done))
 exact wpIn_ret ⟨A,h,hs⟩
theorem U.skip(h:Q .normal A):U c .skip Q A:=by
 intro code hc a w hs;cases code <;>simp only[dN] at hc <;>try (first | (cases hc;done) | ((repeat' split at hc) <;>cases hc;done))
 exact wpIn_skip ⟨A,h,hs⟩
theorem zF{p:Nat→Prop}(h:∃ n,p n):∃ n,p n∧∀ m,p m→n≤m:=by
 obtain ⟨n,hn⟩:=h
 induction n using Nat.strongRecOn with
 |_ n ih =>
  by_cases hm:∃ m,m<n∧p m
  ·obtain ⟨m,h1,h2⟩:=hm;exact ih m h1 h2
  ·exact ⟨n,hn,fun m hp=>Nat.le_of_not_lt fun hlt=>hm ⟨m,hlt,hp⟩⟩
open Classical in
noncomputable def least(p:Nat→Prop):Nat:=if h:∃ n,p n then (zF h).choose else 0
theorem AV{p:Nat→Prop}(h:∃ n,p n):p (least p)∧∀ m,p m→least p≤m:=by
 simp only[least,dif_pos h];exact (zF h).choose_spec
theorem XW{bh:Fence}{N:Nat}{P:Program}{code:Code}{QQ:Exit→Act→World→Prop}(aY:Nat→Act→World→Prop)(round:∀ n a w,aY n a w→code.wpIn bh N P (Exit.then (fun a' w'=>∃ m,m<n∧aY m a' w') QQ) a w) :
  ∀ n a w,aY n a w→(Code.loop code).wpIn bh N P QQ a w:=by
 intro n a w h;refine wpIn_loop (fun a w=>∃ n,aY n a w) (fun a w=>least fun n=>aY n a w) ⟨n,h⟩ ?_;intro a w hI;have hm:=(AV hI).1;refine wpIn_mono (round _ a w hm) ?_;intro e a' w' hq;cases e <;>simp only[Exit.then] at hq ⊢ <;>try exact hq
 obtain ⟨m,h1,h2⟩:=hq;exact ⟨⟨m,h2⟩,Nat.lt_of_le_of_lt ((AV ⟨m,h2⟩).2 m h2) h1⟩
def bx(A B:ab):Prop:=∀ (c:cm) (a:Act) (w:World),bA c A a w→bA c B a w
theorem bx.refl(A:ab):bx A A:=fun _ _ _ h=>h
theorem bx.trans{A B C:ab}(h:bx A B)(k:bx B C):bx A C:=fun c a w hs=>k c a w (h c a w hs)
theorem U.sub{x:bj}{B:ab}(hsub:bx A B)(h:U c x Q B):U c x Q A:=fun code hc a w hs=>h code hc a w (hsub c a w hs)
theorem U.mono{x:bj}{Q':Exit→ab→Prop}(h:U c x Q A)(hq:∀ e B,Q e B→Q' e B):U c x Q' A :=
 fun code hc a w hs=>wpIn_mono (h code hc a w hs) fun e a' w' ⟨B,h1,h2⟩=>⟨B,hq e B h1,h2⟩
theorem U.loop{σ:Type}(S:σ→ab)(C:σ→Prop)(m:σ→Nat)(s0:σ){x:bj}(h0:C s0)(hsub:bx A (S s0))
  (round:∀ s,C s→U c x (cQ (fun B=>∃ s',C s'∧m s'<m s∧bx B (S s')) Q) (S s)):U c (.loop x) Q A:=by
 intro code hc a w hs;cases code <;>simp only[dN] at hc <;>try (first | (cases hc;done) | ((repeat' split at hc) <;>cases hc;done))
 rename_i cx;split at hc
 ·rename_i x' hx;simp only[v6,bj.loop.injEq] at hc;subst hc;refine XW (fun n a w=>∃ s,C s∧m s=n∧bA c (S s) a w) ?_ (m s0) a w ⟨s0,h0,rfl,hsub c a w hs⟩;rintro n a w ⟨s,hC,rfl,hs⟩;refine wpIn_mono (round s hC cx hx a w hs) ?_;rintro e a' w' ⟨B,hq,hs'⟩;cases e <;>simp only[cQ,Exit.then] at * <;>first
   |exact ⟨B,hq,hs'⟩
   |(obtain ⟨s',h1,h2,h3⟩:=hq;exact ⟨m s',h2,s',h1,rfl,h3 c a' w' hs'⟩)
 ·cases hc
end
inductive bt where
 |tmp (t:Nat)
 |cell (a:Nat) (s:Option Nat)
def fO(P:Program):List ResultVar→Option (List bt)
 | []=>some []
 | .tmp t::l=>(fO P l).map (.tmp t :: ·)
 | .cell a t::l=>match eQ P t,fO P l with
  |some s,some l=>some (.cell a s::l)
  |_,_=>none
def sQ(A:ab):bt→Option I
 | .tmp t=>aZ true A (A.t t)
 | .cell a s=>match bO A (A.t a) with
  |some x=>if bS s x then aZ true A x else none
  |none=>none
def en(A:ab):List bt→Option (List I)
 | []=>some []
 |r::rs=>match sQ A r,en A rs with
  |some x,some xs=>some (x::xs)
  |_,_=>none
def jE:List I→I
 | [x]=>x
 |xs=>.tuple xs
def ni(args:List I):ab:=⟨fun t=>args.getD t .undef,fun _=>none⟩
def jH(rs:List bt)(r:I):Exit→ab→Prop
 | .ret,A=>∃ xs,en A rs=some xs∧jE xs=r
 | .normal,A=>∃ xs,en A rs=some xs∧jE xs=r
 |_,_=>False
def nj(args:List I)(os:List (Nat×ai)):ab:=⟨fun t=>args.getD t .undef,aH os⟩
theorem wB{P:Program}{n:Nat}{w:World}{D:aD}{E:aN}{Y:Value→List I→List (Nat×ai)→b6→Prop}{args:List I}{os:List (Nat×ai)}{vs:List Value}(hD:∀ b o,D b o→b<w.heap.size)(ho:iR (fun _=>True) w D E (aH os))
  (hv:ao w D E args vs) (hn:vs.length≤n) (hos:∀ m,aC os m=true→n≤m∧1000000≤m) (hy:nv ⟨P,w,D,n,bQ E,E,Y,none,none⟩) :
  aL ⟨P,w,D,n,bQ E,E,Y,none,none⟩ (nj args os) { tmps:=vs.toArray++Array.replicate (n-vs.toArray.size) undef,defers:=[] } w D E:=by
 refine ⟨by simp;omega,⟨[],rfl,.nil,fun _ h=>by simp at h⟩,fun t =>?_,er.refl _ _,fun _ _ h _=>h,hD,fun m =>?_,ho.cz,fun m e h=>.inr ⟨e,h,.refl e⟩,fun m hm =>?_,fun _ _ h=>h,hy,.refl _ _⟩
 ·have key:∀ (args:List I) (vs:List Value) (t:Nat),ao w D E args vs→aP w D E (args.getD t .undef) (vs.getD t undef):=by
   intro args
   induction args with
   |nil=>intro vs t h;simp only[ao] at h;subst h;simp[aP]
   |cons x xs ih =>
    intro vs t h;simp only[ao] at h;obtain ⟨v,rest,cs,rfl,h1,h2,h3⟩:=h;cases t with
    |zero=>simpa using fp h1 h2
    |succ t=>simpa using ih rest t h3
  have:=key args vs t hv;have e:(vs.toArray++Array.replicate (n-vs.toArray.size) undef).getD t undef=vs.getD t undef:=by
   simp only[Array.getD_eq_getD_getElem?,Y7];rcases Nat.lt_or_ge t vs.length with h | h
   ·rw[Array.getElem?_append_left (by simpa using h)];simp
   ·rw[Array.getElem?_append_right (by simpa using h),List.getElem?_eq_none h];simp only[Array.getElem?_replicate];split <;>rfl
  simp only[nj];rw[e];exact this
 ·have h:=ho.bz m;simp only[nj];cases hx:aH os m with
  |none=>rw[hx] at h;exact h
  |some x =>
   rw[hx] at h;cases x with
   |box x =>
    obtain ⟨b,cs,T,k1,_,k3⟩:=h;exact ⟨b,cs,T,k1,.inr ⟨m,_,k1,rfl⟩,k3⟩
   |bE T sz es =>
    obtain ⟨aA,k1,k2,k3⟩:=h;refine ⟨aA,k1,k2,?_⟩;cases aA with
    |none=>exact k3
    |some bc =>
     obtain ⟨b,cap⟩:=bc;obtain ⟨cs,pre,rest,_,k4⟩:=k3;exact ⟨cs,pre,rest,.inr ⟨m,_,k1,rfl⟩,k4⟩
   |dL T xs =>
    obtain ⟨aA,k1,k2,k3⟩:=h;refine ⟨aA,k1,k2,?_⟩;cases aA with
    |none=>exact k3
    |some bc =>
     obtain ⟨b,cap⟩:=bc;obtain ⟨cs,rest,_,k4⟩:=k3;exact ⟨cs,rest,.inr ⟨m,_,k1,rfl⟩,k4⟩
   |db x =>
    obtain ⟨b,k1,_,k3⟩:=h;exact ⟨b,k1,.inr ⟨m,_,k1,rfl⟩,k3⟩
   |b7 ks vs =>
    obtain ⟨b,es,ck,k1,_,k3⟩:=h;exact ⟨b,es,ck,k1,.inr ⟨m,_,k1,rfl⟩,k3⟩
   |it ks vs left cur =>
    obtain ⟨r,b,es,ck,dK,se,la,k1,_,k3⟩:=h;exact ⟨r,b,es,ck,dK,se,la,k1,.inr ⟨m,_,k1,rfl⟩,k3⟩
 ·have h:=ho.bz m;refine hos m ?_;cases hx:aH os m with
  |none=>rw[hx] at h;exact absurd h hm
  |some x=>simp[aC,hx]
def qf(tmps:Array Value):ResultVar→Sem Value
 | .tmp t=>pure (tmps.getD t undef)
 | .cell a t=>do loadVar t (←asAddr (tmps.getD a undef))
theorem WY(fn:Func)(tmps:Array Value):results fn tmps=(do
  let vs ←fn.results.mapM (qf tmps)
  pure (if h:vs.size=1 then vs[0] else .tuple vs)):=by
 unfold results;rfl
def mK(A:ab):bt→Option I
 | .tmp t=>some (A.t t)
 | .cell a s=>match bO A (A.t a) with
  |some x=>if bS s x then some x else none
  |none=>none
def kX(A A0:ab)(os:List (Nat×ai)):List bt→List I→Prop
 | [],[]=>True
 |r::rs,y::ys=>(∃ x,mK A r=some x∧((y=x∧x.cv=true∧x.only (aC os)=true)∨aZ true A0 x=some y))∧kX A A0 os rs ys
 |_,_=>False
def ab.jJ(A:ab)(os:List (Nat×ai)):ab:=⟨A.t,fun n=>if aC os n then none else A.o n⟩
def iB(rs:List bt)(post:b6)(A:ab):Prop :=
 ∃ (os:List (Nat×ai)) (xs:List I),(∀ n x,aH os n=some x→A.o n=some x∧x.only (aC os)=true∧x.eh=true)∧kX A (A.jJ os) os rs xs∧post (jE xs) os
def mQ(rs:List bt)(post:b6):Exit→ab→Prop
 | .ret,A=>iB rs post A
 | .normal,A=>iB rs post A
 |_,_=>False
theorem vS{c:cm}{A:ab}{a:Act}{w:World}{D:aD}{E:aN}(hs:aL c A a w D E){A0:ab}(hu:dw A0 A){os:List (Nat×ai)}{D':aD}{E':aN}(hw:gw true A0 D E D')(aq:∀ n,aC os n=true→E' n=E n)(hE':∀ n,aC os n=false→E' n=none) :
  ∀ (rs:List ResultVar) (ls:List bt) (xs:List I),fO c.P rs=some ls→kX A A0 os ls xs→∃ vs:List Value,(rs.mapM (qf a.tmps)).run c.P w=.ok vs w∧ao w D' E' xs vs
 | [],ls,xs,hc,hr=>by
  simp only[fO,v6] at hc;subst hc;cases xs with
  |nil=>exact ⟨[],by simp,by simp[ao]⟩
  |cons x xs=>simp[kX] at hr
 |r::rs,ls,xs,hc,hr=>by
  have hl:dh w D E' w D' E':=⟨hw.cI,fun _ _ _ _ h=>h,fun _ _ _ h=>h,fun _ aA l h=>⟨aA,l,h,Z5 _,fun _=>rfl⟩,fun _ _ h=>h,fun _ _ h=>h,fun _ _ _ _ h=>h⟩
  have fin1:∀ {x y:I} {v:Value},aP w D E x v→((y=x∧x.cv=true∧x.only (aC os)=true)∨aZ true A0 x=some y)→∃ cs,aW y v cs∧ae w D' E' y cs:=by
   intro x y v hv hf;rcases hf with ⟨rfl,h1,h2⟩ | hf
   ·have h3:=aP.later hl (aP.dD aq h2 hv);cases y <;>simp only[aP] at h3 <;>first | (simp[I.cv] at h1;done) | exact h3
   ·have h1:ao w D E [x] [v]:=kg [x] [v] (.cons hv .nil) (by
     intro z hz;simp only[zy2] at hz;subst hz;cases z <;>simp_all[aZ,I.cv])
    have h2:=kM (E':=E') hs hu hw [x] [y] [v] h1 (by simp[bC,hf]);simp only[ao] at h2;obtain ⟨v',rest,cs,e,k1,k2,_⟩:=h2;simp only[Y9] at e;obtain ⟨rfl,_⟩:=e;exact ⟨cs,k1,k2⟩
  cases r with
  |tmp t =>
   simp only[fO,t7] at hc;obtain ⟨ls',hl',rfl⟩:=hc;cases xs with
   |nil=>simp[kX] at hr
   |cons y ys =>
    simp only[kX] at hr;obtain ⟨⟨x,h1,h2⟩,h3⟩:=hr;simp only[mK,v6] at h1;subst h1;obtain ⟨vs,k1,k2⟩:=vS hs hu hw aq hE' rs ls' ys hl' h3;obtain ⟨cs,k3,k4⟩:=fin1 (hs.dB t) h2;refine ⟨a.tmps.getD t undef::vs,?_,?_⟩
    ·simp only[List.mapM_cons,Sem.run_bind,qf,Sem.run_pure,Result.andThen_ok,k1]
    ·simp only[ao];exact ⟨_,vs,cs,rfl,k3,k4,k2⟩
  |cell ad t =>
   simp only[fO] at hc;split at hc
   ·rename_i s ls' hk hl';simp only[v6] at hc;subst hc;cases xs with
    |nil=>simp[kX] at hr
    |cons y ys =>
     simp only[kX] at hr;obtain ⟨⟨x,h1,h2⟩,h3⟩:=hr;obtain ⟨vs,k1,k2⟩:=vS hs hu hw aq hE' rs ls' ys hl' h3;simp only[mK] at h1;split at h1
     ·rename_i z hz;split at h1
      ·rename_i hok;simp only[v6] at h1;subst h1;obtain ⟨b,off,cs,q1,q2,q3⟩:=hs.xz (hs.dB ad) hz;obtain ⟨v,q4,q5⟩:=Ds hk hok q2 q3;obtain ⟨cs',k3,k4⟩:=fin1 q5 h2;refine ⟨v::vs,?_,?_⟩
       ·have e:(qf a.tmps (.cell ad t)).run c.P w=.ok v w:=by
         simp only[qf,Sem.run_bind,q1,asAddr,Sem.run_pure,Result.andThen_ok,q4]
        simp only[List.mapM_cons,Sem.run_bind,Sem.run_pure,Result.andThen_ok,k1,e]
       ·simp only[ao];exact ⟨_,vs,cs',rfl,k3,k4,k2⟩
      ·cases h1
     ·cases h1
   ·cases hc
theorem aL.yZ{c:cm}{A:ab}{a:Act}{w:World}{D:aD}{E:aN}(h:aL c A a w D E)(hb:c.dC=none){B:Nat}{ds:List Deferred}(hd:a.defers = { target:=.collected B,args := #[] } :: ds) :
  w.heap[B]?=some (.deferred (some []))∧aL c A { a with defers:=ds } (w.putObj B (.deferred none)) D E:=by
 have hdf:=h.ec;rw[hb] at hdf;obtain ⟨Bs,h1,h2,h3⟩:=hdf;rw[hd] at h1;cases Bs with
 |nil=>cases h1
 |cons B' Bs =>
  simp only[Z4,Y9,Deferred.mk.injEq,Target.collected.injEq,and_true] at h1;obtain ⟨rfl,rfl⟩:=h1;have hB:=h3 B (by simp);have hlt:B<w.heap.size:=(Y3.1 hB.2).1;have hl:dh w D E (w.putObj B (.deferred none)) D E :=
   ⟨fun _ _ h=>h,fun b o v _ hv=>ua hB.2 rfl hv,fun _ _ _ h=>h,fun _ aA l h=>⟨aA,l,h,Z5 _,fun _=>rfl⟩,fun _ _ h=>h,fun _ _ h=>h,fun b es ck _ hm=>(World.putObj_heap_other (fun e=>by rw[e,hB.2] at hm;cases hm)).trans hm⟩
  have hne:∀ {b:Nat} {cs:Array Value} {T:TypeId},w.heap[b]?=some (.cells cs T (0,0))→(w.putObj B (.deferred none)).heap[b]?=w.heap[b]?:=fun {b cs T} hb =>
   World.putObj_heap_other (fun e=>by rw[e,hB.2] at hb;cases hb)
  refine ⟨hB.2,h.sz,by rw[hb];refine ⟨Bs,rfl,(List.nodup_cons.1 h2).2,fun B2 hB2=>⟨(h3 B2 (by simp[hB2])).1,?_⟩⟩;rw[World.putObj_heap_other (fun e=>(List.nodup_cons.1 h2).1 (by rw[←e];exact hB2))];exact (h3 B2 (by simp[hB2])).2,fun t=>aP.later hl (h.dB t),h.df.trans ⟨rfl,rfl,rfl,by simp,fun k hk =>?_⟩,h.cI,fun b o hd=>by have:=h.cL b o hd;simpa using this,fun n =>?_,h.cz,h.dy,h.eF,h.cw,h.eI,h.jL hl⟩
  ·exact World.putObj_heap_other (fun e=>hk (e▸.inl hB.1))
  ·refine (h.bz n).later hl rfl fun e b he hb=>⟨?_,fun _ h=>h⟩
   have hob:=h.bz n;unfold cX at hob;split at hob
   ·rw[hob] at he;cases he
   ·obtain ⟨b',cs,T,k1,_,k3,_⟩:=hob;rw[k1,v6] at he;subst he;simp only[br.aA,v6] at hb;subst hb;exact World.putObj_heap_other (fun e=>k3.Bl (by rw[e];exact hB.2))
   ·obtain ⟨aA,k1,_,k3⟩:=hob;rw[k1,v6] at he;subst he;split at k3
    ·simp[br.aA] at hb
    ·obtain ⟨cs,pre,rest,_,k5,_⟩:=k3;simp only[br.aA,v6] at hb;subst hb;exact hne k5
   ·obtain ⟨b',k1,_,k3,k4,_⟩:=hob;rw[k1,v6] at he;subst he;simp only[br.aA,v6] at hb;subst hb;exact World.putObj_heap_other (fun e=>by rw[e,hB.2] at k3;cases k3;cases k4)
   ·obtain ⟨b',es,ck,k1,_,k3,_⟩:=hob;rw[k1,v6] at he;subst he;cases hb;exact World.putObj_heap_other (fun e=>by rw[e,hB.2] at k3;cases k3)
   ·obtain ⟨r,b',es,ck,dK,se,la,k1,_,k3,_⟩:=hob;rw[k1,v6] at he;subst he;cases hb;exact World.putObj_heap_other (fun e=>by rw[e,hB.2] at k3;cases k3)
   ·obtain ⟨aA,k1,_,k3⟩:=hob;rw[k1,v6] at he;subst he;split at k3
    ·simp[br.aA] at hb
    ·obtain ⟨cs,m,_,k5,_⟩:=k3;simp only[br.aA,v6] at hb;subst hb;exact hne k5
def kv(w:World)(D:aD)(E:aN)(post:b6)(v:Value)(w':World):Prop :=
 ∃ D' E' r os',post r os'∧aP w' D' E' r v∧iR (fun b=>w.heap.size≤b∨bQ E b) w' D' E' (aH os') ∧
  er (fun b=>w.heap.size≤b∨bQ E b) w w'∧(∀ b o,D b o→D' b o)∧(∀ b o,D' b o→b<w'.heap.size)∧(∀ b o,D' b o→b<w.heap.size→¬ bQ E b→D b o) ∧
  (∀ n e,E n=some e→aC os' n=true→∃ e',E' n=some e'∧e.fo e')∧fM w D w'
theorem aL.vd{P:Program}{n:Nat}{w:World}{D:aD}{E:aN}{Y:Value→List I→List (Nat×ai)→b6→Prop}{qg:Option Nat}{dC:Option (List Deferred)}{A:ab}{a:Act}{w':World}{D':aD}{E':aN}
  (hs:aL ⟨P,w,D,n,bQ E,E,Y,qg,dC⟩ A a w' D' E') {os:List (Nat×ai)} (h1:∀ n x,aH os n=some x→A.o n=some x∧x.only (aC os)=true∧x.eh=true) :
  ∃ D2 E2,gw true (A.jJ os) D' E' D2∧(∀ n,aC os n=true→E2 n=E' n)∧(∀ n,aC os n=false→E2 n=none)∧iR (fun b=>w.heap.size≤b∨bQ E b) w' D2 E2 (aH os) ∧
   er (fun b=>w.heap.size≤b∨bQ E b) w w'∧(∀ b o,D b o→D2 b o)∧(∀ b o,D2 b o→b<w'.heap.size)∧(∀ b o,D2 b o→b<w.heap.size→¬ bQ E b→D b o) ∧
   (∀ n e,E n=some e→aC os n=true→∃ e',E2 n=some e'∧e.fo e')∧fM w D w':=by
 obtain ⟨c,hc⟩:∃ c:cm,c=⟨P,w,D,n,bQ E,E,Y,qg,dC⟩:=⟨_,rfl⟩
 rw[←hc] at hs;have hM:c.eg=fun b=>w.heap.size≤b∨bQ E b:=by rw[hc];rfl
 obtain ⟨E2,hE2⟩:∃ E2:aN,E2=fun n=>if aC os n then E' n else none:=⟨_,rfl⟩
 obtain ⟨D2,hD2⟩:∃ D2:aD,D2=fun b o=>b<w'.heap.size∧(D' b o∨(¬ bQ E2 b∧c.eg b)):=⟨_,rfl⟩
 have e2:∀ n,aC os n=true→E2 n=E' n:=fun n hn=>by rw[hE2];simp only[hn,if_true]
 have nG:∀ n e,E2 n=some e→aC os n=true∧E' n=some e:=fun n e he=>by
  rw[hE2] at he;simp only at he;split at he
  ·exact ⟨by assumption,he⟩
  ·cases he
 have up2:∀ b o,D' b o→D2 b o:=fun b o hd=>by
  rw[hD2];exact ⟨hs.cL b o hd,.inl hd⟩
 have down:∀ b o,D2 b o→bQ E2 b→D' b o:=fun b o hd hb=>by
  rw[hD2] at hd;rcases hd.2 with h | h
  ·exact h
  ·exact absurd hb h.1
 have hu:dw (A.jJ os) A:=fun n x hx=>by
  simp only[ab.jJ] at hx;split at hx
  ·cases hx
  ·exact hx
 have notOwn:∀ n e b,(A.jJ os).o n≠none→E' n=some e→e.aA=some b→¬ bQ E2 b:=fun n e b hn he hb ho=>by
  obtain ⟨m,e',k1,k3⟩:=ho;obtain ⟨k1,k2⟩:=nG m e' k1;have:=hs.cz n m e _ b he k2 hb k3;subst this;simp[ab.jJ,k1] at hn
 have hw:gw true (A.jJ os) D' E' D2:=by
  refine ⟨up2,fun n T sz es b cap hn aq o _ =>?_,fun _ n x b aK hn aq o _ =>?_,fun _ n ks vs b hn aq =>?_⟩
  ·rw[hD2];refine ⟨hs.eW aq rfl,.inr ⟨notOwn n _ b (by rw[hn];simp) aq rfl,?_⟩⟩;obtain ⟨aA,k1,k2,k3⟩:=hs.bE (hu n _ hn);rw[aq] at k1;simp only[v6,br.rw.injEq,and_true] at k1;subst k1;obtain ⟨_,_,_,k4,_⟩:=k3;exact k4
  ·rw[hD2];refine ⟨hs.eW aq rfl,.inr ⟨notOwn n _ b (by rw[hn];simp) aq rfl,?_⟩⟩;obtain ⟨b',cs,T,k1,k2,_⟩:=hs.box (hu n _ hn);rw[k1] at aq;simp only[v6,br.aB.injEq] at aq;obtain ⟨rfl,_⟩:=aq;exact k2
  ·rw[hD2];refine ⟨hs.eW aq rfl,.inr ⟨notOwn n _ b (by rw[hn];simp) aq rfl,?_⟩⟩;obtain ⟨b',es,ck,k1,k2,_⟩:=hs.map (hu n _ hn);rw[k1] at aq;cases aq;exact k2
 have hst:fM w D w':=by
  have:=hs.fb;rw[hc] at this;exact this
 refine ⟨D2,E2,hw,e2,fun n hn=>by rw[hE2];simp[hn],⟨fun m =>?_,fun m m' e e' b g1 g2 g3 g4 =>?_⟩,?_,fun b o hd=>up2 b o (hs.cw b o (by rw[hc];exact hd)),fun b o hd=>by rw[hD2] at hd;exact hd.1,fun b o hd hlt hno =>?_,fun m e hm hin =>?_,hst⟩
 ·cases hx:aH os m with
  |none=>simp only[cX];rw[hE2];simp[aC,hx]
  |some x =>
   have hm:aC os m=true:=by simp[aC,hx]
   obtain ⟨k1,k2,k3⟩:=h1 m x hx;have ho:=hs.bz m;rw[k1] at ho;have hl2:dh w' D' E2 w' D2 E2:=⟨up2,fun _ _ _ _ h=>h,fun _ _ _ h=>h,fun _ aA l h=>⟨aA,l,h,Z5 _,fun _=>rfl⟩,fun _ _ h=>h,fun _ _ h=>h,fun _ _ _ _ h=>h⟩
   have nD:∀ e b,E' m=some e→e.aA=some b→∀ o,D2 b o→D' b o:=fun e b he hb o hd=>down b o hd ⟨m,e,(e2 m hm).trans he,hb⟩;cases x with
   |bE T sz es =>
    obtain ⟨aA,q1,q2,q3⟩:=ho;refine ⟨aA,(e2 m hm).trans q1,q2,?_⟩;cases aA with
    |none=>exact q3
    |some bc =>
     obtain ⟨b,cap⟩:=bc;obtain ⟨cs,pre,rest,g1,g2,g3,g4,g5,g6,g7,g8⟩:=q3;exact ⟨cs,pre,rest,by rw[←hM];exact g1,g2,g3,az.later hl2 _ _ (az.dD e2 _ _ (by simpa[ai.only] using k2) g4),g5,g6,g7,fun o hd=>g8 o (nD _ b q1 rfl o hd)⟩
   |box y =>
    obtain ⟨b',cs,T,q1,q2,q3,q4,q5⟩:=ho;exact ⟨b',cs,T,(e2 m hm).trans q1,by rw[←hM];exact q2,q3,ae.later hl2 _ _ (ae.dD e2 _ _ (by simpa[ai.only] using k2) q4),fun o hd=>q5 o (nD _ b' q1 rfl o hd)⟩
   |db o =>
    obtain ⟨b',q1,q2,q3,q4,q5⟩:=ho;exact ⟨b',(e2 m hm).trans q1,by rw[←hM];exact q2,q3,q4,fun o hd=>q5 o (nD _ b' q1 rfl o hd)⟩
   |b7 ks vs =>
    obtain ⟨b',es,ck,q1,q2,q3,q4,q5,q6,q7⟩:=ho;simp only[ai.only,Z0] at k2;exact ⟨b',es,ck,(e2 m hm).trans q1,by rw[←hM];exact q2,q3,q4,ao.later hl2 _ _ (ao.dD e2 _ _ k2.1 q5),ao.later hl2 _ _ (ao.dD e2 _ _ k2.2 q6),fun o hd=>q7 o (nD _ b' q1 rfl o hd)⟩
   |it ks vs left cur=>cases k3
   |dL T xs =>
    obtain ⟨aA,q1,q2,q3⟩:=ho;refine ⟨aA,(e2 m hm).trans q1,q2,?_⟩;cases aA with
    |none=>exact q3
    |some bc =>
     obtain ⟨b,cap⟩:=bc;obtain ⟨cs,r,g1,g2,g3,g4,g5,g6,g7⟩:=q3;exact ⟨cs,r,by rw[←hM];exact g1,g2,g3,g4,g5,g6,fun o hd=>g7 o (nD _ b q1 rfl o hd)⟩
 ·exact hs.cz m m' e e' b (nG m e g1).2 (nG m' e' g2).2 g3 g4
 ·rw[←hM];have:=hs.df;rw[hc] at this ⊢;exact this
 ·rw[hD2] at hd;have hnm:¬ c.eg b:=by
    rw[hM];rintro (h | h);· omega
    ·exact hno h
  rcases hd.2 with h | h
  ·have:=hs.cI b o h hnm;rw[hc] at this;exact this
  ·exact absurd h.2 hnm
 ·rw[e2 m hin];have ho:A.o m≠none:=by
   cases hx:aH os m with
   |none=>simp[aC,hx] at hin
   |some x=>rw[(h1 m x hx).1];simp
  rcases hs.dy m e (by rw[hc];exact hm) with h | h
  ·have hob:=hs.bz m;cases hx:A.o m with
   |none=>exact absurd hx ho
   |some x=>rw[hx] at hob;exact absurd h (pQ hob)
  ·exact h
theorem aL.rX{P:Program}{n:Nat}{w:World}{D:aD}{E:aN}{Y:Value→List I→List (Nat×ai)→b6→Prop}{dC:Option (List Deferred)}{rs:List bt}{post:b6}{fn:Func}{A:ab}{a:Act}{w':World}{D':aD}{E':aN}
  (hs:aL ⟨P,w,D,n,bQ E,E,Y,none,dC⟩ A a w' D' E') (hrs:fO P fn.results.toList=some rs) (h:iB rs post A):∃ v,(results fn a.tmps).run P w'=.ok v w'∧kv w D E post v w':=by
 obtain ⟨os,xs,h1,h2,h3⟩:=h;obtain ⟨D2,E2,hw,e2,e2n,q1,q2,q3,q4,q5,q6⟩:=hs.vd h1;have hu:dw (A.jJ os) A:=fun n x hx=>by
  simp only[ab.jJ] at hx;split at hx
  ·cases hx
  ·exact hx
 obtain ⟨vs,k1,k2⟩:=vS hs hu (os:=os) (E':=E2) hw e2 e2n fn.results.toList rs xs hrs h2;have hres:(results fn a.tmps).run P w'=.ok (if h:vs.toArray.size=1 then vs.toArray[0] else .tuple vs.toArray) w':=by
  rw[WY,Sem.run_bind,Array.mapM_eq_mapM_toList,Sem.run_map,k1];rfl
 refine ⟨_,hres,D2,E2,jE xs,os,h3,?_,q1,q2,q3,q4,q5,q6⟩
 match xs,vs,k2 with
 | [x],vs,k2 =>
  simp only[ao] at k2;obtain ⟨v,rest,cs,rfl,q1,q2,rfl⟩:=k2;simpa[jE] using fp q1 q2
 | [],vs,k2 =>
  simp only[ao] at k2;subst k2;simp[jE,aP,ao]
 |x::y::xs,vs,k2 =>
  have hl:vs.length≠1:=by
   simp only[ao] at k2;obtain ⟨v,rest,cs,rfl,_,_,v2,rest2,cs2,rfl,_⟩:=k2;simp
  simp only[jE,aP];exact ⟨vs,by simp[hl],k2⟩
theorem AW{P:Program}{n:Nat}{w:World}{D:aD}{E:aN}{Y:Value→List I→List (Nat×ai)→b6→Prop}{rs:List bt}{post:b6}{fn:Func}{A:ab}{D':aD}{E':aN}(hrs:fO P fn.results.toList=some rs)(h:iB rs post A) :
  ∀ (ds:List Deferred) (a:Act) (w':World),a.defers=ds→aL ⟨P,w,D,n,bQ E,E,Y,none,none⟩ A a w' D' E'→LeavesInM Fence.wide 9 P fn a.tmps (fun e w'=>∃ v,e=.returned v∧kv w D E post v w') ds .returning w'
 | [],a,w',_,hs=>by
  obtain ⟨v,h1,h2⟩:=hs.rX hrs h;exact ⟨v,h1,v,rfl,h2⟩
 |d::ds,a,w',hd,hs=>by
  obtain ⟨Bs,h1,_⟩:=hs.ec;rw[hd] at h1;cases Bs with
  |nil=>cases h1
  |cons B Bs =>
   simp only[Z4,Y9] at h1;obtain ⟨rfl,rfl⟩:=h1;obtain ⟨k1,k2⟩:=hs.yZ rfl hd;exact ⟨by simp,.inl ⟨B,_,rfl,run_takeDeferred k1,AW hrs h _ { a with defers:=Bs.map _ } _ rfl k2⟩⟩
theorem qi{w:World}{D:aD}{E:aN} : ∀ {args:List I} {vs:List Value},ao w D E args vs→vs.length=args.length
 | [],vs,h=>by simp only[ao] at h;subst h;rfl
 |x::xs,vs,h=>by
  simp only[ao] at h;obtain ⟨v,rest,cs,rfl,_,_,h3⟩:=h;simp[qi h3]
def iQ(P:Program)(f:FuncId)(Y:Value→List I→List (Nat×ai)→b6→Prop)(args:List I)(os:List (Nat×ai))(post:b6):Prop :=
 dO P f=true∧∀ (w:World) (D:aD) (E:aN) (vs:List Value),(∀ n,nv ⟨P,w,D,n,bQ E,E,Y,none,none⟩)→(∀ b o,D b o→b<w.heap.size)→iR (fun _=>True) w D E (aH os)→ao w D E args vs →
  Calls P f vs.toArray w fun e w'=>∃ v,e=.returned v∧kv w D E post v w'
theorem iQ.sr{P:Program}{f:FuncId}{fn:Func}{body:Code}{x:bj}{rs:List bt}{Y:Value→List I→List (Nat×ai)→b6→Prop}{args:List I}{os:List (Nat×ai)}{post:b6}(hf:P.funcs[f]?=some fn)(hb:fn.body=some body)(hcall:dO P f=true)(hc:dN P fn.ntmps body=some x)
  (hrs:fO P fn.results.toList=some rs) (hn:args.length≤fn.ntmps) (hos:∀ m,aC os m=true→fn.ntmps≤m∧1000000≤m) (h:∀ (w:World) (D:aD) (E:aN),U ⟨P,w,D,fn.ntmps,bQ E,E,Y,none,none⟩ x (mQ rs post) (nj args os)):iQ P f Y args os post:=by
 refine ⟨hcall,fun w D E vs hy hD ho hv =>?_⟩;have hlen:=qi hv;have hsim:=wB (P:=P) (n:=fn.ntmps) (Y:=Y) hD ho hv (by omega) hos (hy fn.ntmps);refine (callsIn_wide (n:=9)).1 (callsIn_of_wp_marks hf hb trivial ?_);refine wpIn_mono (h w D E body hc _ w ⟨D,E,hsim⟩) ?_;rintro e a w' ⟨A,hq,D',E',hs⟩;cases e <;>simp only[mQ] at hq <;>first
  |exact AW hrs hq a.defers a w' rfl hs
  |cases hq
theorem oE{P:Program}{w:World}{D:aD}{E:aN}{n:Nat}{dC:Option (List Deferred)}(hl:eA P w (bQ E)):nv ⟨P,w,D,n,bQ E,E,fu,none,dC⟩:=⟨hl,fun _ _ _ _ h=>h.elim⟩
theorem eL.Bp{P:Program}{f:FuncId}{args:List I}{os:List (Nat×ai)}{post:b6}(h:iQ P f fu args os post):eL P f args os post :=
 ⟨h.1,fun w D E vs hl hD ho hv=>(h.2 w D E vs (fun _=>oE hl) hD ho hv).mono fun e w' ⟨v,he,D',E',r,os',k⟩=>⟨v,D',E',r,os',he,k⟩⟩
theorem aQ.Bo{P:Program}{f:FuncId}{args:List I}{r:I}(h:eL P f args [] (fun r' os'=>r'=r∧os'=[])):aQ P f args r:=by
 refine ⟨h.1,fun w D vs hl hD hv =>?_⟩;have hh:iR (fun _=>True) w D cu (aH []):=⟨fun n=>rfl,fun n m e e' b h=>by simp[cu] at h⟩
 refine (h.2 w D cu vs (hl.rY fun b ⟨n,e,h1,_⟩=>by simp[cu] at h1) hD hh hv).mono fun e w' hq =>?_;obtain ⟨v,D',E',r',os',he,⟨h1,h2⟩,k1,k2,k3,k4,k5,k6,_⟩:=hq;subst h1 h2;refine ⟨v,D',he,?_,?_,k5,fun b o hd hlt=>k6 b o hd hlt fun ⟨n,e,h,_⟩=>by simp[cu] at h⟩
 ·have:E'=cu:=by funext n;exact k2.bz n
  rw[←this];exact k1
 ·exact k3.F4 fun k hk hm=>by
   rcases hm with hm | ⟨n,e,h,_⟩
   ·omega
   ·simp[cu] at h
theorem Xm(A:ab):A.jJ []=A:=rfl
theorem Dj{A:ab} : ∀ {rs:List bt} {xs:List I},en A rs=some xs→kX A (A.jJ []) [] rs xs
 | [],xs,h=>by simp only[en,v6] at h;subst h;trivial
 |r::rs,xs,h=>by
  simp only[en] at h;split at h
  ·rename_i x xs' h1 h2;simp only[v6] at h;subst h;refine ⟨?_,Dj h2⟩;rw[Xm];cases r with
   |tmp t=>exact ⟨_,rfl,.inr h1⟩
   |cell a s =>
    simp only[sQ,mK] at h1 ⊢;split at h1
    ·rename_i y hy;split at h1
     ·rename_i hok;exact ⟨y,by simp[hok],.inr h1⟩
     ·cases h1
    ·cases h1
  ·cases h
theorem W5{rs:List bt}{r:I}{e:Exit}{A:ab}(h:jH rs r e A):mQ rs (fun r' os'=>r'=r∧os'=[]) e A:=by
 cases e <;>simp only[jH] at h <;>first
  |exact h.elim
  |(obtain ⟨xs,h1,h2⟩:=h
    exact ⟨[],xs,fun n x hx=>by simp[aH] at hx,Dj h1,h2,rfl⟩)
theorem aQ.sr{P:Program}{f:FuncId}{fn:Func}{body:Code}{x:bj}{rs:List bt}{args:List I}{r:I}(hf:P.funcs[f]?=some fn)(hb:fn.body=some body)(hcall:dO P f=true)(hc:dN P fn.ntmps body=some x)
  (hrs:fO P fn.results.toList=some rs) (hn:args.length≤fn.ntmps) (h:∀ (w:World) (D:aD) (E:aN),U ⟨P,w,D,fn.ntmps,bQ E,E,fu,none,none⟩ x (jH rs r) (ni args)):aQ P f args r:=by
 refine aQ.Bo (eL.Bp (iQ.sr hf hb hcall hc hrs hn (fun m hm=>by simp[aC,aH] at hm) fun w D E =>?_));exact (h w D E).mono fun e B hq=>W5 hq
end Go.Abs
