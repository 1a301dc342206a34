/-
  A part of the proof that the law RollLetters returns true for every input; five variables of Go's library start as the text lays them (the card ties them); conditions: none beyond the statement's own. (part 2 of 7)
-/
import Derived.Lib.AppendZerosOnto
import Derived.Lib.Strings
import Derived.Maps.RangeRun
import Derived.Laws.MakeOwn
import Derived.Laws.BytesArg
import Derived.Lib.ConvBytes
import Derived.Lib.AtoiErrMem
import Derived.Orders
import Derived.OrdersIn
import Derived.Test.YtoffnnjbplgnaaaGreatDoorNja
set_option linter.unusedSimpArgs false
set_option linter.unusedVariables false
set_option maxHeartbeats 16000000
set_option maxRecDepth 100000
namespace Go.Abs
open Go Go.RowKit
section
variable {c:cP} {A:af} {o:Oper} {x:I}
theorem nM{P:Program}{w:World}(k:IntKind)(n:Int)(y:Nat)(code:BoundsCode)(g1:0≤n)(g2:n≤y):(Instr.sliceBound (.int k n) y code).run P w=.ok n.toNat w:=by
 simp[Instr.sliceBound,asIntOf,g1,g2]
theorem acY{t e:TypeId}{y:Operand}{y':aJ}{lo hi mx:Option Operand}{lo' hi' mx':Option aJ}{i:TypeInfo}{fs:List I}{n:Nat}{p:List Nat}{sz l0 k:Nat}(ho:o.op=.slice t y lo hi mx)(hu:c.P.underlying t=some (.slice e))(hi0:c.P.info? e=some i)
  (hy:ba c.P 0 y=some y') (h1:jA c.P lo=some lo') (h2:jA c.P hi=some hi') (h3:jA c.P mx=some mx') (hmh:mx'.isSome=true→hi'.isSome=true) (hsz:sz=c.P.cellsOf e)
  (h:aj A y'=.view n p sz l0 k) (hd:ct A (.ptr n p)=some (.agg fs)) (hx:ka n p sz l0 k fs.length (lo'.map (aj A)) (hi'.map (aj A)) (mx'.map (aj A))=some x):c8 c A o x :=
 .same fun a w D E hs=>by
  have opt:∀ {q:Option Operand} {q':Option aJ},jA c.P q=some q'→jo w D E (q'.map (aj A)) (q.map a.eval):=by
   intro q q' hq;cases q with
   |none=>simp only[jA,v6] at hq;subst hq;simp[jo]
   |some z =>
    simp only[jA,t8] at hq;obtain ⟨z',hz,rfl⟩:=hq;simpa[jo] using bz hs hz
  have h0:=bz hs hy;rw[h] at h0;obtain ⟨yy,b,cs,T,off,c1,c2,c3,k1,k2,k3,k4,k5,k6,k7,k8,k9,k10,k11,k12,hval⟩:=hs.view h0 hd;have hmh':(mx'.map (aj A)).isSome=true→(hi'.map (aj A)).isSome=true:=by simpa using hmh
  unfold ka at hx;split at hx
  ·cases hx
  rename_i hh hbh;split at hx
  ·cases hx
  rename_i ll hbl;have d1:=tk (opt h1) hbl;have d2:=tk (opt h2) hbh;have o3:=opt h3;split at hx
  ·rename_i hmx;split at hx
   case isFalse=>cases hx
   rename_i hb;obtain ⟨b1,b2,b3⟩:=hb;have hvmx:mx.map a.eval=none:=by
    rw[hmx] at o3;cases hq:mx.map a.eval with
    |none=>rfl
    |some v=>rw[hq] at o3;simp[jo] at o3
   have hsb:(Instr.sliceBounds true k (fs.length-l0) (lo.map a.eval) (hi.map a.eval) (mx.map a.eval)).run c.P w=.ok (ll.toNat,hh.toNat,fs.length-l0) w:=by
    rw[hvmx];rcases d2 with ⟨_,g2,hm2⟩ | ⟨_,q2,g2⟩ <;>rcases d1 with ⟨_,g1,hm1⟩ | ⟨_,q1,g1⟩ <;>rw[g1,g2]
    ·subst hm1 hm2;simp[Instr.sliceBounds]
    ·subst hm2;simp[Instr.sliceBounds,nM q1 ll k _ b1 (by omega)]
    ·subst hm1;simp[Instr.sliceBounds,nM q2 hh (fs.length-l0) _ (by omega) (by omega)]
    ·simp[Instr.sliceBounds,nM q2 hh (fs.length-l0) _ (by omega) (by omega),nM q1 ll hh.toNat _ b1 (by omega)]
   have hrun:(Instr.sliceAt t (a.eval y) (lo.map a.eval) (hi.map a.eval) (mx.map a.eval)).run c.P w =
     .ok (.slice (if fs.length-l0=ll.toNat then some ⟨b,off+l0*sz,none⟩ else some ⟨b,off+l0*sz+ll.toNat*c.P.cellsOf e,none⟩) (hh.toNat-ll.toNat) (fs.length-l0-ll.toNat)) w:=by
    rw[hval];simp only[Instr.sliceAt,Instr.slice,Sem.run_bind,run_underlying hu,Result.andThen_ok,hsb,jb hi0,Sem.run_pure,zy5,n9]
   refine ⟨_,by simp only[execOp,ho,Sem.run_bind,hrun];rfl,?_⟩;split at hx
   ·rename_i hl;simp only[v6] at hx;subst hx;have e1:fs.length-l0=ll.toNat:=by omega
    have e2:hh.toNat-ll.toNat=0:=by omega
    rw[if_pos e1,e2,e1,Nat.sub_self];exact ⟨_,by simp[bm,I.isAgg];rfl,by simp only[ai];exact ⟨_,rfl⟩⟩
   ·rename_i hl;simp only[v6] at hx;subst hx;rw[if_neg (by omega)];refine ⟨_,by simp[bm,I.isAgg];rfl,?_⟩;simp only[ai];refine ⟨b,yy.aN,off,I.cB fs,k2,k5,nN p yy _ k4,?_,?_,?_,?_⟩
    ·rw[I.c7,zz3,Nat.add_mul,Nat.add_assoc,hsz,Nat.sub_sub]
    ·rw[I.c7,zz3];exact k12
    ·rw[I.c7,zz3];omega
    ·rw[I.c7];intro s hs';obtain ⟨f,hf,rfl⟩:=zx4.1 hs';rw[I.jN];exact k10 f hf
  ·rename_i kk m hmx;split at hx
   case isFalse=>cases hx
   rename_i hb;obtain ⟨b1,b2,b3,b4⟩:=hb;simp only[v6] at hx;subst hx;obtain ⟨vmx,hvmx,hvm⟩:∃ v,mx.map a.eval=some v∧v=.int kk m:=by
    rw[hmx] at o3;cases hq:mx.map a.eval with
    |none=>rw[hq] at o3;simp[jo] at o3
    |some v=>rw[hq] at o3;simp only[jo] at o3;exact ⟨v,rfl,(ef o3).1⟩
   subst hvm;have hsb:∃ r,(Instr.sliceBounds true k (fs.length-l0) (lo.map a.eval) (hi.map a.eval) (mx.map a.eval)).run c.P w=.ok r w:=by
    rw[hvmx];rcases d2 with ⟨g0,g2,hm2⟩ | ⟨_,q2,g2⟩
    ·rw[hmx,g0] at hmh';simp at hmh'
    ·rcases d1 with ⟨_,g1,hm1⟩ | ⟨_,q1,g1⟩ <;>rw[g1,g2]
     ·exact ⟨_,by simp[Instr.sliceBounds,nM kk m (fs.length-l0) _ (by omega) b4,nM q2 hh m.toNat _ (by omega) (by omega)];rfl⟩
     ·exact ⟨_,by simp[Instr.sliceBounds,nM kk m (fs.length-l0) _ (by omega) b4,nM q2 hh m.toNat _ (by omega) (by omega),nM q1 ll hh.toNat _ b1 (by omega)];rfl⟩
   obtain ⟨⟨r1,ja,rn⟩,hsb⟩:=hsb;have hrun:∃ v,(Instr.sliceAt t (a.eval y) (lo.map a.eval) (hi.map a.eval) (mx.map a.eval)).run c.P w=.ok v w:=by
    rw[hval];exact ⟨_,by simp only[Instr.sliceAt,Instr.slice,Sem.run_bind,run_underlying hu,Result.andThen_ok,hsb,jb hi0,Sem.run_pure,zy5];rfl⟩
   obtain ⟨v,hrun⟩:=hrun;exact ⟨v,by simp only[execOp,ho,Sem.run_bind,hrun];rfl,by simp[aV]⟩
  ·cases hx
theorem acJ{t e:TypeId}{y z:Operand}{y' z':aJ}{i:TypeInfo}{fs:List I}{n:Nat}{p:List Nat}{sz lo k:Nat}{kk:IntKind}{j:Int}(ho:o.op=.indexAddr t y z)(hu:c.P.underlying t=some (.slice e))(hi:c.P.info? e=some i)
  (hy:ba c.P 0 y=some y') (hz:ba c.P 0 z=some z') (hsz:sz=c.P.cellsOf e) (h:aj A y'=.view n p sz lo k) (hd:ct A (.ptr n p)=some (.agg fs)) (h':aj A z'=.int kk j) (hj:0≤j∧j<k):c8 c A o (.ptr n (p++[lo+j.toNat])) :=
 .same fun a w D E hs=>by
  have h0:=bz hs hy;rw[h] at h0;have h1':=bz hs hz;rw[h'] at h1';obtain ⟨yy,b,cs,T,off,c1,c2,c3,k1,k2,k3,k4,k5,k6,k7,k8,k9,k10,k11,k12,hval⟩:=hs.view h0 hd;refine ⟨.pointer (some ⟨b,off+lo*sz+j.toNat*c.P.cellsOf e,none⟩),by simp only[execOp,ho,hval,(ef h1').1,Sem.run_bind,Ad hu hi hj];rfl,?_⟩;refine ⟨_,by simp[bm,I.isAgg];rfl,?_⟩;simp only[ai];refine ⟨b,yy.aN,off+(lo+j.toNat)*sz,k2,?_,by rw[Nat.add_mul,←Nat.add_assoc,hsz]⟩;have hl:lo+j.toNat<fs.length:=by omega
  rw[cg.vY p yy.aN off (lo+j.toNat) _ k5 (nN p yy _ k4) (by rw[I.c7];simpa using hl),I.c7,←List.map_take,←I.c7,I.nO,pT fs _ k10 (by omega)]
theorem yO{ty:TypeId}{y:Operand}{y':aJ}{n:Nat}{e:TypeId}(ho:o.op=.call { callee:=.builtin .cap,args := #[y],argTypes := #[ty] })(hu:c.P.underlying ty=some (.slice e))
  (hy:ba c.P ty y=some y') (h:∀ a w D E,aT c A a w D E→∀ v,aV w D E (aj A y') v→n≤maxLen∧∃ ad l,v=.slice ad l n):c8 c A o (.int .i64 n) :=
 .same fun a w D E hs=>by
  obtain ⟨h0,ad,l,ae⟩:=h a w D E hs _ (bz hs hy);exact ⟨.int .i64 n,by simp[execOp,ho,resolve,invoke,builtin,Builtin.cap_,run_underlying hu,ae,goInt],jG (zh h0)⟩
theorem acw{t e:TypeId}{i:TypeInfo}(ho:o.op=.buildSlice t 0 #[])(hu:c.P.underlying t=some (.slice e))(hi:c.P.info? e=some i):c8 c A o (.c0 (c.P.cellsOf e)):=by
 intro a w D E hs;have hs':=hs.newRow (.cells #[] e);refine ⟨.slice (some ⟨w.heap.size,0,none⟩) 0 0,_,_,?_,hs',⟨_,by simp[bm,I.isAgg];rfl,by simp only[ai];exact ⟨_,rfl⟩⟩⟩;simp[execOp,ho,Instr.buildSlice,run_underlying hu,jb hi,newRow,Instr.fill,show (Array.range 0) = #[] from rfl]
theorem aey{neg:Bool}{t e:TypeId}{y z:Operand}{y':aJ}{yt:TypeId}{s:Nat}(ho:o.op=.binOp (if neg then .neq else .eql) t y z yt)(hu:c.P.underlying t=some (.slice e))(hy:ba c.P 0 y=some y')(hz:ba c.P 0 z=some (.c (.nils s)))
  (h:∃ sz,aj A y'=.slice sz []∨aj A y'=.c0 sz) {a:Act} {w:World} {D:aO} {E:aU} (hs:aT c A a w D E):∃ b,(execOp a.eval o).run c.P w=.ok (.value (.bool b)) w:=by
 have h0:=bz hs hy;have h1:aV w D E (.nils s) (a.eval z):=bz hs hz;have ae:∃ ad cp,a.eval y=.slice ad 0 cp:=by
  obtain ⟨sz,h | h⟩:=h <;>rw[h] at h0
  ·obtain ⟨ad,cap,e1,_⟩:=mL h0;exact ⟨ad,cap,by simpa using e1⟩
  ·obtain ⟨cs,q1,q2⟩:=h0;simp only[ai] at q2;obtain ⟨ad,q2⟩:=q2;exact ⟨ad,0,by simpa[bm,I.isAgg,q2] using q1.symm⟩
 obtain ⟨ad,cp,hyv⟩:=ae;have ae:a.eval z=.slice none 0 0:=by
  obtain ⟨cs,q1,q2⟩:=h1;simp only[ai] at q2;simpa[bm,I.isAgg,q2] using q1.symm
 have he:∀ d,(Op.equalIn (d+1) t (.slice ad 0 cp) (.slice none 0 0)).run c.P w=.ok ad.isNone w:=fun d=>by
  cases ad <;>simp[Op.equalIn,run_underlying hu]
 refine ⟨if neg then !ad.isNone else ad.isNone,?_⟩;cases neg <;>simp only[execOp,ho,hyv,ae,if_true,zy0,if_false,Sem.run_bind,eqGuard] <;>simp[binOp,Op.equal,Op.maxDepth,he]
def jd(y:I)(p:List Nat)(j:Nat)(fs ys:List I):I:=y.dR p (.agg (fs.take j++(ys++fs.drop (j+ys.length))))
theorem RN{t e:TypeId}{y:Operand}{y':aJ}{z:I}{n:Nat}{p:List Nat}{lo k:Nat}{b:I}{fs:List I}(ho:o.op=.call { callee:=.builtin .clear,args := #[y],argTypes := #[t] })(hu:c.P.underlying t=some (.slice e))(hy:ba c.P t y=some y')
  (hz:gi c.P e=some z) (ae:aj A y'=.view n p (c.P.cellsOf e) lo k) (hn:A.o n=some (.box b)) (hat:b.at p=some (.agg fs)) (hsh:I.cB (List.replicate k z)=I.cB ((fs.drop lo).take k)) (hd:o.dst=none) :
  iq c A o (A.aM n (.box (jd b p lo fs (List.replicate k z)))):=by
 intro a w D E hs;obtain ⟨i,zv,hi,hzv,hzr⟩:=lY hz;have h0:=bz hs hy;rw[ae] at h0;have hx:ct A (.ptr n p)=some (.agg fs):=by simp only[ct,hn,hat]
 obtain ⟨yy,bk,cs,T,off,c1,c2,c3,k1,k2,k3,k4,k5,k6,k7,k8,k9,k10,k11,k12,hval⟩:=hs.view h0 hx;rw[hn] at k1;simp only[v6,al.box.injEq] at k1;subst k1;have hr:aK w D E (List.replicate k z) (Builtin.zeroCells zv.cells k).toList:=by
  rw[w7];exact tq (hzr w D E) k
 obtain ⟨w',h1,h2⟩:=hs.jd (j:=lo) (ys:=List.replicate k z) hn k2 k3 k4 k5 k6 k7 k8 k9 k10 hr (by simpa using k11) (by simpa using hsh) c.P;cases k with
 |zero =>
  refine ⟨w,.inl ⟨.tuple #[],?_,D,E,?_⟩⟩
  ·simp[execOp,ho,resolve,invoke,builtin,Builtin.clear_,run_underlying hu,hval]
  ·rw[hd];have:jd b p lo fs (List.replicate 0 z)=b.dR p (.agg fs):=by simp[jd]
   have hw:w'=w:=by
    simp[Builtin.zeroCells,storeCells] at h1;exact h1.symm
   rw[hw] at h2;exact h2
 |succ k =>
  refine ⟨w',.inl ⟨.tuple #[],?_,D,E,?_⟩⟩
  ·simp[execOp,ho,resolve,invoke,builtin,Builtin.clear_,run_underlying hu,hval,zeroValue,typeInfo,hi,hzv,h1]
  ·rw[hd];exact h2
theorem IE{w:World}{D:aO}{E:aU} : ∀ l:List UInt8,aK w D E (l.map fun b=>I.int .u8 b.toNat) (l.map fun b=>Value.int .u8 b.toNat)
 | []=>rfl
 |b::l=>by
  simp only[zz9,aK];refine ⟨[.int .u8 b.toNat],_,rfl,?_,IE l⟩;simp only[ai,true_and];have:=b.toNat_lt;simp[IntKind.min,IntKind.max,IntKind.bits,IntKind.signed];omega
theorem aT.Jv{a:Act}{w:World}{D:aO}{E:aU}(hsim:aT c A a w D E){sz:Nat}{x:I}{v:Value}{ys:List I}(ae:aV w D E x v)(hs:lU A sz x=some ys) :
  ∃ news:List Value,aK w D E ys news∧(∀ y∈ys,y.size=sz)∧ys.length≤maxLen∧(∀ P:Program,(Builtin.lenOf v).run P w=.ok ys.length w)∧∀ (P:Program) (m:Nat) (d2 rest:List Value),m≤ys.length→news=d2++rest→d2.length=m*sz→(Builtin.firstCells sz m v).run P w=.ok d2.toArray w:=by
 unfold lU at hs;split at hs
 ·rename_i s;split at hs
  case isFalse=>cases hs
  rename_i h1;subst h1;simp only[v6] at hs;subst hs;obtain ⟨rfl,hsz⟩:=il ae;refine ⟨s.data.toList.map fun b=>.int .u8 b.toNat,IE _,?_,by simpa using hsz,fun P=>by simp[Builtin.lenOf],fun P m d2 rest hm e hl =>?_⟩
  ·intro y hy;obtain ⟨b,_,rfl⟩:=zx4.1 hy;simp[I.size]
  ·have e2:d2=(s.data.toList.map fun b=>Value.int .u8 b.toNat).take m:=by rw[e,List.take_left' (by omega)]
   have e3:=Lib.extract_data s 0 m;simp only[Builtin.firstCells,Sem.run_pure]
   congr 1
   apply Array.ext';rw[e2,Array.toList_map,e3];simp
 ·obtain ⟨ad,cp,news,s1,s2,s3,s4,s5,s6⟩:=hsim.nR ae hs;refine ⟨news,s4,s5,by omega,fun P=>by rw[s1];simp[Builtin.lenOf],fun P m d2 rest hm e hl =>?_⟩;rw[s1];by_cases hm0:m=0
  ·have:d2=[]:=zv0 (by rw[hl,hm0];simp);subst this;cases ad with
   |none=>exact run_firstCells_none _ _ _ _ _
   |some ad=>exact run_firstCells_some w sz m ad ys.length cp [] (by simp[hm0]) (by simp)
  ·obtain ⟨b2,o2,rfl,hr⟩:=s6 (fun h=>by rw[h] at hm;simp at hm;omega);refine run_firstCells_some w sz m _ ys.length cp d2 hl fun j v hj =>?_;rw[Addr.add_lit];refine hr j v ?_;rw[e,zx0 (zy4.1 hj).1];exact hj
theorem RO{t t' e:TypeId}{y x:Operand}{y' x':aJ}{n:Nat}{p:List Nat}{lo k m:Nat}{b:I}{fs ys:List I}(ho:o.op=.call { callee:=.builtin .copy,args := #[y,x],argTypes := #[t,t'] })(hu:c.P.underlying t=some (.slice e))(hi:(c.P.info? e).isSome=true)
  (hy:ba c.P t y=some y') (hx:ba c.P t' x=some x') (ae:aj A y'=.view n p (c.P.cellsOf e) lo k) (hn:A.o n=some (.box b)) (hat:b.at p=some (.agg fs)) (hs:lU A (c.P.cellsOf e) (aj A x')=some ys) (hm:m=min ys.length k)
  (hsh:I.cB (ys.take m)=I.cB ((fs.drop lo).take m)) (hdn:∀ k,o.dst=some k→k<c.n) :
  iq c A o ((A.aM n (.box (jd b p lo fs (ys.take m)))).aR o.dst (.int .i64 m)):=by
 intro a w D E hsim;obtain ⟨i,hi⟩:=zx3.1 hi;have h0:=bz hsim hy;rw[ae] at h0;have hxx:ct A (.ptr n p)=some (.agg fs):=by simp only[ct,hn,hat]
 obtain ⟨yy,bk,cs,T,off,c1,c2,c3,k1,k2,k3,k4,k5,k6,k7,k8,k9,k10,k11,k12,hval⟩:=hsim.view h0 hxx;rw[hn] at k1;simp only[v6,al.box.injEq] at k1;subst k1;obtain ⟨news,s4,s5,s3,s1,s6⟩:=hsim.Jv (bz hsim hx) hs;have hmy:m≤ys.length:=by omega
 have hci:c.P.cellsOf e=i.size:=by simp[Program.cellsOf,hi]
 obtain ⟨d1,d2,d3,e1,e2,e3,e4⟩:=wo s4 s5 0 m (by omega);simp only[Nat.zero_mul,List.drop_zero] at e2 e3;have e2':d1=[]:=zv0 e2;subst e2';simp only[zy3] at e1;have hlen:(ys.take m).length=m:=by rw[zz6];omega
 have hd2:d2.length=m*i.size:=by rw[aK.length _ _ e3,I.iJ (sz:=c.P.cellsOf e) _ (fun y hy=>s5 y (zx9 hy)),hlen,hci]
 obtain ⟨w',h1,h2⟩:=hsim.jd (j:=lo) (ys:=ys.take m) hn k2 k3 k4 k5 k6 k7 k8 k9 k10 e3 (by rw[hlen];omega) (by rw[hlen];exact hsh) c.P;have hf:=s6 c.P m d2 d3 hmy e1 (by rw[hd2,hci]);have h63:m≤maxLen:=by omega
 refine ⟨w',.inl ⟨.int .i64 m,?_,D,E,h2.aR hdn (jG (zh h63))⟩⟩;have hmin:Nat.min ys.length k=m:=hm.symm;have hlo:=s1 c.P;simp only[execOp,ho,resolve,invoke,builtin,Sem.run_bind,Sem.run_pure,Result.andThen_ok,List.map_toArray,zz9,zy9,hval];simp[Builtin.copy_,run_underlying hu,hlo,hmin,jb hi,hf,h1,goInt]
theorem RP{t t' e:TypeId}{y x:Operand}{y' x':aJ}{z0:Nat}{ys:List I}(ho:o.op=.call { callee:=.builtin .copy,args := #[y,x],argTypes := #[t,t'] })(hu:c.P.underlying t=some (.slice e))(hi:(c.P.info? e).isSome=true)
  (hy:ba c.P t y=some y') (hx:ba c.P t' x=some x') (ae:aj A y'=.c0 z0) (hs:lU A (c.P.cellsOf e) (aj A x')=some ys) (hdn:∀ k,o.dst=some k→k<c.n) :
  iq c A o (A.aR o.dst (.int .i64 0)):=by
 intro a w D E hsim;obtain ⟨i,hi⟩:=zx3.1 hi;have h0:=bz hsim hy;rw[ae] at h0;obtain ⟨cs,q1,q2⟩:=h0;simp only[ai] at q2;obtain ⟨ad,q2⟩:=q2;have hval:a.eval y=.slice ad 0 0:=by simpa[bm,I.isAgg,q2] using q1.symm
 obtain ⟨news,s4,s5,s3,s1,s6⟩:=hsim.Jv (bz hsim hx) hs;have hf:=s6 c.P 0 [] news (by omega) (by simp) (by simp);have hlo:=s1 c.P;refine ⟨w,.inl ⟨.int .i64 0,?_,D,E,hsim.aR hdn (jG ⟨by decide,by decide⟩)⟩⟩;have hmin:Nat.min ys.length 0=0:=Nat.min_eq_right (by omega);simp only[execOp,ho,resolve,invoke,builtin,Sem.run_bind,Sem.run_pure,Result.andThen_ok,List.map_toArray,zz9,zy9,hval];cases ad <;>simp[Builtin.copy_,run_underlying hu,hlo,jb hi,hf,goInt,storeCells]
theorem qm{a:Act}{w:World}{D:aO}{E:aU}(hs:aT c A a w D E){sz:Nat}{x:I}{v:Value}{es:List I}(ae:aV w D E x v)(he:du A sz x=some es) :
  ∃ ad cp olds,v=.slice ad es.length cp∧es.length≤cp∧cp≤maxLen∧aK w D E es olds∧(∀ y∈es,y.size=sz)∧∀ (P:Program) (w':World),(∀ p u,w.cell? p=some u→w'.cell? p=some u)→(Builtin.firstCells sz es.length v).run P w'=.ok olds.toArray w':=by
 obtain ⟨ad,cp,news,s1,s2,s3,s4,s5,s6⟩:=hs.nR ae he;refine ⟨ad,cp,news,s1,s2,s3,s4,s5,fun P w' hw =>?_⟩;have hl:news.length=es.length*sz:=by rw[aK.length _ _ s4,I.iJ _ s5]
 rw[s1];by_cases h0:es=[]
 ·subst h0;have:news=[]:=zv0 (by rw[hl];simp);subst this;cases ad with
  |none=>exact run_firstCells_none _ _ _ _ _
  |some ad=>exact run_firstCells_some w' sz _ ad _ cp [] (by simp) (by simp)
 ·obtain ⟨b,o',rfl,hr⟩:=s6 h0;exact run_firstCells_some w' sz _ _ _ cp news hl fun j v hj=>by rw[Addr.add_lit];exact hw _ _ (hr j v hj)
theorem Ln{t e:TypeId}{s x:Operand}{s' x':aJ}{es ys:List I}{z:I}{d:Nat}(ho:o.op=.call { callee:=.builtin .append,args := #[s,x],argTypes := #[t,t] })(hu:c.P.underlying t=some (.slice e))(hs':ba c.P t s=some s')(hx':ba c.P t x=some x')
  (hz:gi c.P e=some z) (hzs:z.size=c.P.cellsOf e) (hse:du A (c.P.cellsOf e) (aj A s')=some es) (hsx:du A (c.P.cellsOf e) (aj A x')=some ys) (hby:(es.length+ys.length)*c.P.bytesOf e≤140737488355328)
  (hd:o.dst=some d) (hdn:d<c.n) (hf:A.o d=none) (hne:ys≠[]) {a:Act} {w:World} {D:aO} {E:aU} (hsim:aT c A a w D E) (hfull:∀ ad l cp,a.eval s=.slice ad l cp→cp<l+ys.length) (hml:es.length+ys.length≤maxLen) :
  ∃ v w' m,(execOp a.eval o).run c.P w=.ok (.value v) w'∧es.length+ys.length+m≤maxLen ∧
   bP c ((A.aM d (.box (.agg (es++(ys++List.replicate m z))))).aR o.dst (.view d [] (c.P.cellsOf e) 0 (es.length+ys.length))) (a.put o.dst v) w':=by
 obtain ⟨i,zv,hi,hzv,hzr⟩:=lY hz;have hci:c.P.cellsOf e=i.size:=by simp[Program.cellsOf,hi]
 have hbi:c.P.bytesOf e=i.bytes:=by simp[Program.bytesOf,hi]
 obtain ⟨ad1,cp1,olds,s1,s2,s3,s4,s5,s6⟩:=qm hsim (bz hsim hs') hse;obtain ⟨ad2,cp2,news,t1,t2,t3,t4,t5,t6⟩:=qm hsim (bz hsim hx') hsx;have hlt:=hfull _ _ _ s1;obtain ⟨m,hm⟩:∃ m,m=grownCap w (es.length+ys.length) cp1 e-(es.length+ys.length):=⟨_,rfl⟩
 have hge:=grownCap_ge w (es.length+ys.length) cp1 e;have hle:=grownCap_le_maxLen w (es.length+ys.length) cp1 e hml;obtain ⟨cells,hcells⟩:∃ cells:Array Value,cells=olds.toArray++news.toArray++Builtin.zeroCells zv.cells m:=⟨_,rfl⟩
 have hrun:(Builtin.append_ #[t,t] o.type #[a.eval s,a.eval x]).run c.P w=.ok (.slice (some ⟨w.heap.size,0,none⟩) (es.length+ys.length) (grownCap w (es.length+ys.length) cp1 e)) (w.drew.alloc (.cells cells e)):=by
  have hn:¬ (es.length+ys.length≤cp1):=by omega
  have h63:¬ (9223372036854775807<((es.length:Int)+(ys.length:Int))):=by simp only[maxLen] at hml;omega
  have h48:¬ (281474976710656<Builtin.nextslicecap (es.length+ys.length) cp1*i.bytes):=by
   have h3:(es.length+ys.length)*i.bytes≤140737488355328:=by rw[←hbi];exact hby
   have:=growslice_fits hlt h3;omega
  have g1:=s6 c.P w.drew (fun _ _ h=>h);have g2:=t6 c.P w.drew (fun _ _ h=>h);rw[s1,hci] at g1;rw[t1,hci] at g2;rw[s1,t1,hcells,hm];simp[Builtin.append_,run_underlying hu,sizeOf,typeInfo,zeroValue,hi,hzv,Builtin.lenOf,hn,h63,h48,Question.forced,g1,g2,newRow,grownCap]
  congr 2
  apply Array.ext';simp[zz7]
 have hcl:cells.toList=olds++(news++(List.replicate m zv.cells.toList).flatten):=by
  rw[hcells];simp[w7]
 have hrc:ai w D E (.agg (es++(ys++List.replicate m z))) cells.toList:=by
  rw[hcl];simp only[ai];exact kv _ _ _ _ s4 (kv _ _ _ _ t4 (tq (hzr w D E) m))
 have hsim':aT c A a w.drew D E:=hsim.grow ⟨rfl,rfl,rfl,zy1 _,fun _ _=>rfl⟩ (fun _ _ h=>h) (fun _ _ h _=>h) (fun b o h=>hsim.dy b o h);have hrc':ai w.drew D E (.agg (es++(ys++List.replicate m z))) cells.toList:=ai.later (w:=w) (w':=w.drew) (D:=D) (E:=E) ⟨fun _ _ h=>h,fun _ _ _ _ h=>h,fun _ _ _ h=>h,fun _ aL l h=>⟨aL,l,h,zy1 _,fun _=>rfl⟩,fun _ _ h=>h,fun _ _ h=>h,fun _ _ _ _ h=>h⟩ _ _ hrc;have h1:=hsim'.tc (T:=e) (.inl hdn) hf hrc';have hall:∀ y∈es++(ys++List.replicate m z),y.size=c.P.cellsOf e:=by
  intro y hy;rcases zy6.1 hy with hy | hy
  ·exact s5 y hy
  ·rcases zy6.1 hy with hy | hy
   ·exact t5 y hy
   ·rw[List.eq_of_mem_replicate hy];exact hzs
 have hlen:(es++(ys++List.replicate m z)).length=es.length+ys.length+m:=by simp[Nat.add_assoc]
 have h2:=h1.put (d:=d) (x:=.view d [] (c.P.cellsOf e) 0 (es.length+ys.length)) (v:=.slice (some ⟨w.heap.size,0,none⟩) (es.length+ys.length) (grownCap w (es.length+ys.length) cp1 e)) hdn ⟨_,by simp[bm,I.isAgg];rfl,by
  simp only[ai,if_true];refine ⟨w.heap.size,(I.agg (es++(ys++List.replicate m z))).aN,0,I.cB (es++(ys++List.replicate m z)),rfl,by cases (I.agg (es++(ys++List.replicate m z))).aN <;>simp[cg.off],by simp only[I.aN,cg.part],?_,?_,?_,?_⟩
  ·rw[I.c7,zz3,hlen,hm];simp;omega
  ·rw[I.c7,zz3,hlen];omega
  ·rw[I.c7,zz3,hlen];omega
  ·rw[I.c7];intro s hs;obtain ⟨f,hf,rfl⟩:=zx4.1 hs;rw[I.jN];exact hall f hf⟩
 refine ⟨.slice (some ⟨w.heap.size,0,none⟩) (es.length+ys.length) (grownCap w (es.length+ys.length) cp1 e),w.drew.alloc (.cells cells e),m,?_,by omega,?_⟩
 ·unfold execOp;simp only[ho,resolve,invoke,builtin,Sem.run_bind,Sem.run_pure,Result.andThen_ok,List.map_toArray,zz9,zy9,hrun]
 ·rw[hd];exact ⟨D,_,h2⟩
theorem Lp{t t' e:TypeId}{s x:Operand}{s' x':aJ}{es:List I}{k:Nat}{kx kt:IntKind}{bq:Int}{z:I}{d:Nat}(ho:o.op=.call { callee:=.builtin .append,args := #[s,x],argTypes := #[t,t'] })(hu:c.P.underlying t=some (.slice e))(hs':ba c.P t s=some s')(hx':ba c.P t' x=some x')(ht':c.P.underlying t'=some (.int kt))(hvx:aj A x'=.int kx bq)(hk:bq.toNat=k)(hk0:0<k)(hpos:0<c.P.cellsOf e)
  (hz:gi c.P e=some z) (hzs:z.size=c.P.cellsOf e) (hse:du A (c.P.cellsOf e) (aj A s')=some es) (hby:(es.length+k)*c.P.bytesOf e≤140737488355328)
  (hd:o.dst=some d) (hdn:d<c.n) (hf:A.o d=none) {a:Act} {w:World} {D:aO} {E:aU} (hsim:aT c A a w D E) (hfull:∀ ad l cp,a.eval s=.slice ad l cp→cp<l+k) (hml:es.length+k≤maxLen) :
  ∃ v w' m,(execOp a.eval o).run c.P w=.ok (.value v) w'∧es.length+k+m≤maxLen ∧
   bP c ((A.aM d (.box (.agg (es++(List.replicate k z++List.replicate m z))))).aR o.dst (.view d [] (c.P.cellsOf e) 0 (es.length+k))) (a.put o.dst v) w':=by
 obtain ⟨i,zv,hi,hzv,hzr⟩:=lY hz;have hci:c.P.cellsOf e=i.size:=by simp[Program.cellsOf,hi]
 have hbi:c.P.bytesOf e=i.bytes:=by simp[Program.bytesOf,hi]
 obtain ⟨ad1,cp1,olds,s1,s2,s3,s4,s5,s6⟩:=qm hsim (bz hsim hs') hse;have v2:=bz hsim hx';rw[hvx] at v2;have t1:a.eval x=.int kx ((k:Nat):Int):=by rw[(ef v2).1];congr 1;omega
 have t4:aK w D E (List.replicate k z) (List.replicate k zv.cells.toList).flatten:=tq (hzr w D E) k;have t5:∀ y∈List.replicate k z,y.size=c.P.cellsOf e:=fun y hy=>by rw[List.eq_of_mem_replicate hy];exact hzs
 have hlt:=hfull _ _ _ s1;obtain ⟨m,hm⟩:∃ m,m=grownCap w (es.length+k) cp1 e-(es.length+k):=⟨_,rfl⟩
 have hge:=grownCap_ge w (es.length+k) cp1 e;have hle:=grownCap_le_maxLen w (es.length+k) cp1 e hml;obtain ⟨cells,hcells⟩:∃ cells:Array Value,cells=olds.toArray++Builtin.zeroCells zv.cells k++Builtin.zeroCells zv.cells m:=⟨_,rfl⟩
 have hrun:(Builtin.append_ #[t,t'] o.type #[a.eval s,a.eval x]).run c.P w=.ok (.slice (some ⟨w.heap.size,0,none⟩) (es.length+k) (grownCap w (es.length+k) cp1 e)) (w.drew.alloc (.cells cells e)):=by
  have h3:(es.length+k)*i.bytes≤140737488355328:=by rw[←hbi];exact hby
  have g1:=s6 c.P w.drew (fun _ _ h=>h);rw[s1,hci] at g1;have hfit:=growslice_fits hlt h3;have hkb:k*i.bytes≤(es.length+k)*i.bytes:=Nat.mul_le_mul_right _ (by omega);rw[s1,t1,hcells,hm];exact Lib.run_append_grow_zeros w t t' o.type e i zv kx kt hu ht' hi hzv ad1 es.length cp1 olds g1 k hk0 (by rw[←hci];exact hpos) hlt (by simp only[maxLen] at hml;omega) (by omega) (by omega)
 have hcl:cells.toList=olds++((List.replicate k zv.cells.toList).flatten++(List.replicate m zv.cells.toList).flatten):=by
  rw[hcells];simp[w7]
 have hrc:ai w D E (.agg (es++(List.replicate k z++List.replicate m z))) cells.toList:=by
  rw[hcl];simp only[ai];exact kv _ _ _ _ s4 (kv _ _ _ _ t4 (tq (hzr w D E) m))
 have hsim':aT c A a w.drew D E:=hsim.grow ⟨rfl,rfl,rfl,zy1 _,fun _ _=>rfl⟩ (fun _ _ h=>h) (fun _ _ h _=>h) (fun b o h=>hsim.dy b o h);have hrc':ai w.drew D E (.agg (es++(List.replicate k z++List.replicate m z))) cells.toList:=ai.later (w:=w) (w':=w.drew) (D:=D) (E:=E) ⟨fun _ _ h=>h,fun _ _ _ _ h=>h,fun _ _ _ h=>h,fun _ aL l h=>⟨aL,l,h,zy1 _,fun _=>rfl⟩,fun _ _ h=>h,fun _ _ h=>h,fun _ _ _ _ h=>h⟩ _ _ hrc;have h1:=hsim'.tc (T:=e) (.inl hdn) hf hrc';have hall:∀ y∈es++(List.replicate k z++List.replicate m z),y.size=c.P.cellsOf e:=by
  intro y hy;rcases zy6.1 hy with hy | hy
  ·exact s5 y hy
  ·rcases zy6.1 hy with hy | hy
   ·exact t5 y hy
   ·rw[List.eq_of_mem_replicate hy];exact hzs
 have hlen:(es++(List.replicate k z++List.replicate m z)).length=es.length+k+m:=by simp[Nat.add_assoc]
 have h2:=h1.put (d:=d) (x:=.view d [] (c.P.cellsOf e) 0 (es.length+k)) (v:=.slice (some ⟨w.heap.size,0,none⟩) (es.length+k) (grownCap w (es.length+k) cp1 e)) hdn ⟨_,by simp[bm,I.isAgg];rfl,by
  simp only[ai,if_true];refine ⟨w.heap.size,(I.agg (es++(List.replicate k z++List.replicate m z))).aN,0,I.cB (es++(List.replicate k z++List.replicate m z)),rfl,by cases (I.agg (es++(List.replicate k z++List.replicate m z))).aN <;>simp[cg.off],by simp only[I.aN,cg.part],?_,?_,?_,?_⟩
  ·rw[I.c7,zz3,hlen,hm];simp;omega
  ·rw[I.c7,zz3,hlen];omega
  ·rw[I.c7,zz3,hlen];omega
  ·rw[I.c7];intro s hs;obtain ⟨f,hf,rfl⟩:=zx4.1 hs;rw[I.jN];exact hall f hf⟩
 refine ⟨.slice (some ⟨w.heap.size,0,none⟩) (es.length+k) (grownCap w (es.length+k) cp1 e),w.drew.alloc (.cells cells e),m,?_,by omega,?_⟩
 ·unfold execOp;simp only[ho,resolve,invoke,builtin,Sem.run_bind,Sem.run_pure,Result.andThen_ok,List.map_toArray,zz9,zy9,hrun]
 ·rw[hd];exact ⟨D,_,h2⟩
theorem RJ{t e:TypeId}{s x:Operand}{s' x':aJ}{ys:List I}{n:Nat}{p:List Nat}{lo k:Nat}{b:I}{fs:List I}(ho:o.op=.call { callee:=.builtin .append,args := #[s,x],argTypes := #[t,t] })(hu:c.P.underlying t=some (.slice e))(hi:(c.P.info? e).isSome=true)
  (hs':ba c.P t s=some s') (hx':ba c.P t x=some x') (ae:aj A s'=.view n p (c.P.cellsOf e) lo k) (hn:A.o n=some (.box b)) (hat:b.at p=some (.agg fs)) (hsx:du A (c.P.cellsOf e) (aj A x')=some ys) (hroom:lo+k+ys.length≤fs.length)
  (hsh:I.cB ys=I.cB ((fs.drop (lo+k)).take ys.length)) (hdn:∀ k,o.dst=some k→k<c.n) :
  iq c A o ((A.aM n (.box (jd b p (lo+k) fs ys))).aR o.dst (.view n p (c.P.cellsOf e) lo (k+ys.length))):=by
 intro a w D E hsim;obtain ⟨i,hi⟩:=zx3.1 hi;have hci:c.P.cellsOf e=i.size:=by simp[Program.cellsOf,hi]
 have h0:=bz hsim hs';rw[ae] at h0;have hxx:ct A (.ptr n p)=some (.agg fs):=by simp only[ct,hn,hat]
 obtain ⟨yy,bk,cs,T,off,c1,c2,c3,k1,k2,k3,k4,k5,k6,k7,k8,k9,k10,k11,k12,hval⟩:=hsim.view h0 hxx;rw[hn] at k1;simp only[v6,al.box.injEq] at k1;subst k1;obtain ⟨ad2,cp2,news,t1,t2,t3,t4,t5,t6⟩:=qm hsim (bz hsim hx') hsx;obtain ⟨w',h1,h2⟩:=hsim.jd (j:=lo+k) (ys:=ys) hn k2 k3 k4 k5 k6 k7 k8 k9 k10 t4 hroom hsh c.P;have g2:=t6 c.P w (fun _ _ h=>h);rw[t1,hci] at g2;have hr:k+ys.length≤fs.length-lo:=by omega
 refine ⟨w',.inl ⟨.slice (some ⟨bk,off+lo*c.P.cellsOf e,none⟩) (k+ys.length) (fs.length-lo),?_,D,E,h2.aR hdn ?_⟩⟩
 ·have e1:off+lo*i.size+k*i.size=off+(lo+k)*c.P.cellsOf e:=by rw[hci,Nat.add_mul];omega
  unfold execOp;simp only[ho,resolve,invoke,builtin,Sem.run_bind,Sem.run_pure,Result.andThen_ok,List.map_toArray,zz9,zy9,hval,t1];simp[Builtin.append_,run_underlying hu,sizeOf,typeInfo,hi,Builtin.lenOf,hr,g2,Addr.add_lit,hci,e1];rw[hci] at h1;simp[h1]
 ·refine ⟨_,by simp[bm,I.isAgg];rfl,?_⟩;simp only[ai];refine ⟨bk,b.aN,off,I.cB fs,k2,k5,nN p b _ k4,?_,?_,?_,?_⟩
  ·rw[I.c7,zz3]
  ·rw[I.c7,zz3];exact k12
  ·rw[I.c7,zz3];omega
  ·rw[I.c7];intro s hs;obtain ⟨f,hf,rfl⟩:=zx4.1 hs;rw[I.jN];exact k10 f hf
theorem RL{t e:TypeId}{s x:Operand}{s' x':aJ}{es:List I}(ho:o.op=.call { callee:=.builtin .append,args := #[s,x],argTypes := #[t,t] })(hu:c.P.underlying t=some (.slice e))(hi:(c.P.info? e).isSome=true)(hs':ba c.P t s=some s')(hx':ba c.P t x=some x')
  (hse:du A (c.P.cellsOf e) (aj A s')=some es) (hsx:du A (c.P.cellsOf e) (aj A x')=some []):c8 c A o (aj A s') :=
 .same fun a w D E hsim=>by
  obtain ⟨i,hi⟩:=zx3.1 hi;have hci:c.P.cellsOf e=i.size:=by simp[Program.cellsOf,hi]
  obtain ⟨ad1,cp1,olds,s1,s2,s3,s4,s5,s6⟩:=qm hsim (bz hsim hs') hse;obtain ⟨ad2,cp2,news,t1,t2,t3,t4,t5,t6⟩:=qm hsim (bz hsim hx') hsx;have g2:=t6 c.P w (fun _ _ h=>h);rw[t1,hci] at g2;simp only[aK] at t4;subst t4;refine ⟨a.eval s,?_,bz hsim hs'⟩;simp only[zv1] at g2 t1;unfold execOp;simp only[ho,resolve,invoke,builtin,Sem.run_bind,Sem.run_pure,Result.andThen_ok,List.map_toArray,zz9,zy9,s1,t1];cases ad1 <;>simp[Builtin.append_,run_underlying hu,sizeOf,typeInfo,hi,Builtin.lenOf,s2,g2,storeCells]
end
theorem D8{w:World}{D:aO}{E:aU} : ∀ (l:List cK) (xs ys:List I) (cs ds:List Value),l.all yW=true→iS l xs ys=some true→aK w D E xs cs→aK w D E ys ds→xs=ys∧cs=ds∧∀ v∈cs,∃ k n,v=.int k n
 | [],xs,ys,cs,ds,_,h,hx,hy=>by
  simp only[iS] at h;split at h
  ·simp only[aK] at hx hy;subst hx hy;exact ⟨rfl,rfl,fun v ae=>by simp at ae⟩
  ·cases h
 |t::ts,xs,ys,cs,ds,ha,h,hx,hy=>by
  simp only[List.all_cons,zz0] at ha;simp only[iS] at h;split at h
  case h_2=>cases h
  rename_i f fs g gs;unfold jT at h;split at h
  case h_2=>cases h
  rename_i a b h1 h2;simp only[v6,zz0] at h;obtain ⟨rfl,rfl⟩:=h;simp only[aK] at hx hy;obtain ⟨c1,c2,rfl,p1,p2⟩:=hx;obtain ⟨d1,d2,rfl,q1,q2⟩:=hy;obtain ⟨rfl,rfl,k3⟩:=D8 ts fs gs c2 d2 ha.2 h2 p2 q2;cases t with
  |i k =>
   simp only[cA] at h1;split at h1
   case h_2=>cases h1
   rename_i k1 a k2 b;split at h1
   case isFalse=>cases h1
   rename_i hk;simp only[v6,beq_iff_eq] at h1;subst h1;obtain ⟨rfl,rfl⟩:=hk;simp only[ai] at p1 q1;obtain ⟨rfl,_⟩:=p1;obtain ⟨rfl,_⟩:=q1;refine ⟨rfl,rfl,fun v ae =>?_⟩;rcases zy6.1 ae with ae | ae
   ·simp at ae;exact ⟨_,_,ae⟩
   ·exact k3 v ae
  |b | s | aS _ | sc _ _=>simp[yW] at ha
theorem Jf:∀ (cs:List Value) (n:Nat),(∀ v∈cs,∃ k m,v=.int k m)→((cs.zip cs).all fun (x,y)=>Instr.sameBits n x y)=true
 | [],_,_=>rfl
 |v::cs,n,h=>by
  obtain ⟨k,m,rfl⟩:=h v (by simp);simp only[List.zip_cons_cons,List.all_cons,zz0];exact ⟨by cases n <;>simp[Instr.sameBits],Jf cs n fun v ae=>h v (by simp[ae])⟩
theorem adD{P:Program}{t:TypeId}{ty:cK}{w:World}{D:aO}{E:aU}{x y:I}{u v:Value}(hk:kR P t=some ty)(h:cA ty x y=some true)(hx:aV w D E x u)(hy:aV w D E y v):x=y∧u=v∧Instr.sameBits 10000 u v=true:=by
 unfold kR at hk;split at hk
 ·rename_i k hu;simp only[v6] at hk;subst hk;simp only[cA] at h;split at h
  case h_2=>cases h
  split at h
  case isFalse=>cases h
  rename_i hk;simp only[v6,beq_iff_eq] at h;subst h;obtain ⟨rfl,rfl⟩:=hk;rw[(ef hx).1,(ef hy).1];exact ⟨rfl,rfl,by simp[Instr.sameBits]⟩
 ·rename_i fs hu;split at hk
  case h_2=>cases hk
  rename_i l hl;split at hk
  case isFalse=>cases hk
  rename_i hc;simp only[v6] at hk;subst hk;simp only[cA] at h;split at h
  case h_2=>cases h
  rename_i xs ys;obtain ⟨cs,rfl,hc1⟩:=j7 hx;obtain ⟨ds,rfl,hd1⟩:=j7 hy;obtain ⟨rfl,rfl,h3⟩:=D8 l xs ys cs ds hc.1 h hc1 hd1;refine ⟨rfl,rfl,?_⟩;simp only[Instr.sameBits,beq_self_eq_true,zu6];exact Jf cs _ h3
 ·cases hk
section
variable {P:Program} {w:World} {D:aO} {E:aU}
theorem xM{t:TypeId}{ty:cK}{em:Bool}{x y:I}{v:Value}{r:Bool}(hk:kR P t=some ty)(hx:aV w D E x v)(h:cA ty x y=some r)(n:Nat):(Instr.checkKey em (n+2) t v).run P w=.ok () w:=by
 unfold kR at hk;split at hk
 ·rename_i k hu;simp only[v6] at hk;subst hk;simp only[cA] at h;split at h
  case h_2=>cases h
  rename_i k1 a k2 b;split at h
  case isFalse=>cases h
  rename_i hq;rw[(ef hx).1,hq.1];exact MapKept.run_checkKey hu (by simp[MapKept.IsKey]) em (n+1)
 ·rename_i fs hu;split at hk
  case h_2=>cases hk
  rename_i l hl;split at hk
  case isFalse=>cases hk
  rename_i hc;simp only[v6] at hk;subst hk;simp only[cA] at h;split at h
  case h_2=>cases h
  rename_i xs ys;obtain ⟨cs,rfl,hc1⟩:=j7 hx;obtain ⟨d,hd⟩:∃ d,d=11:=⟨_,rfl⟩
  rw[show (12:Nat)=d+1 from by omega] at hl;simp only[hE,hu] at hl;split at hl
  case isFalse=>cases hl
  rename_i hc2;simp only[t8,cK.aS.injEq] at hl;obtain ⟨l',hl,rfl⟩:=hl;rw[show n+2=(n+1)+1 from rfl,Instr.checkKey];simp only[Sem.run_bind,run_underlying hu,Result.andThen_ok];rw[←Array.forIn_toList];have key:∀ (ao:List Field) (l:List cK) (xs ys:List I) (r:Bool) (c1 c2:List Value),
    (ao.mapM fun f=>match hE P d f.type with
     |some ty=>if ty.size=P.cellsOf f.type then some ty else none
     | none => none) = some l → (∀ f ∈ ao, f.name ≠ "_" ∧ sP (P.underlying f.type) = true) → re P c1.length ao = true → aK w D E xs c2 → iS l xs ys = some r → c1 ++ c2 = cs →
    Sem.run P (forIn ao PUnit.unit (fun (f : Field) (_ : PUnit) => (if f.name ≠ "_" then (do
     let x ←part f.type cs.toArray f.offset
     Instr.checkKey em (n+1) f.type x
     pure (ForInStep.yield PUnit.unit)) else pure (ForInStep.yield PUnit.unit):Sem (ForInStep PUnit)))) w=.ok PUnit.unit w:=by
   intro ao
   induction ao with
   |nil=>intros;simp
   |cons f ao ih =>
    intro l xs ys r c1 c2 hm hn ho hx h htot;simp only[List.mapM_cons,Option.bind_eq_bind,Option.pure_def,zu1,v6] at hm;obtain ⟨ty,hty,tys,htys,rfl⟩:=hm;split at hty
    case h_2=>cases hty
    rename_i ty' hd';split at hty
    case isFalse=>cases hty
    rename_i hsz;simp only[v6] at hty;subst hty;simp only[iS] at h;split at h
    case h_2=>cases h
    rename_i x xs y ys;unfold jT at h;split at h
    case h_2=>cases h
    rename_i ra rb h1 h2;simp only[aK] at hx;obtain ⟨e1,e2,rfl,k1,k2⟩:=hx;obtain ⟨s,q1,q2,q3⟩:=xZ hd' hsz h1;obtain ⟨u,p1,p2⟩:=pP (P:=P) (w:=w) (c1:=c1) (c3:=e2) q1 q2 k1;simp only[re,zz0,beq_iff_eq] at ho;have hsx:=qA ty' x y ra h1;have hle:e1.length=P.cellsOf f.type:=by rw[ai.length _ _ k1,hsx.1,hsz]
    have ih':=ih tys xs ys rb (c1++e1) e2 htys (fun g hg=>hn g (by simp[hg])) (by simp only[zz1,hle];exact ho.2) k2 h2 (by rw[←htot];simp);rw[zz7,htot,←ho.1] at p1;obtain ⟨hnm,hint⟩:=hn f (by simp);have hck:(Instr.checkKey em (n+1) f.type u).run P w=.ok () w:=by
     cases hu:P.underlying f.type with
     |none=>simp[hu,sP] at hint
     |some dd =>
      cases dd <;>simp[hu,sP] at hint
      rename_i q;have hti:ty'=.i q:=by
       rw[show d=10+1 from by omega] at hd';unfold hE at hd';simp only[hu,v6] at hd';exact hd'.symm
      subst hti;simp only[cA] at h1;split at h1
      case h_2=>cases h1
      split at h1
      case isFalse=>cases h1
      rename_i hq;rw[(ef p2).1,hq.1];exact MapKept.run_checkKey hu (by simp[MapKept.IsKey]) em n
    simp only[List.forIn_cons,Sem.run_bind,hnm,ne_eq,not_false_eq_true,if_true,p1,Result.andThen_ok,hck,Sem.run_pure];exact ih'
  rw[key fs.toList l' xs ys r [] cs hl (fun f hf=>⟨by simpa using zx1.1 hc2.2.1 f hf,Array.all_eq_true_iff_forall_mem.1 hc.2 f (Array.mem_toList_iff.1 hf)⟩) hc2.2.2 hc1 h rfl];simp
 ·cases hk
theorem Ag{x:I}{xs:List I}{vs:List Value}(h:aD w D E (x::xs) vs):∃ v rest,vs=v::rest∧aV w D E x v∧aD w D E xs rest:=by
 simp only[aD] at h;obtain ⟨v,rest,cs,rfl,h1,h2,h3⟩:=h;exact ⟨v,rest,rfl,gD h1 h2,h3⟩
def qg(r:Option Nat)(es:List MapEntry)(i:Nat)(q:Option (Nat×Value)):Prop :=
 (r=none∧q=none)∨∃ j e,r=some (i+j)∧es[j]?=some e∧q=some (i+j,e.val)
theorem qg.step{r:Option Nat}{es:List MapEntry}{e:MapEntry}{i:Nat}{q:Option (Nat×Value)}(h:qg r es (i+1) q):qg r (e::es) i q:=by
 rcases h with h | ⟨j,e',h1,h2,h3⟩
 ·exact .inl h
 ·exact .inr ⟨j+1,e',by rw[h1];congr 1;omega,by simpa using h2,by rw[h3];congr 2;omega⟩
theorem Es{q:IntKind}{k:I}{v:Value}(ae:aV w D E k v):∀ (ks:List I) (es:List MapEntry) (i:Nat) (r:Option Nat),aD w D E ks (es.map (·.key))→jC (.i q) k ks i=some r →
  ∃ x,Instr.findNow (.int q) v es i=some x∧qg r es i x
 | [],es,i,r,hk,h=>by
  simp only[jC,v6] at h;simp only[aD,List.map_eq_nil_iff] at hk;subst h hk;exact ⟨none,rfl,.inl ⟨rfl,rfl⟩⟩
 |x::ks,es,i,r,hk,h=>by
  obtain ⟨u,rest,e1,hu,hr⟩:=Ag hk;cases es with
  |nil=>cases e1
  |cons e es =>
   simp only[zz9,zx6] at e1;obtain ⟨rfl,rfl⟩:=e1;simp only[jC] at h;have same:∀ b,cA (.i q) k x=some b→Instr.sameNow (.int q) v e.key=some b:=fun b hb=>by
    simp only[cA] at hb;split at hb
    case h_2=>cases hb
    split at hb
    case isFalse=>cases hb
    rename_i hq;simp only[v6] at hb;subst hb;rw[(ef ae).1,(ef hu).1];simp[Instr.sameNow,hq.1,hq.2]
   split at h
   ·rename_i hb;simp only[v6] at h;subst h;exact ⟨some (i,e.val),by simp[Instr.findNow,same _ hb],.inr ⟨0,e,rfl,rfl,rfl⟩⟩
   ·rename_i hb;obtain ⟨y,h1,h2⟩:=Es ae ks es (i+1) r hr h;exact ⟨y,by simp[Instr.findNow,same _ hb,h1],h2.step⟩
   ·cases h
theorem Ep{t:TypeId}{ty:cK}(hty:hE P 12 t=some ty){k:I}{v:Value}(ae:aV w D E k v):∀ (ks:List I) (es:List MapEntry) (i:Nat) (r:Option Nat),aD w D E ks (es.map (·.key))→jC ty k ks i=some r →
  ∃ x,(Instr.findAsking t v es i).run P w=.ok x w∧qg r es i x
 | [],es,i,r,hk,h=>by
  simp only[jC,v6] at h;simp only[aD,List.map_eq_nil_iff] at hk;subst h hk;exact ⟨none,rfl,.inl ⟨rfl,rfl⟩⟩
 |x::ks,es,i,r,hk,h=>by
  obtain ⟨u,rest,e1,hu,hr⟩:=Ag hk;cases es with
  |nil=>cases e1
  |cons e es =>
   simp only[zz9,zx6] at e1;obtain ⟨rfl,rfl⟩:=e1;simp only[jC] at h;have same:∀ b,cA ty k x=some b→(Op.equal t v e.key).run P w=.ok b w:=fun b hb=>uR 12 t ty hty k x v e.key b ae hu hb _ (by simp[Op.maxDepth]);split at h
   ·rename_i hb;simp only[v6] at h;subst h;exact ⟨some (i,e.val),by simp[Instr.findAsking,same _ hb],.inr ⟨0,e,rfl,rfl,rfl⟩⟩
   ·rename_i hb;obtain ⟨y,h1,h2⟩:=Ep hty ae ks es (i+1) r hr h;exact ⟨y,by simp[Instr.findAsking,same _ hb,h1],h2.step⟩
   ·cases h
theorem qD{t:TypeId}{ty:cK}(hk:kR P t=some ty){k:I}{v:Value}(ae:aV w D E k v){ks:List I}{es:List MapEntry}{r:Option Nat}(hks:aD w D E ks (es.map (·.key)))(h:jC ty k ks 0=some r) :
  ∃ x,(Instr.findKey t v es).run P w=.ok x w∧qg r es 0 x:=by
 have hk0:=hk;unfold kR at hk;split at hk
 ·rename_i q hu;simp only[v6] at hk;subst hk;obtain ⟨x,h1,h2⟩:=Es ae ks es 0 r hks h;exact ⟨x,by simp[Instr.findKey,run_underlying hu,h1],h2⟩
 ·rename_i fs hu;split at hk
  case h_2=>cases hk
  rename_i l hl;split at hk
  case isFalse=>cases hk
  simp only[v6] at hk;subst hk;cases es with
  |nil =>
   cases ks with
   |nil =>
    simp only[jC,v6] at h;subst h;exact ⟨none,by simp[Instr.findKey,run_underlying hu,Instr.findNow],.inl ⟨rfl,rfl⟩⟩
   |cons x xs=>simp[aD] at hks
  |cons e es =>
   obtain ⟨x,h1,h2⟩:=Ep hl ae ks (e::es) 0 r hks h;exact ⟨x,by simp[Instr.findKey,run_underlying hu,Instr.findNow,Instr.sameNow,h1],h2⟩
 ·cases hk
theorem nJ:∀ {xs:List I} {vs:List Value} {j:Nat} {v:Value},aD w D E xs vs→vs[j]?=some v→∃ x,xs[j]?=some x∧aV w D E x v
 | [],vs,j,v,h,hj=>by simp only[aD] at h;subst h;simp at hj
 |x::xs,vs,j,v,h,hj=>by
  obtain ⟨u,rest,rfl,h1,h2⟩:=Ag h;cases j with
  |zero=>simp only[List.getElem?_cons_zero,v6] at hj;subst hj;exact ⟨x,rfl,h1⟩
  |succ j=>exact nJ (xs:=xs) h2 (by simpa using hj)
end
section
variable {c:cP} {A:af} {o:Oper} {x:I}
theorem aee{a:Act}{w:World}{D:aO}{E:aU}(hs:aT c A a w D E){m:I}{v:Value}{ks vs:List I}(ae:aV w D E m v)(hm:ib A m=some (ks,vs)) :
  (v=.map none∧ks=[]∧vs=[])∨∃ b es clock,v=.map (some b)∧w.heap[b]?=some (.map es clock)∧aD w D E ks (es.toList.map (·.key))∧aD w D E vs (es.toList.map (·.val)):=by
 unfold ib at hm;split at hm
 ·simp only[v6,Prod.mk.injEq] at hm;obtain ⟨rfl,rfl⟩:=hm;obtain ⟨cs,q1,q2⟩:=ae;simp only[ai] at q2;obtain ⟨b,es,ck,q3,q4,q5,q6⟩:=q2;exact .inr ⟨b,es,ck,by simpa[bm,I.isAgg,q3] using q1.symm,q4.1,q5,q6⟩
 ·rename_i n;split at hm
  case h_2=>cases hm
  rename_i ks' vs' hn;simp only[v6,Prod.mk.injEq] at hm;obtain ⟨rfl,rfl⟩:=hm;obtain ⟨cs,q1,q2⟩:=ae;simp only[ai] at q2;obtain ⟨b,q3,q4⟩:=q2;obtain ⟨b',es,ck,k1,k2,k3,k4,k5,k6,k7⟩:=hs.map hn;rw[k1] at q3;cases q3;exact .inr ⟨_,es,ck,by simpa[bm,I.isAgg,q4] using q1.symm,k3,k5,k6⟩
 ·simp only[v6,Prod.mk.injEq] at hm;obtain ⟨rfl,rfl⟩:=hm;obtain ⟨cs,q1,q2⟩:=ae;simp only[ai] at q2;exact .inl ⟨by simpa[bm,I.isAgg,q2.1] using q1.symm,rfl,rfl⟩
 ·cases hm
theorem p9{w:World}{D:aO}{E:aU}{y:I}{v:Value}(ae:y.cm=true)(h:aV w D E y v):∃ cs,bm y v cs∧ai w D E y cs:=by
 cases y <;>simp[I.cm] at ae <;>exact h
theorem rD{w:World}{D:aO}{E:aU} : ∀ {xs:List I} {vs:List Value} {j:Nat} {x:I},aD w D E xs vs→xs[j]?=some x→x.cm=true
 | [],_,j,x,_,h=>by simp at h
 |y::ys,vs,j,x,hr,h=>by
  simp only[aD] at hr;obtain ⟨v,rest,cs,rfl,h1,h2,h3⟩:=hr;cases j with
  |zero =>
   simp only[List.getElem?_cons_zero,v6] at h;subst h;cases y <;>simp only[ai] at h2 <;>rfl
  |succ j=>exact rD (xs:=ys) h3 (by simpa using h)
theorem ahW{x:I}{cs r:List Value}(h:nV x cs=some r):x.cm=true:=by
 cases x <;>first | rfl | (cases cs <;>simp[nV] at h)
theorem ahY{P:Program}{t:TypeId}{z:I}(hz:gi P t=some z)(hp:w6 P t z=true):∃ zv,(∀ w,(zeroValue t).run P w=.ok zv w)∧z.cm=true∧∀ w D E,aV w D E z zv:=by
 have hz0:=hz;obtain ⟨i,zv,hi,hzz,hzr⟩:=lY hz;have ae:z.cm=true:=by
  unfold gi at hz;split at hz
  ·split at hz
   ·rename_i hk;simp only[v6] at hz;subst hz;exact ahW hk
   ·cases hz
  ·cases hz
 refine ⟨zv,fun w=>by simp[zeroValue,typeInfo,hi,hzz],ae,fun w D E =>?_⟩;have h1:=hzr w D E;simp only[w6,hi,zu4,hzz] at hp;refine gD (cs:=zv.cells.toList) ?_ h1;cases zv <;>simp only[bm] at hp ⊢ <;>first
  |(rw[if_pos hp];simp[Value.cells])
  |(have hp':z.isAgg=false:=by simpa using hp
    rw[hp'];simp[Value.cells])
theorem acM{t kt et:TypeId}{m k:Operand}{m' k':aJ}{ok:Bool}{ty:cK}{z v:I}{ks vs:List I}{there:Bool}(ho:o.op=.lookup t m k ok)(hu:c.P.underlying t=some (.map kt et))(hk:kR c.P kt=some ty)(hz:gi c.P et=some z)(hzp:w6 c.P et z=true)
  (hm:ba c.P 0 m=some m') (hk':ba c.P 0 k=some k') (hmm:ib A (aj A m')=some (ks,vs)) (hl:sZ ty z (aj A k') ks vs=some (v,there)):c8 c A o (if ok then .tuple [v,.bool there] else v) :=
 .same fun a w D E hs=>by
  have h1:=bz hs hm;have h2:=bz hs hk';obtain ⟨zv,hzrun,hzv,hzrv⟩:=ahY hz hzp;unfold sZ at hl;split at hl
  case isFalse=>cases hl
  rename_i hkk;obtain ⟨rk,hrk⟩:=zx3.1 hkk;have hchk:=fun em=>xM (P:=c.P) (w:=w) (em:=em) hk h2 hrk 9998;have bh:∀ u there,v.cm=true→aV w D E v u→aV w D E (if ok then .tuple [v,.bool there] else v) (if ok then Value.tuple #[u,.bool there] else u):=fun u there hval hu'=>by
   cases ok
   ·exact hu'
   ·obtain ⟨cs,q1,q2⟩:=p9 hval hu';simp only[if_true,aV,aD];exact ⟨[u,.bool there],rfl,u,[.bool there],cs,rfl,q1,q2,.bool there,[],[.bool there],rfl,by simp[bm,I.isAgg],by simp[ai],rfl⟩
  have cd:∀ (es:Array MapEntry),aD w D E ks (es.toList.map (·.key))→aD w D E vs (es.toList.map (·.val))→∃ u,v.cm=true∧aV w D E v u ∧
    ((∃ i,(Instr.findKey kt (a.eval k) es.toList).run c.P w=.ok (some (i,u)) w∧there=true)∨((Instr.findKey kt (a.eval k) es.toList).run c.P w=.ok none w∧u=zv∧there=false)):=fun es hks hvs=>by
   split at hl
   ·rename_i i hfi;simp only[t8,Prod.mk.injEq] at hl;obtain ⟨v',hv',rfl,rfl⟩:=hl;obtain ⟨q,q1,q2⟩:=qD hk h2 hks hfi;rcases q2 with ⟨e,_⟩ | ⟨j,e,e1,e2,rfl⟩
    ·cases e
    ·simp only[zz4,v6] at e1;subst e1;obtain ⟨x,k1,k2⟩:=nJ (j:=i) (v:=e.val) hvs (by simp only[zx8,e2,zy5]);rw[hv',v6] at k1;subst k1;exact ⟨e.val,rD hvs hv',k2,.inl ⟨_,q1,rfl⟩⟩
   ·rename_i hfi;simp only[v6,Prod.mk.injEq] at hl;obtain ⟨rfl,rfl⟩:=hl;obtain ⟨q,q1,q2⟩:=qD hk h2 hks hfi;rcases q2 with ⟨_,rfl⟩ | ⟨j,e,e1,_⟩
    ·exact ⟨zv,hzv,hzrv w D E,.inr ⟨q1,rfl,rfl⟩⟩
    ·cases e1
   ·cases hl
  rcases aee hs h1 hmm with ⟨e1,rfl,rfl⟩ | ⟨b,es,ck,e1,e2,e3,e4⟩
  ·obtain ⟨u,hval,hu',hrun⟩:=cd #[] (by simp[aD]) (by simp[aD]);refine ⟨_,?_,bh u there hval hu'⟩;rcases hrun with ⟨i,q1,rfl⟩ | ⟨q1,rfl,rfl⟩ <;>
    simp only[execOp,ho,Instr.lookup,e1,Sem.run_bind,run_underlying hu,Result.andThen_ok,Sem.run_pure,hchk,q1,hzrun]
  ·obtain ⟨u,hval,hu',hrun⟩:=cd es e3 e4;refine ⟨_,?_,bh u there hval hu'⟩;rcases hrun with ⟨i,q1,rfl⟩ | ⟨q1,rfl,rfl⟩ <;>
    simp only[execOp,ho,Instr.lookup,e1,Sem.run_bind,run_underlying hu,Result.andThen_ok,MapKept.run_getObj_map e2,Sem.run_pure,hchk,q1,hzrun]
theorem E9{y:Operand}{y':aJ}(ho:o.op=.nilCheck y)(hy:ba c.P 0 y=some y')(h:(∃ n p,aj A y'=.ptr n p)∨∃ z,aj A y'=.ref z):c8 c A o (aj A y') :=
 .same fun a w D E hs=>by
  have h1:=bz hs hy;rcases h with ⟨n,p,h⟩ | ⟨z,h⟩
  ·rw[h] at h1 ⊢;obtain ⟨b,aN,off,_,_,e⟩:=mK h1;exact ⟨a.eval y,by simp only[execOp,ho,e,Sem.run_pure],h1⟩
  ·rw[h] at h1 ⊢;obtain ⟨b,off,cs,e,_⟩:=rB h1;exact ⟨a.eval y,by simp only[execOp,ho,e,Sem.run_pure],h1⟩
theorem Fx{w:World}{D:aO}{E:aU}{x:I}{v:Value}{b:Bool}(h:jF x=some b)(ae:aV w D E x v):∃ ad,v=.pointer ad∧ad.isNone=b:=by
 cases x <;>simp only[jF,v6] at h <;>try (cases h;done)
 case nilp =>
  subst h;obtain ⟨cs,q1,q2⟩:=ae;simp only[ai] at q2;exact ⟨none,by simpa[bm,I.isAgg,q2] using q1.symm,rfl⟩
 case ptr n p =>
  subst h;obtain ⟨b,aN,off,_,_,e⟩:=mK ae;exact ⟨_,e,rfl⟩
 case ref z =>
  subst h;obtain ⟨b,off,cs,e,_⟩:=rB ae;exact ⟨_,e,rfl⟩
theorem acR{x y:Operand}{x' y':aJ}{tys:Array TypeId}{v:I}(ho:o.op=.call { callee:=.builtin .max,args := #[x,y],argTypes:=tys })(hx:ba c.P 0 x=some x')(hy:ba c.P 0 y=some y')(h:ta (aj A x') (aj A y')=some v):c8 c A o v :=
 .same fun a w D E hs=>by
  have h1:=bz hs hx;have h2:=bz hs hy;unfold ta at h;split at h
  case h_2=>cases h
  rename_i k n k2 m e1 e2;split at h
  case isFalse=>cases h
  rename_i hk;subst hk;simp only[v6] at h;subst h;rw[e1] at h1;rw[e2] at h2;obtain ⟨v1,r1⟩:=ef h1;obtain ⟨v2,ja⟩:=ef h2;refine ⟨.int k (if m>n then m else n),by simp[execOp,ho,resolve,invoke,builtin,Builtin.max_,Builtin.max2,v1,v2],jG ?_⟩;split
  ·exact ja
  ·exact r1
theorem acW{neg:Bool}{t yt e:TypeId}{y z:Operand}{y' z':aJ}{b1 b2:Bool}(ho:o.op=.binOp (if neg then .neq else .eql) t y z yt)(hu:c.P.underlying t=some (.pointer e))(hy:ba c.P 0 y=some y')(hz:ba c.P 0 z=some z')
  (h1:jF (aj A y')=some b1) (h2:jF (aj A z')=some b2) (h:b1=true∨b2=true):c8 c A o (.bool (if neg then !(b1&&b2) else (b1&&b2))) :=
 .same fun a w D E hs=>by
  obtain ⟨p,e1,k1⟩:=Fx h1 (bz hs hy);obtain ⟨q,e2,k2⟩:=Fx h2 (bz hs hz);have he:∀ d,(Op.equalIn (d+1) t (.pointer p) (.pointer q)).run c.P w=.ok (b1&&b2) w:=fun d=>by
   subst k1 k2;cases p <;>cases q <;>simp at h <;>simp[Op.equalIn,run_underlying hu]
  refine ⟨.bool (if neg then !(b1&&b2) else (b1&&b2)),?_,mz _⟩;cases neg <;>simp only[execOp,ho,e1,e2,if_true,zy0,if_false,Sem.run_bind,eqGuard] <;>simp[binOp,Op.equal,Op.maxDepth,he]
end
section
variable {c:cP} {A:af} {o:Oper} {x:I}
theorem RS{t:TypeId}{d:Nat}(ho:o.op=.makeMap t none)(hd:o.dst=some d)(hn:d<c.n)(hf:A.o d=none):iq c A o ((A.aM d (.cI [] [])).put d (.mref d)):=by
 intro a w D E hs;have h1:=hs.aew (.inl hn) hf;have h2:=h1.put (x:=.mref d) (v:=.map (some w.heap.size)) hn ⟨_,by simp[bm,I.isAgg];rfl,by
  simp only[ai,if_true];exact ⟨w.heap.size,rfl,rfl⟩⟩
 exact ⟨w.alloc (.map #[] 0),.inl ⟨.map (some w.heap.size),by simp[execOp,ho,Instr.makeMap],D,_,by rw[hd];exact h2⟩⟩
theorem RT{t e:TypeId}{l l':Operand}{z:I}{n d:Nat}(ho:o.op=.makeSlice t l l')(hr:w8 l l'=some n)(hu:c.P.underlying t=some (.slice e))(hz:gi c.P e=some z)(hby:n*c.P.bytesOf e≤281474976710656)
  (hd:o.dst=some d) (hn:d<c.n) (hf:A.o d=none):iq c A o ((A.aM d (.b6 e (c.P.cellsOf e) [])).put d (.own d 0)):=by
 obtain ⟨hm,k,k',rfl,rfl⟩:=ahX hr;intro a w D E hs;obtain ⟨i,zv,hi,hzz,_⟩:=lY hz;have hsz:c.P.cellsOf e=i.size:=by simp[Program.cellsOf,hi]
 have hcap:n≤maxLen:=by unfold maxLen;omega
 have hbytes:(i.bytes:Int)*(n:Int)≤281474976710656:=by
  have:c.P.bytesOf e=i.bytes:=by simp[Program.bytesOf,hi]
  rw[this] at hby;have h2:((i.bytes*n:Nat):Int)≤281474976710656:=by rw[Nat.mul_comm] at hby;omega
  rwa [Int.natCast_mul] at h2
 have hrun:=run_make (P:=c.P) w t e i zv hu hi hzz k k' 0 n (Int.le_refl _) (by omega) hbytes (by omega);simp only[zw8,Int.toNat_zero] at hrun;have h2:=hs.te (d:=d) (x:=.b6 e (c.P.cellsOf e) []) (o':=.cells (madeCells zv.cells (n*i.size)) e) (e:=.rw (some (w.heap.size,n)) 0) (.inl hn) hf rfl (fun _ hno =>
  ⟨some (w.heap.size,n),by simp,by simp,_,[],_,.inl hs.dX.size,heap_alloc_new w _,(zy3 _).symm,by simp[aK],by rw[size_madeCells,hsz],zv6 _,hcap,fun o ho=>absurd ho (hno o)⟩)
 have h3:=h2.put (x:=.own d 0) (v:=.slice (some ⟨w.heap.size,0,none⟩) 0 n) hn ⟨_,by simp[bm,I.isAgg];rfl,by
  simp only[ai,if_true];exact ⟨_,0,rfl,zy1 _,⟨_,_,_,rfl⟩,fun _=>rfl⟩⟩
 refine ⟨_,.inl ⟨_,?_,D,_,by rw[hd];exact h3⟩⟩;simp only[execOp,ho,Act.eval,Sem.run_bind,hrun,Result.andThen_ok,Sem.run_pure]
theorem Af{w:World}{D:aO}{E:aU} : ∀ {xs ys:List I} {us vs:List Value},aD w D E xs us→aD w D E ys vs→aD w D E (xs++ys) (us++vs)
 | [],ys,us,vs,h,k=>by simp only[aD] at h;subst h;simpa using k
 |x::xs,ys,us,vs,h,k=>by
  simp only[aD,zz8] at *;obtain ⟨v,rest,cs,rfl,h1,h2,h3⟩:=h;exact ⟨v,rest++vs,cs,rfl,h1,h2,Af h3 k⟩
theorem I5{w:World}{D:aO}{E:aU} : ∀ {xs:List I} {us:List Value} {i:Nat} {y:I} {v:Value} {cs:List Value},aD w D E xs us→bm y v cs→ai w D E y cs→aD w D E (xs.set i y) (us.set i v)
 | [],us,i,y,v,cs,h,_,_=>by simp only[aD] at h;subst h;simp[aD]
 |x::xs,us,i,y,v,cs,h,k1,k2=>by
  simp only[aD] at h;obtain ⟨u,rest,ds,rfl,h1,h2,h3⟩:=h;cases i with
  |zero=>simp only[List.set_cons_zero,aD];exact ⟨v,rest,cs,rfl,k1,k2,h3⟩
  |succ i=>simp only[List.set_cons_succ,aD];exact ⟨u,_,ds,rfl,h1,h2,I5 h3 k1 k2⟩
theorem I4{w:World}{D:aO}{E:aU}{y:I}{v:Value}{cs:List Value}(h1:bm y v cs)(h2:ai w D E y cs):aD w D E [y] [v]:=by
 simp only[aD];exact ⟨v,[],cs,rfl,h1,h2,rfl⟩
theorem Er{ty:cK}{k:I} : ∀ {ks:List I} {i j:Nat},jC ty k ks i=some (some j)→∃ x,ks[j-i]?=some x∧i≤j∧cA ty k x=some true
 | [],i,j,h=>by simp[jC] at h
 |x::xs,i,j,h=>by
  simp only[jC] at h;split at h
  ·rename_i hb;simp only[v6] at h;subst h;exact ⟨x,by simp,zy1 _,hb⟩
  ·obtain ⟨y,h1,h2,h3⟩:=Er h;refine ⟨y,?_,by omega,h3⟩;rw[show j-i=(j-(i+1))+1 from by omega];simpa using h1
  ·cases h
theorem DU{t kt et:TypeId}{m k v:Operand}{m' k' v':aJ}{ty:cK}{n:Nat}{ks vs ks' vs':List I}(ho:o.op=.mapUpdate t m k v∨o.op=.insert t m k v)(hu:c.P.underlying t=some (.map kt et))(hk:kR c.P kt=some ty)
  (hm:ba c.P 0 m=some m') (hk':ba c.P 0 k=some k') (hv':ba c.P et v=some v') (hmm:aj A m'=.mref n) (hn:A.o n=some (.cI ks vs)) (hl:s9 ty (aj A k') (aj A v') ks vs=some (ks',vs')) (hd:o.dst=none) :
  iq c A o (A.aM n (.cI ks' vs')):=by
 intro a w D E hs;have h1:=bz hs hm;have h2:=bz hs hk';have h3:=bz hs hv';rw[hmm] at h1;unfold s9 at hl;split at hl
 case isFalse=>cases hl
 rename_i hc;obtain ⟨hkk,hkv,hvv⟩:=hc;obtain ⟨rk,hrk⟩:=zx3.1 hkk;have hchk:=fun em=>xM (P:=c.P) (w:=w) (em:=em) hk h2 hrk 9998;obtain ⟨kcs,kp1,kp2⟩:=p9 hkv h2;obtain ⟨vcs,vp1,vp2⟩:=p9 hvv h3;obtain ⟨b,es,ck,k1,k2,k3,k4,k5,k6,k7⟩:=hs.map hn;have hmv:a.eval m=.map (some b):=by
  obtain ⟨cs,q1,q2⟩:=h1;simp only[ai] at q2;obtain ⟨b',q3,q4⟩:=q2;rw[k1] at q3;cases q3;simpa[bm,I.isAgg,q4] using q1.symm
 -- the new entries
 have step:∀ (es':Array MapEntry) (ck':Nat),(Instr.mapUpdate t (.map (some b)) (a.eval k) (a.eval v)).run c.P w=.ok () (w.putObj b (.map es' ck'))→pW es' ck'→aD w D E ks' (es'.toList.map (·.key))→aD w D E vs' (es'.toList.map (·.val)) →
   ∃ w',((∃ u,(execOp a.eval o).run c.P w=.ok (.value u) w'∧bP c (A.aM n (.cI ks' vs')) (a.put o.dst u) w')∨((execOp a.eval o).run c.P w=.ok .skip w'∧bP c (A.aM n (.cI ks' vs')) (a.put o.dst undef) w')):=fun es' ck' hrun hst hks hvs=>by
  refine ⟨w.putObj b (.map es' ck'),.inr ⟨?_,?_⟩⟩
  ·rcases ho with ho | ho <;>simp only[execOp,ho,hmv,Sem.run_bind,hrun,Result.andThen_ok,Sem.run_pure]
  ·rw[hd];have:=hs.Aq (o':=.map es' ck') (x:=.cI ks' vs') k1 rfl rfl k3 rfl (fun q=>by simp) k2 (fun hl' hh hno=>⟨b,es',ck',k1,k2,hh,hst,aD.later hl' _ _ hks,aD.later hl' _ _ hvs,hno⟩);exact ⟨D,E,this⟩
 split at hl
 ·rename_i i hfi;simp only[v6,Prod.mk.injEq] at hl;obtain ⟨rfl,rfl⟩:=hl;obtain ⟨q,q1,q2⟩:=qD hk h2 k5 hfi;rcases q2 with ⟨e,_⟩ | ⟨j,e,e1,e2,rfl⟩
  ·cases e
  simp only[zz4,v6] at e1;subst e1;obtain ⟨y,y1,_,y2⟩:=Er hfi;simp only[Nat.sub_zero] at y1;obtain ⟨y',y3,y4⟩:=nJ (j:=i) (v:=e.key) k5 (by simp only[zx8,e2,zy5]);rw[y1,v6] at y3;subst y3;obtain ⟨_,kk2,kk3⟩:=adD hk y2 h2 y4;have hes:es[i]?=some e:=by rw[←zw0];exact e2
  have hlen:i<es.size:=(zy8.1 hes).1;refine step (es.modify i fun e => { e with key:=a.eval k,val:=a.eval v }) ck ?_ ?_ ?_ ?_
  ·have hsb:Instr.sameBits 10000 (((es[i]?).map (·.key)).getD (a.eval k)) (a.eval k)=true:=by
    rw[hes];simp only[zy5,Option.getD_some];rw[←kk2];rw[←kk2] at kk3;exact kk3
   simp only[Instr.mapUpdate,Sem.run_bind,run_underlying hu,Result.andThen_ok,MapKept.run_getObj_map k3,hchk,q1,zz4,Instr.keyThatStays,hsb,if_true,Sem.run_pure,MapKept.run_setObj_map _ k3];rfl
  all_goals
   have em:(es.modify i fun e => { e with key:=a.eval k,val:=a.eval v }).toList=es.toList.set i { e with key:=a.eval k,val:=a.eval v } :=by
    rw[Array.toList_modify];apply List.ext_getElem?;intro j;rw[List.getElem?_modify,List.getElem?_set];by_cases hij:i=j
    ·subst hij;have hge:es[i]'hlen=e:=(zy8.1 hes).2;simp[hlen,hge]
    ·simp[hij]
  ·refine ⟨fun x hx =>?_,?_⟩
   ·rw[em] at hx;rcases List.mem_or_eq_of_mem_set hx with hx | rfl
    ·exact k4.1 x hx
    ·exact k4.1 e (List.mem_of_getElem? e2)
   ·rw[em];have:(es.toList.set i { e with key:=a.eval k,val:=a.eval v }).map (·.born)=es.toList.map (·.born):=by
     rw[List.map_set];apply List.ext_getElem?;intro j;rw[List.getElem?_set];split
     ·rename_i hij;subst hij;simp[e2];exact hlen
     ·rfl
    rw[this];exact k4.2
  ·rw[em,List.map_set];have:(es.toList.map (·.key)).set i (a.eval k)=es.toList.map (·.key):=by
    apply List.ext_getElem?;intro j;rw[List.getElem?_set];split
    ·rename_i hij;subst hij;simp[e2,kk2];exact hlen
    ·rfl
   simp only[this];exact k5
  ·rw[em,List.map_set];exact I5 k6 vp1 vp2
 ·rename_i hfi;simp only[v6,Prod.mk.injEq] at hl;obtain ⟨rfl,rfl⟩:=hl;obtain ⟨q,q1,q2⟩:=qD hk h2 k5 hfi;rcases q2 with ⟨_,rfl⟩ | ⟨j,e,e1,_⟩
  case inr=>cases e1
  refine step (es.push { key:=a.eval k,val:=a.eval v,born:=ck }) (ck+1) ?_ ⟨fun x hx =>?_,?_⟩ ?_ ?_
  ·simp only[Instr.mapUpdate,Sem.run_bind,run_underlying hu,Result.andThen_ok,MapKept.run_getObj_map k3,hchk,q1,MapKept.run_setObj_map _ k3];rfl
  ·simp only[Array.toList_push,zy6,zy7] at hx;rcases hx with hx | rfl
   ·have:=k4.1 x hx;omega
   ·simp
  ·simp only[Array.toList_push,zw3,zz9,zy9];refine List.nodup_append.2 ⟨k4.2,by simp,fun x hx y hy =>?_⟩;simp only[zy7] at hy;subst hy;obtain ⟨e,he,rfl⟩:=zx4.1 hx;exact Nat.ne_of_lt (k4.1 e he)
  ·simp only[Array.toList_push,zw3,zz9,zy9];exact Af k5 (I4 kp1 kp2)
  ·simp only[Array.toList_push,zw3,zz9,zy9];exact Af k6 (I4 vp1 vp2)
 ·cases hl
theorem vH{α β:Type}(f:α→β):∀ (l:List α) (i:Nat),(l.eraseIdx i).map f=(l.map f).eraseIdx i
 | [],_=>rfl
 |x::xs,0=>rfl
 |x::xs,i+1=>by simp only[List.eraseIdx_cons_succ,zz9,vH f xs i]
theorem Ah{w:World}{D:aO}{E:aU} : ∀ {xs:List I} {us:List Value} (i:Nat),aD w D E xs us→aD w D E (xs.eraseIdx i) (us.eraseIdx i)
 | [],us,i,h=>by simp only[aD] at h;subst h;simp[aD]
 |x::xs,us,i,h=>by
  simp only[aD] at h;obtain ⟨v,rest,cs,rfl,h1,h2,h3⟩:=h;cases i with
  |zero=>exact h3
  |succ i=>simp only[List.eraseIdx_cons_succ,aD];exact ⟨v,_,cs,rfl,h1,h2,Ah i h3⟩
theorem RQ{t kt et t':TypeId}{m k:Operand}{m' k':aJ}{ty:cK}{n:Nat}{ks vs ks' vs':List I}(ho:o.op=.call { callee:=.builtin .delete,args := #[m,k],argTypes := #[t,t'] })(hu:c.P.underlying t=some (.map kt et))(hk:kR c.P kt=some ty)
  (hm:ba c.P 0 m=some m') (hk':ba c.P 0 k=some k') (hmm:aj A m'=.mref n) (hn:A.o n=some (.cI ks vs)) (hl:zi ty (aj A k') ks vs=some (ks',vs')) (hd:o.dst=none) :
  iq c A o (A.aM n (.cI ks' vs')):=by
 intro a w D E hs;have h1:=bz hs hm;have h2:=bz hs hk';rw[hmm] at h1;unfold zi at hl;split at hl
 case isFalse=>cases hl
 rename_i hkk;obtain ⟨rk,hrk⟩:=zx3.1 hkk;have hchk:=fun em=>xM (P:=c.P) (w:=w) (em:=em) hk h2 hrk 9998;obtain ⟨b,es,ck,k1,k2,k3,k4,k5,k6,k7⟩:=hs.map hn;have hmv:a.eval m=.map (some b):=by
  obtain ⟨cs,q1,q2⟩:=h1;simp only[ai] at q2;obtain ⟨b',q3,q4⟩:=q2;rw[k1] at q3;cases q3;simpa[bm,I.isAgg,q4] using q1.symm
 have step:∀ (es':Array MapEntry),(Builtin.delete_ #[t,t'] o.type #[.map (some b),a.eval k]).run c.P w=.ok (.tuple #[]) (w.putObj b (.map es' ck))→pW es' ck→aD w D E ks' (es'.toList.map (·.key))→aD w D E vs' (es'.toList.map (·.val)) →
   ∃ w',((∃ u,(execOp a.eval o).run c.P w=.ok (.value u) w'∧bP c (A.aM n (.cI ks' vs')) (a.put o.dst u) w')∨((execOp a.eval o).run c.P w=.ok .skip w'∧bP c (A.aM n (.cI ks' vs')) (a.put o.dst undef) w')):=fun es' hrun hst hks hvs=>by
  refine ⟨w.putObj b (.map es' ck),.inl ⟨.tuple #[],?_,?_⟩⟩
  ·simp[execOp,ho,resolve,invoke,builtin,hmv,hrun]
  ·rw[hd];have:=hs.Aq (o':=.map es' ck) (x:=.cI ks' vs') k1 rfl rfl k3 rfl (fun q=>by simp) k2 (fun hl' hh hno=>⟨b,es',ck,k1,k2,hh,hst,aD.later hl' _ _ hks,aD.later hl' _ _ hvs,hno⟩);exact ⟨D,E,this⟩
 split at hl
 ·rename_i i hfi;simp only[v6,Prod.mk.injEq] at hl;obtain ⟨rfl,rfl⟩:=hl;obtain ⟨q,q1,q2⟩:=qD hk h2 k5 hfi;rcases q2 with ⟨e,_⟩ | ⟨j,e,e1,e2,rfl⟩
  ·cases e
  simp only[zz4,v6] at e1;subst e1;have hes:es[i]?=some e:=by rw[←zw0];exact e2
  have hlen:i<es.size:=(zy8.1 hes).1;have em:(es.eraseIdxIfInBounds i).toList=es.toList.eraseIdx i:=by
   simp[Array.eraseIdxIfInBounds,hlen]
  refine step (es.eraseIdxIfInBounds i) ?_ ⟨fun x hx =>?_,?_⟩ ?_ ?_
  ·simp[Builtin.delete_,run_underlying hu,MapKept.run_getObj_map k3,hchk,q1,MapKept.run_setObj_map _ k3];rfl
  ·rw[em] at hx;exact k4.1 x (List.mem_of_mem_eraseIdx hx)
  ·rw[em,vH];exact k4.2.sublist (List.eraseIdx_sublist _ _)
  ·rw[em,vH];exact Ah i k5
  ·rw[em,vH];exact Ah i k6
 ·rename_i hfi;simp only[v6,Prod.mk.injEq] at hl;obtain ⟨rfl,rfl⟩:=hl;obtain ⟨q,q1,q2⟩:=qD hk h2 k5 hfi;rcases q2 with ⟨_,rfl⟩ | ⟨j,e,e1,_⟩
  case inr=>cases e1
  refine step es ?_ k4 k5 k6;simp[Builtin.delete_,run_underlying hu,MapKept.run_getObj_map k3,hchk,q1,MapKept.run_setObj_map _ k3];rfl
 ·cases hl
theorem RV{t kt et:TypeId}{y:Operand}{y':aJ}{ks vs:List I}{d:Nat}(ho:o.op=.range t y)(hu:c.P.underlying t=some (.map kt et))(hy:ba c.P 0 y=some y')(h:aj A y'=.dA ks vs)(hd:o.dst=some d)(hn:d<c.n)(hf:A.o d=none) :
  iq c A o ((A.aM d (.it ks vs (List.range ks.length) none)).put d (.dx d)):=by
 intro a w D E hs;have h1:=bz hs hy;rw[h] at h1;obtain ⟨cs,q1,q2⟩:=h1;simp only[ai] at q2;obtain ⟨b,es,ck,q3,q4,q5,q6⟩:=q2;have ae:a.eval y=.map (some b):=by simpa[bm,I.isAgg,q3] using q1.symm
 have h2:=hs.aev (.inl hn) hf q4 q5 q6;have h3:=h2.put (x:=.dx d) (v:=.pointer (some ⟨w.heap.size,0,none⟩)) hn ⟨_,by simp[bm,I.isAgg];rfl,by
  simp only[ai,if_true];exact ⟨w.heap.size,rfl,rfl⟩⟩
 refine ⟨w.alloc (.mapIter (some b) ck #[] ck),.inl ⟨.pointer (some ⟨w.heap.size,0,none⟩),?_,D,_,by rw[hd];exact h3⟩⟩;simp only[execOp,ho,ae,Sem.run_bind,run_range_map w t kt et b es ck hu q4.1,Result.andThen_ok,Sem.run_pure]
theorem FT{es:Array MapEntry}{seen:Array Nat}{i:Nat} : i∈po es seen↔∃ e,es[i]?=some e∧seen.contains e.born=false:=by
 unfold po;simp only[List.mem_filter,List.mem_range];constructor
 ·rintro ⟨h1,h2⟩;rw[zu2 h1] at h2 ⊢;exact ⟨_,rfl,by simpa using h2⟩
 ·rintro ⟨e,h1,h2⟩;exact ⟨(zy8.1 h1).1,by rw[h1];simpa using h2⟩
theorem aho{es:Array MapEntry}{ck:Nat}(hst:pW es ck){i j:Nat}{e f:MapEntry}(hi:es[i]?=some e)(hj:es[j]?=some f)(h:e.born=f.born):i=j:=by
 have hn:=hst.2;rw[←zw0] at hi hj;have h1:(es.toList.map (·.born))[i]?=some e.born:=by rw[zx8,hi];rfl
 have h2:(es.toList.map (·.born))[j]?=some e.born:=by rw[zx8,hj,h];rfl
 have hil:i<(es.toList.map (·.born)).length:=(zy4.1 h1).1;have hjl:j<(es.toList.map (·.born)).length:=(zy4.1 h2).1;exact (List.getElem?_inj hil hn).1 (h1.trans h2.symm)
theorem ad5{es:Array MapEntry}{seen:Array Nat}{ck i:Nat}{e:MapEntry}(hst:pW es ck)(hi:es[i]?=some e):po es (seen.push e.born)=(po es seen).filter (· != i):=by
 unfold po;rw[List.filter_filter];refine List.filter_congr fun j hj =>?_;have hjl:j<es.size:=by simpa using hj
 rw[zu2 hjl];simp only[Array.contains_push];by_cases hij:j=i
 ·subst hij;rw[zu2 hjl,v6] at hi;simp[hi]
 ·have:(es[j].born==e.born)=false:=by
   simp only[beq_eq_false_iff_ne,ne_eq];exact fun h=>hij (aho hst (zu2 hjl) hi h)
  have h2:(j != i)=true:=by simpa using hij
  simp[this,h2]
theorem aex{y:Operand}{y':aJ}{ks vs:List I}{left:List Nat}{cur:Option Nat}{n:Nat}(ho:o.op=.next y false)(hy:ba c.P 0 y=some y')(h:aj A y'=.dx n)(hn:A.o n=some (.it ks vs left cur))(hdn:∀ k,o.dst=some k→k<c.n){a:Act}{w:World}{D:aO}{E:aU}(hs:aT c A a w D E) :
  ∃ w' v,(execOp a.eval o).run c.P w=.ok (.value v) w'∧((left=[]∧bP c (A.aR o.dst (.tuple [.bool false])) (a.put o.dst v) w') ∨
   ∃ i k x,i∈left∧ks[i]?=some k∧vs[i]?=some x∧bP c ((A.aM n (.it ks vs (left.filter (· != i)) (some i))).aR o.dst (.tuple [.bool true,k,x])) (a.put o.dst v) w'):=by
 have h1:=bz hs hy;rw[h] at h1;obtain ⟨cs,q1,q2⟩:=h1;simp only[ai] at q2;obtain ⟨r,q3,q4⟩:=q2;have ae:a.eval y=.pointer (some ⟨r,0,none⟩):=by simpa[bm,I.isAgg,q4] using q1.symm
 have hob:=hs.bG n;rw[hn] at hob;obtain ⟨r',b,es,ck,since,seen,last,k1,k2,k3,k4,k5,k6,k7,k8,k9,k9',k10⟩:=hob;rw[k1] at q3;cases q3;rcases run_next_at (P:=c.P) w o.type r b since last seen es ck k3 k4.1 k7 k8.1 with ⟨h0,hrun⟩ | ⟨e,he,w1,hal,hrun⟩
 ·refine ⟨w,.tuple #[.bool false],by simp only[execOp,ho,ae,Sem.run_bind,hrun,Result.andThen_ok,Sem.run_pure],.inl ⟨?_,D,E,hs.aR hdn ?_⟩⟩
  ·rw[k9];refine List.eq_nil_iff_forall_not_mem.2 fun i hi =>?_;obtain ⟨e,h1,h2⟩:=FT.1 hi;have hm:e∈leftOf es seen:=by
    unfold leftOf;simp only[Array.mem_filter];exact ⟨Array.mem_of_getElem? h1,by simpa using h2⟩
   rw[Array.eq_empty_of_size_eq_zero h0] at hm;simp at hm
  ·simp only[aV,aD];exact ⟨[.bool false],rfl,.bool false,[],[.bool false],rfl,by simp[bm,I.isAgg],by simp[ai],rfl⟩
 ·have hmem:e∈es.toList∧seen.contains e.born=false:=by
   unfold leftOf at he;simp only[Array.toList_filter,List.mem_filter] at he;exact ⟨he.1,by simpa using he.2⟩
  obtain ⟨i,hi⟩:=List.getElem?_of_mem hmem.1;have hie:es[i]?=some e:=by rw[←zw0];exact hi
  obtain ⟨k,hk1,hk2⟩:=nJ (j:=i) (v:=e.key) k5 (by simp only[zx8,hi,zy5]);obtain ⟨x,hx1,hx2⟩:=nJ (j:=i) (v:=e.val) k6 (by simp only[zx8,hi,zy5]);have hsw:aT c A a w1 D E:=by
   rcases hal with rfl | rfl
   ·exact hs
   ·exact hs.grow (w':=w.drew) (D':=D) ⟨rfl,rfl,rfl,zy1 _,fun _ _=>rfl⟩ (fun _ _ h=>h) (fun _ _ h _=>h) (fun b o hd=>hs.dy b o hd)
  have hw1:w1.heap=w.heap:=by rcases hal with rfl | rfl <;>rfl
  have k3':w1.heap[r]?=some (.mapIter (some b) since seen last):=by rw[hw1];exact k3
  have hset:=hsw.Aq (x:=.it ks vs (left.filter (· != i)) (some i)) (o':=.mapIter (some b) since (seen.push e.born) ck) k1 rfl rfl k3' rfl (fun q=>by simp) k2
   (fun hl hh hno=>by
    have hm:pt w1 D b es ck:=⟨by rw[hw1];exact k4.1,k4.2.1,k4.2.2⟩
    have hob:=hsw.bG n;rw[hn] at hob;refine ⟨r,b,es,ck,since,seen.push e.born,ck,k1,k2,hh,hm.later hl,aD.later hl _ _ ?_,aD.later hl _ _ ?_,k7,?_,?_,fun j hj =>?_,hno⟩
    ·obtain ⟨ja,b2,es2,ck2,si2,se2,la2,g1,g2,g3,g4,g5,g6,_⟩:=hob;rw[k1] at g1;cases g1;rw[k3'] at g3;cases g3;have:=g4.1;rw[hw1,k4.1] at this;cases this;exact g5
    ·obtain ⟨ja,b2,es2,ck2,si2,se2,la2,g1,g2,g3,g4,g5,g6,_⟩:=hob;rw[k1] at g1;cases g1;rw[k3'] at g3;cases g3;have:=g4.1;rw[hw1,k4.1] at this;cases this;exact g6
    ·exact ⟨k8.2,k8.2⟩
    ·rw[k9,ad5 k4.2.2 hie]
    ·cases hj;exact ⟨e,hie,by simp,rfl⟩)
  have hset':aT c (A.aM n (.it ks vs (left.filter (· != i)) (some i))) a (ChangeMaps.setBlock w1 r (.mapIter (some b) since (seen.push e.born) ck)) D E:=hset;refine ⟨_,.tuple #[.bool true,e.key,e.val],by simp only[execOp,ho,ae,Sem.run_bind,hrun,Result.andThen_ok,Sem.run_pure],.inr ⟨i,k,x,?_,hk1,hx1,D,E,hset'.aR hdn ?_⟩⟩
  ·rw[k9];exact FT.2 ⟨e,hie,hmem.2⟩
  ·have hob2:=hset'.bG n;simp only[af.aM,if_true] at hob2;obtain ⟨ja,b2,es2,ck2,si2,se2,la2,g1,g2,g3,g4,g5,g6,_⟩:=hob2;rw[k1] at g1;cases g1;have hr2:(ChangeMaps.setBlock w1 r (.mapIter (some b) since (seen.push e.born) ck)).heap[r]?=some (.mapIter (some b) since (seen.push e.born) ck):=World.putObj_heap_same (w:=w1) (fG k3');rw[hr2] at g3;cases g3;have hb2:(ChangeMaps.setBlock w1 r (.mapIter (some b) since (seen.push e.born) ck)).heap[b]?=some (.map es ck):=by
    have:b≠r:=fun e=>by rw[e] at k4;rw[k4.1] at k3;cases k3
    refine (World.putObj_heap_other (w:=w1) this).trans ?_;rw[hw1];exact k4.1
   have:=g4.1;rw[hb2] at this;cases this;obtain ⟨kk,a1,a2⟩:=nJ (j:=i) (v:=e.key) g5 (by simp only[zx8,hi,zy5]);rw[hk1] at a1;cases a1;obtain ⟨xx,b1,b2⟩:=nJ (j:=i) (v:=e.val) g6 (by simp only[zx8,hi,zy5]);rw[hx1] at b1;cases b1;obtain ⟨c1,c2,c3⟩:=p9 (rD k5 hk1) a2;obtain ⟨d1,d2,d3⟩:=p9 (rD k6 hx1) b2;simp only[aV,aD];exact ⟨[.bool true,e.key,e.val],rfl,.bool true,_,[.bool true],rfl,by simp[bm,I.isAgg],by simp[ai],e.key,_,c1,rfl,c2,c3,e.val,[],d1,rfl,d2,d3,rfl⟩
theorem acz{y:Operand}{y':aJ}{ks vs:List I}{left:List Nat}{i n:Nat}{k x:I}(ho:o.op=.entry y)(hy:ba c.P 0 y=some y')(h:aj A y'=.dx n)(hn:A.o n=some (.it ks vs left (some i)))(hk:ks[i]?=some k)(hx:vs[i]?=some x):c8 c A o (.tuple [k,x]) :=
 .same fun a w D E hs=>by
  have h1:=bz hs hy;rw[h] at h1;obtain ⟨cs,q1,q2⟩:=h1;simp only[ai] at q2;obtain ⟨r,q3,q4⟩:=q2;have ae:a.eval y=.pointer (some ⟨r,0,none⟩):=by simpa[bm,I.isAgg,q4] using q1.symm
  have hob:=hs.bG n;rw[hn] at hob;obtain ⟨r',b,es,ck,since,seen,last,k1,k2,k3,k4,k5,k6,k7,k8,k9,k9',k10⟩:=hob;rw[k1] at q3;cases q3;obtain ⟨e,e1,e2,rfl⟩:=k9' i rfl;have hi:es.toList[i]?=some e:=by rw[zw0];exact e1
  obtain ⟨kk,a1,a2⟩:=nJ (j:=i) (v:=e.key) k5 (by simp only[zx8,hi,zy5]);rw[hk] at a1;cases a1;obtain ⟨xx,b1,b2⟩:=nJ (j:=i) (v:=e.val) k6 (by simp only[zx8,hi,zy5]);rw[hx] at b1;cases b1;obtain ⟨c1,c2,c3⟩:=p9 (rD k5 hk) a2;obtain ⟨d1,d2,d3⟩:=p9 (rD k6 hx) b2;have hf:es.find? (·.born==e.born)=some e:=by rw[←Array.find?_toList];exact find_born e es.toList k4.2.2.2 (List.mem_of_getElem? hi)
  refine ⟨.tuple #[e.key,e.val],?_,?_⟩
  ·have hr:(Instr.entry (.pointer (some ⟨r,0,none⟩))).run c.P w=.ok (.tuple #[e.key,e.val]) w:=by
    simp only[Instr.entry,getObj,Sem.run_bind,Sem.run,k3,k4.1,Result.andThen,e2,bne_self_eq_false,zy0,if_false,hf];rfl
   simp only[execOp,ho,ae,Sem.run_bind,hr,Result.andThen_ok,Sem.run_pure]
  ·simp only[aV,aD];exact ⟨[e.key,e.val],rfl,e.key,_,c1,rfl,c2,c3,e.val,[],d1,rfl,d2,d3,rfl⟩
theorem ID{w:World}{D:aO}{E:aU}{z:I}{v:Value}(h:ai w D E z [v]):∀ n:Nat,aK w D E (List.replicate n z) (List.replicate n v)
 |0=>by simp[aK]
 |n+1=>by simp only[List.replicate_succ,aK];exact ⟨[v],_,rfl,h,ID h n⟩
theorem RU{t e:TypeId}{l l':Operand}{n':aJ}{z:I}{n d:Nat}{k:IntKind}(ho:o.op=.makeSlice t l l')(hll:l'=l)(hu:c.P.underlying t=some (.slice e))(hl:ba c.P 0 l=some n')(h:aj A n'=.int k n)(hz:gi c.P e=some z)(hz1:z.size=1)
  (hc1:c.P.cellsOf e=1) (hby:n*c.P.bytesOf e≤281474976710656) (hmax:n≤maxLen) (hd:o.dst=some d) (hn:d<c.n) (hf:A.o d=none):iq c A o ((A.aM d (.box (.agg (List.replicate n z)))).put d (.view d [] 1 0 n)):=by
 subst hll;intro a w D E hs;have h1:=bz hs hl;rw[h] at h1;obtain ⟨e1,_⟩:=ef h1;obtain ⟨i,zv,hi,hzz,hzr⟩:=lY hz;have hzc:=ai.length _ _ (hzr w D E);rw[hz1] at hzc;obtain ⟨u,hu1⟩:∃ u,zv.cells = #[u]:=by
  have:zv.cells.size=1:=by simpa using hzc
  obtain ⟨u,hu⟩:=Array.size_eq_one_iff.1 this;exact ⟨u,hu⟩
 have hsz:i.size=1:=by have:=hc1;simp only[Program.cellsOf,hi,zy5,Option.getD_some] at this;exact this
 have hbytes:(i.bytes:Int)*(n:Int)≤281474976710656:=by
  have:c.P.bytesOf e=i.bytes:=by simp[Program.bytesOf,hi]
  rw[this] at hby;have h2:((i.bytes*n:Nat):Int)≤281474976710656:=by rw[Nat.mul_comm] at hby;omega
  rwa [Int.natCast_mul] at h2
 have hrun:=run_make (P:=c.P) w t e i zv hu hi hzz k k n n (by omega) (Int.le_refl _) hbytes (by have h9:=hmax;unfold maxLen at h9;omega);simp only[zw8,hsz,Nat.mul_one] at hrun;have hmc:(madeCells zv.cells n).toList=List.replicate n u:=by
  rw[hu1];simp only[madeCells];apply List.ext_getElem?;intro j;simp[List.getElem?_replicate];split <;>simp_all[Nat.mod_one]
 have hcells:ai w D E (.agg (List.replicate n z)) (madeCells zv.cells n).toList:=by
  rw[hmc];simp only[ai];refine ID ?_ n;have:=hzr w D E;rw[hu1] at this;simpa using this
 have h2:=hs.tc (T:=e) (.inl hn) hf hcells;have h3:=h2.put (x:=.view d [] 1 0 n) (v:=.slice (some ⟨w.heap.size,0,none⟩) n n) hn ⟨_,by simp[bm,I.isAgg];rfl,by
  simp only[ai,if_true];refine ⟨w.heap.size,_,0,I.cB (List.replicate n z),rfl,by simp[cg.off],by simp[I.aN,cg.part],by simp[I.c7],by simpa[I.c7] using hmax,by simp[I.c7],fun s hs =>?_⟩;rw[I.c7] at hs;obtain ⟨y,hy,rfl⟩:=zx4.1 hs;rw[I.jN,(List.mem_replicate.1 hy).2,hz1]⟩
 refine ⟨_,.inl ⟨_,?_,D,_,by rw[hd];exact h3⟩⟩;simp only[execOp,ho,e1,Sem.run_bind,hrun,Result.andThen_ok,Sem.run_pure]
end
section
variable {c:cP} {A:af} {o:Oper} {x:I}
theorem vL{w:World}{D:aO}{E:aU}{s:ByteArray}(h:s.size≤maxLen):aV w D E (.ak s) (.string s):=⟨[.string s],by simp[bm,I.isAgg],by simp only[ai,true_and];exact h⟩
theorem acX{t:TypeId}{y z:Operand}{y' z':aJ}(ho:o.op=.index t y z)(hu:c.P.underlying t=some .string)(hy:ba c.P 0 y=some y')(hz:ba c.P 0 z=some z')(h:fq .eM [aj A y',aj A z']=some x):c8 c A o x :=
 .same fun a w D E hs=>by
  have h1:=bz hs hy;have h2:=bz hs hz;generalize aj A y'=u at *;generalize aj A z'=v at *;unfold fq at h;split at h <;>try (rename_i e _;cases e;done)
  all_goals try (rename_i e1 e2;cases e1;done)
  all_goals try (cases h;done)
  rename_i s k i _ e;simp only[zx6,and_true] at e;obtain ⟨rfl,rfl⟩:=e;split at h
  case isFalse=>cases h
  rename_i hi;simp only[t8] at h;obtain ⟨b,hb,rfl⟩:=h;obtain ⟨e1,hs1⟩:=il h1;obtain ⟨e2,ja⟩:=ef h2;obtain ⟨hlt,hbe⟩:=zy4.1 hb;have hlt':i.toNat<s.size:=by simpa using hlt
  have hget:s[i.toNat]?=some b:=by
   rw[getElem?_pos s i.toNat hlt']
   congr 1
  refine ⟨.int .u8 b.toNat,?_,jG ⟨?_,?_⟩⟩
  ·simp only[execOp,ho,e1,e2];simp[Instr.index,run_underlying hu,asIntOf,hi,hget]
  ·simp[IntKind.min,IntKind.signed]
  ·have:=b.toNat_lt;simp[IntKind.max,IntKind.bits,IntKind.signed];omega
theorem zQ{P:Program}{w:World}{lo hi:Bool}{xs:List I}(h:fq (.ss lo hi) xs=some x) :
  ∃ s:ByteArray,xs.head?=some (.ak s)∧∀ (t:TypeId),P.underlying t=some .string→∃ l r:Nat,l≤r∧r≤s.size∧x=.ak (s.extract l r) ∧
   ((lo=true∧hi=true∧∃ k k',xs=[.ak s,.int k l,.int k' r]∧(Instr.sliceAt t (.string s) (some (.int k l)) (some (.int k' r)) none).run P w=.ok (.string (s.extract l r)) w) ∨
    (lo=true∧hi=false∧∃ k,xs=[.ak s,.int k l]∧(Instr.sliceAt t (.string s) (some (.int k l)) none none).run P w=.ok (.string (s.extract l r)) w) ∨
    (lo=false∧hi=true∧∃ k,xs=[.ak s,.int k r]∧(Instr.sliceAt t (.string s) none (some (.int k r)) none).run P w=.ok (.string (s.extract l r)) w)):=by
 unfold fq at h;split at h <;>(try (rename_i e _;cases e;done)) <;>(try (cases h;done)) <;>(try (rename_i e;cases e))
 ·rename_i s k i;split at h
  case isFalse=>cases h
  rename_i hi;simp only[v6] at h;subst h;obtain ⟨n,rfl⟩:=zy2 hi.1;refine ⟨s,rfl,fun t hu=>⟨0,n,zv6 _,by omega,rfl,.inr (.inr ⟨rfl,rfl,k,rfl,?_⟩)⟩⟩;have:n≤s.size:=by omega
  simp[Instr.sliceAt,Instr.slice,run_underlying hu,Instr.sliceBounds,Instr.sliceBound,asIntOf,this]
 ·rename_i s k i;split at h
  case isFalse=>cases h
  rename_i hi;simp only[v6] at h;subst h;obtain ⟨n,rfl⟩:=zy2 hi.1;refine ⟨s,rfl,fun t hu=>⟨n,s.size,by omega,zy1 _,rfl,.inr (.inl ⟨rfl,rfl,k,rfl,?_⟩)⟩⟩;have:n≤s.size:=by omega
  simp[Instr.sliceAt,Instr.slice,run_underlying hu,Instr.sliceBounds,Instr.sliceBound,asIntOf,this]
 ·rename_i s k i k' j;split at h
  case isFalse=>cases h
  rename_i hi;simp only[v6] at h;subst h;obtain ⟨n,rfl⟩:=zy2 hi.1;obtain ⟨m,rfl⟩:=zy2 (Int.le_trans hi.1 hi.2.1);refine ⟨s,rfl,fun t hu=>⟨n,m,by omega,by omega,rfl,.inl ⟨rfl,rfl,k,k',rfl,?_⟩⟩⟩;have h1:n≤m:=by omega
  have h2:m≤s.size:=by omega
  simp[Instr.sliceAt,Instr.slice,run_underlying hu,Instr.sliceBounds,Instr.sliceBound,asIntOf,h1,h2]
theorem yi{s:ByteArray}{l r:Nat}(h:s.size≤maxLen):(s.extract l r).size≤maxLen:=by
 rw[ByteArray.size_extract];omega
theorem ac0{t:TypeId}{y z:Operand}{y' z':aJ}(ho:o.op=.slice t y none (some z) none)(hu:c.P.underlying t=some .string)(hy:ba c.P 0 y=some y')(hz:ba c.P 0 z=some z')(h:fq (.ss false true) [aj A y',aj A z']=some x):c8 c A o x :=
 .same fun a w D E hs=>by
  have h1:=bz hs hy;have h2:=bz hs hz;obtain ⟨s,e1,hh⟩:=zQ (P:=c.P) (w:=w) h;obtain ⟨l,r,_,_,rfl,hc⟩:=hh t hu;simp only[List.head?_cons,v6] at e1;rcases hc with ⟨hc,_⟩ | ⟨hc,_⟩ | ⟨_,_,k,e,hr⟩
  ·cases hc
  ·cases hc
  simp only[zx6,and_true] at e;rw[e.1] at h1;rw[e.2] at h2;obtain ⟨v1,s1⟩:=il h1;refine ⟨_,?_,vL (yi s1)⟩;simp only[execOp,ho,zy5,zw2,v1,(ef h2).1,Sem.run_bind,hr];rfl
theorem ac1{t:TypeId}{y z:Operand}{y' z':aJ}(ho:o.op=.slice t y (some z) none none)(hu:c.P.underlying t=some .string)(hy:ba c.P 0 y=some y')(hz:ba c.P 0 z=some z')(h:fq (.ss true false) [aj A y',aj A z']=some x):c8 c A o x :=
 .same fun a w D E hs=>by
  have h1:=bz hs hy;have h2:=bz hs hz;obtain ⟨s,e1,hh⟩:=zQ (P:=c.P) (w:=w) h;obtain ⟨l,r,_,_,rfl,hc⟩:=hh t hu;simp only[List.head?_cons,v6] at e1;rcases hc with ⟨_,hc,_⟩ | ⟨_,_,k,e,hr⟩ | ⟨hc,_⟩
  ·cases hc
  ·simp only[zx6,and_true] at e;rw[e.1] at h1;rw[e.2] at h2;obtain ⟨v1,s1⟩:=il h1;refine ⟨_,?_,vL (yi s1)⟩;simp only[execOp,ho,zy5,zw2,v1,(ef h2).1,Sem.run_bind,hr];rfl
  ·cases hc
theorem acZ{t:TypeId}{y z q:Operand}{y' z' q':aJ}(ho:o.op=.slice t y (some z) (some q) none)(hu:c.P.underlying t=some .string)(hy:ba c.P 0 y=some y')(hz:ba c.P 0 z=some z')(hq:ba c.P 0 q=some q')(h:fq (.ss true true) [aj A y',aj A z',aj A q']=some x):c8 c A o x :=
 .same fun a w D E hs=>by
  have h1:=bz hs hy;have h2:=bz hs hz;have h3:=bz hs hq;obtain ⟨s,e1,hh⟩:=zQ (P:=c.P) (w:=w) h;obtain ⟨l,r,_,_,rfl,hc⟩:=hh t hu;simp only[List.head?_cons,v6] at e1;rcases hc with ⟨_,_,k,k',e,hr⟩ | ⟨_,hc,_⟩ | ⟨hc,_⟩
  ·simp only[zx6,and_true] at e;rw[e.1] at h1;rw[e.2.1] at h2;rw[e.2.2] at h3;obtain ⟨v1,s1⟩:=il h1;refine ⟨_,?_,vL (yi s1)⟩;simp only[execOp,ho,zy5,zw2,v1,(ef h2).1,(ef h3).1,Sem.run_bind,hr];rfl
  ·cases hc
  ·cases hc
theorem acT{neg:Bool}{t yt:TypeId}{y z:Operand}{y':aJ}{ms:Array (String×TypeId)}(ho:o.op=.binOp (if neg then .neq else .eql) t y z yt)(hu:c.P.underlying t=some (.interface ms))(hy:ba c.P 0 y=some y')(hz:ba c.P 0 z=some (.c .dh))(h:fq (.px neg) [aj A y']=some x):c8 c A o x :=
 .same fun a w D E hs=>by
  have h1:=bz hs hy;have hz':z=.const .nilIface:=by
   cases z with
   |tmp n=>simp[ba] at hz
   |const v =>
    simp only[ba,t8,aJ.c.injEq] at hz;obtain ⟨u,hu,rfl⟩:=hz;unfold uB at hu
    (repeat' split at hu) <;>first | (cases hu;done) | rfl
   |global g=>simp[ba] at hz
   |func f=>simp only[ba] at hz;split at hz <;>simp at hz
  subst hz';have he:∀ d v,(∃ tt u,v=Value.iface tt u)→(Op.equalIn (d+1) t v .nilIface).run c.P w=.ok false w:=fun d v ae=>by
   obtain ⟨tt,u,rfl⟩:=ae;simp[Op.equalIn,run_underlying hu]
  have hk:a.eval (.const .nilIface)=.nilIface:=rfl;have he':∀ d,(Op.equalIn (d+1) t .nilIface .nilIface).run c.P w=.ok true w:=fun d=>by simp[Op.equalIn,run_underlying hu]
  unfold fq at h;split at h <;>(try (rename_i e _;cases e;done)) <;>(try (cases h;done)) <;>(try (rename_i e1 e2;cases e1;done))
  ·rename_i ng e1 e;cases e1;simp only[zx6,and_true] at e;simp only[v6] at h;subst h;rw[e] at h1;obtain ⟨cs,q1,q2⟩:=h1;simp only[ai] at q2;have ae:a.eval y=.nilIface:=by simpa[bm,I.isAgg,q2] using q1.symm
   refine ⟨.bool (!neg),?_,mz _⟩;cases neg <;>simp only[execOp,ho,ae,hk,if_true,zy0,if_false,Sem.run_bind,eqGuard] <;>simp[binOp,Op.equal,Op.maxDepth,he']
  ·rename_i ng tt u e1 e;cases e1;simp only[zx6,and_true] at e;simp only[v6] at h;subst h;rw[e] at h1;obtain ⟨cs,q1,q2⟩:=h1;simp only[ai] at q2;obtain ⟨u',cs',q3,q4,q5⟩:=q2;have ae:a.eval y=.iface tt u':=by simpa[bm,I.isAgg,q3] using q1.symm
   refine ⟨.bool neg,?_,mz _⟩;cases neg <;>simp only[execOp,ho,ae,hk,if_true,zy0,if_false,Sem.run_bind,eqGuard] <;>simp[binOp,Op.equal,Op.maxDepth,he _ _ ⟨tt,u',rfl⟩]
theorem B6{w:World}{D:aO}{E:aU} : ∀ {es:List I} {cs:List Value} {l:List UInt8},o9 es=some l→aK w D E es cs→cs=l.map fun b=>Value.int .u8 b.toNat
 | [],cs,l,h,hr=>by
  simp only[o9,v6] at h;subst h;simpa[aK] using hr
 |x::xs,cs,l,h,hr=>by
  simp only[o9] at h;split at h
  case h_2=>cases h
  rename_i n l' hl;simp only[v6] at h;subst h;simp only[aK] at hr;obtain ⟨c1,c2,rfl,h1,h2⟩:=hr;rw[B6 hl h2];simp only[ai] at h1;obtain ⟨rfl,h3,h4⟩:=h1;simp only[IntKind.min,IntKind.max,IntKind.bits,IntKind.signed] at h3 h4;obtain ⟨m,rfl⟩:=zy2 (show 0≤n by simpa using h3);have:m<256:=by simp at h4;omega
  simp only[zz9,List.singleton_append,zx6,and_true,Value.int.injEq,true_and,zw8];have e:(UInt8.ofNat m).toNat=m:=by simp;omega
  rw[e]
theorem acu{t t' e:TypeId}{y:Operand}{y':aJ}(ho:o.op=.convert t t' y)(hu:c.P.underlying t=some (.slice e))(he:c.P.underlying e=some (.int .u8))(hd:c.P.underlying t'=some .string)(hy:ba c.P 0 y=some y')(h:mX (du A 1 (aj A y'))=some x):c8 c A o x :=
 .same fun a w D E hs=>by
  unfold mX at h;split at h
  case h_2=>cases h
  rename_i es hes;simp only[t8] at h;obtain ⟨l,hl,rfl⟩:=h;obtain ⟨ad,cp,news,ae,h1,h2,h3,h4,h5⟩:=hs.nR (bz hs hy) hes;have hc:=B6 hl h3;have hlen:es.length=l.length:=by
   have:=aK.length _ _ h3;rw[hc,I.iJ _ h4] at this;simpa using this.symm
  refine ⟨.string ⟨l.toArray⟩,?_,vL ?_⟩
  ·simp only[execOp,ho,ae];rcases Nat.eq_zero_or_pos es.length with h0 | h0
   ·obtain rfl:l=[]:=zv0 (by omega);rw[h0];cases ad with
    |none =>
     simp only[Sem.run_bind,run_convert_bytes_nil w t e hu he 0 cp t' hd];rfl
    |some ad =>
     simp only[Sem.run_bind,run_convert_bytes_string w t t' e (some ad) 0 cp hu he hd,run_bytesToString w ad 0 cp [] (by simp[loadCells,loadCellsFrom])];rfl
   ·obtain ⟨b,off,rfl,h6⟩:=h5 (by intro e0;rw[e0] at h0;cases h0);rw[hlen];have key:=run_convert_bytes_arg (P:=c.P) w t e hu he b off l.length cp (l.map fun b=>(b.toNat:Int)) (by simp) (fun i hi=>by
     refine h6 i _ ?_;rw[hc];simp[zz5 hi,List.getD]) t' hd
    simp only[Sem.run_bind,key];have:strOfNums (l.map fun b=>(b.toNat:Int))=⟨l.toArray⟩:=by
     unfold strOfNums
     congr 1
     simp[Function.comp_def]
    rw[this];rfl
  ·show l.toArray.size≤maxLen
   simp;omega
theorem acQ{x':I}{y z:Operand}{y' z':aJ}{tys:Array TypeId}(ho:o.op=.call { callee:=.builtin .min,args := #[y,z],argTypes:=tys })(hy:ba c.P 0 y=some y')(hz:ba c.P 0 z=some z')(h:fq .min2 [aj A y',aj A z']=some x'):c8 c A o x' :=
 .same fun a w D E hs=>by
  have h1:=bz hs hy;have h2:=bz hs hz;generalize aj A y'=u at *;generalize aj A z'=v at *;unfold fq at h;split at h <;>(try (rename_i e _;cases e;done)) <;>(try (cases h;done)) <;>(try (rename_i e1 e2;cases e1;done))
  rename_i k n k2 m _ e;simp only[zx6,and_true] at e;obtain ⟨rfl,rfl⟩:=e;split at h
  case isFalse=>cases h
  rename_i hk;subst hk;simp only[v6] at h;subst h;obtain ⟨v1,r1⟩:=ef h1;obtain ⟨v2,ja⟩:=ef h2;refine ⟨.int k (if m<n then m else n),by simp[execOp,ho,resolve,invoke,builtin,Builtin.min_,Builtin.min2,v1,v2],jG ?_⟩;split
  ·exact ja
  ·exact r1
theorem acO{t:TypeId}{y:Operand}{y':aJ}(ho:o.op=.makeInterface t y)(hu:DE (c.P.underlying t)=true)(hy:ba c.P t y=some y')(h:fq (.oA t) [aj A y']=some x):c8 c A o x :=
 .same fun a w D E hs=>by
  have h1:=bz hs hy;simp only[fq] at h;split at h
  case isFalse=>cases h
  rename_i hc;simp only[v6] at h;subst h;have hr:(Instr.makeInterface t (a.eval y)).run c.P w=.ok (.iface t (a.eval y)) w:=by
   cases hd:c.P.underlying t with
   |none=>rw[hd] at hu;cases hu
   |some d =>
    rw[hd] at hu;have hr:=run_underlying (w:=w) hd;cases d <;>first | (cases hu;done) | simp[Instr.makeInterface,hr]
  obtain ⟨cs,q1,q2⟩:∃ cs,bm (aj A y') (a.eval y) cs∧ai w D E (aj A y') cs:=by
   generalize aj A y'=z at *;cases z <;>simp only[I.cm,zy0,and_false] at hc <;>simpa only[aV] using h1
  refine ⟨.iface t (a.eval y),?_,[.iface t (a.eval y)],by simp[bm,I.isAgg],?_⟩
  ·simp only[execOp,ho,Sem.run_bind];rw[hr];rfl
  ·simp only[ai];exact ⟨_,cs,rfl,q1,q2⟩
theorem L8(w:World)(e:TypeId)(s:ByteArray):Lib.bytesWorld w e s=w.drew.alloc (.cells (Lib.bytesCells w e s) e ((Lib.bytesCells w e s).size,(Lib.bytesCells w e s).size+1)):=by
 generalize hc:Lib.bytesCells w e s=cs;have hh:(Lib.bytesWorld w e s).heap=(w.drew.alloc (.cells cs e (cs.size,cs.size+1))).heap:=by
  apply Array.ext_getElem?;intro k;rcases Nat.lt_trichotomy k w.heap.size with h | h | h
  ·exact (Lib.bytesWorld_at_old w e s k h).trans (Below.heap_alloc w.drew (.cells cs e (cs.size,cs.size+1)) k h).symm
  ·subst h;rw[Lib.bytesWorld_at_new,hc];exact (heap_alloc_new w.drew _).symm
  ·rw[Array.getElem?_eq_none (by rw[Lib.bytesWorld_size];omega),Array.getElem?_eq_none (by rw[World.size_alloc];show w.heap.size+1≤k;omega)]
 have hf:∀ (u:World) (p:Addr) (n:Nat),(u.freeze p n).tape=u.tape∧(u.freeze p n).drawn=u.drawn∧(u.freeze p n).os=u.os∧(u.freeze p n).output=u.output:=fun u p n=>by
  unfold World.freeze;split <;>exact ⟨rfl,rfl,rfl,rfl⟩
 obtain ⟨f1,f2,f3,f4⟩:=hf (w.drew.alloc (.cells (Lib.bytesCells w e s) e)) ⟨w.heap.size,(Lib.bytesCells w e s).size,none⟩ 1;have h1:(Lib.bytesWorld w e s).tape=(w.drew.alloc (.cells cs e (cs.size,cs.size+1))).tape:=f1;have h2:(Lib.bytesWorld w e s).drawn=(w.drew.alloc (.cells cs e (cs.size,cs.size+1))).drawn:=f2;have h3:(Lib.bytesWorld w e s).os=(w.drew.alloc (.cells cs e (cs.size,cs.size+1))).os:=f3;have h4:(Lib.bytesWorld w e s).output=(w.drew.alloc (.cells cs e (cs.size,cs.size+1))).output:=f4;revert hh h1 h2 h3 h4;generalize Lib.bytesWorld w e s=a;generalize w.drew.alloc (.cells cs e (cs.size,cs.size+1))=b;obtain ⟨_,_,_,_,_⟩:=a;obtain ⟨_,_,_,_,_⟩:=b;rintro rfl rfl rfl rfl rfl;rfl
theorem agR{t t' e:TypeId}{y:Operand}{y':aJ}{ys:List I}{d:Nat}(ho:o.op=.convert t t' y)(hu:c.P.underlying t=some .string)(ht':c.P.underlying t'=some (.slice e))(he:c.P.underlying e=some (.int .u8))(hy:ba c.P 0 y=some y')(h:nK (aj A y')=some ys)
  (hd:o.dst=some d) (hdn:d<c.n) (hf:A.o d=none) {a:Act} {w:World} {D:aO} {E:aU} (hsim:aT c A a w D E) :
  ∃ v w' m,(execOp a.eval o).run c.P w=.ok (.value v) w'∧ys.length+m≤maxLen∧bP c ((A.aM d (.box (.agg (ys++List.replicate m (.int .u8 0))))).aR o.dst (.view d [] 1 0 ys.length)) (a.put o.dst v) w':=by
 have h1:=bz hsim hy;unfold nK at h;split at h
 case h_2=>cases h
 rename_i s hs';simp only[v6] at h;rw[hs'] at h1;obtain ⟨ae,hsz⟩:=il h1;have hge:=grownCap_ge w s.size 0 e;have hle:=grownCap_le_maxLen w s.size 0 e hsz;have hyl:ys.length=s.size:=by rw[←h];simp
 obtain ⟨m,hm⟩:∃ m,m=grownCap w s.size 0 e-s.size:=⟨_,rfl⟩
 have hcl:(Lib.bytesCells w e s).toList=(s.data.toList.map fun b=>Value.int .u8 (b.toNat:Int))++List.replicate m (.int .u8 0):=by
  rw[hm];simp[Lib.bytesCells]
 have hin:∀ b:UInt8,ai w.drew D E (.int .u8 (b.toNat:Int)) [.int .u8 (b.toNat:Int)]:=fun b=>by
  have:=b.toNat_lt;simp only[ai,true_and];simp[IntKind.min,IntKind.max,IntKind.bits,IntKind.signed];omega
 have hr1:aK w.drew D E ys (s.data.toList.map fun b=>Value.int .u8 (b.toNat:Int)):=by
  rw[←h];generalize s.data.toList=l
  induction l with
  |nil=>simp[aK]
  |cons b l ih =>
   simp only[zz9,aK];exact ⟨[.int .u8 b.toNat],_,rfl,hin b,ih⟩
 have hr2:∀ k:Nat,aK w.drew D E (List.replicate k (.int .u8 0)) (List.replicate k (.int .u8 0)):=fun k=>by
  induction k with
  |zero=>simp[aK]
  |succ k ih =>
   simp only[List.replicate_succ,aK];exact ⟨[.int .u8 0],_,rfl,hin 0,ih⟩
 have hrc:ai w.drew D E (.agg (ys++List.replicate m (.int .u8 0))) (Lib.bytesCells w e s).toList:=by
  rw[hcl];simp only[ai];exact kv _ _ _ _ hr1 (hr2 m)
 have hsim':aT c A a w.drew D E:=hsim.grow ⟨rfl,rfl,rfl,zy1 _,fun _ _=>rfl⟩ (fun _ _ h=>h) (fun _ _ h _=>h) (fun b o h=>hsim.dy b o h);have h2:aT c (A.aM d (.box (.agg (ys++List.replicate m (.int .u8 0))))) a (w.drew.alloc (.cells (Lib.bytesCells w e s) e ((Lib.bytesCells w e s).size,(Lib.bytesCells w e s).size+1))) D _ :=
  hsim'.te (e:=.aG w.drew.heap.size (I.agg (ys++List.replicate m (.int .u8 0))).aN) (.inl hdn) hf rfl fun hl hno=>⟨w.drew.heap.size,_,e,by simp,.inl hsim'.dX.size,⟨_,heap_alloc_new w.drew _,.inr ⟨rfl,by
   simp only[I.aN,cg.flat,I.c7,zx1,zx4];rintro s' ⟨y,hy,rfl⟩;rcases zy6.1 hy with hy | hy
   ·rw[←h] at hy;obtain ⟨b,_,rfl⟩:=zx4.1 hy;rfl
   ·rw[List.eq_of_mem_replicate hy];rfl⟩⟩,ai.later hl _ _ hrc,hno⟩
 have hlen:(ys++List.replicate m (I.int .u8 0)).length=ys.length+m:=by simp
 have hall:∀ y∈ys++List.replicate m (I.int .u8 0),y.size=1:=by
  intro y hy;rcases zy6.1 hy with hy | hy
  ·rw[←h] at hy;obtain ⟨b,_,rfl⟩:=zx4.1 hy;rfl
  ·rw[List.eq_of_mem_replicate hy];rfl
 have h3:=h2.put (d:=d) (x:=.view d [] 1 0 ys.length) (v:=.slice (some ⟨w.heap.size,0,none⟩) s.size (grownCap w s.size 0 e)) hdn ⟨_,by simp[bm,I.isAgg];rfl,by
  simp only[ai,if_true];refine ⟨w.heap.size,(I.agg (ys++List.replicate m (.int .u8 0))).aN,0,I.cB (ys++List.replicate m (.int .u8 0)),rfl,by cases (I.agg (ys++List.replicate m (.int .u8 0))).aN <;>simp[cg.off],by simp only[I.aN,cg.part],?_,?_,?_,?_⟩
  ·rw[I.c7,zz3,hlen,hm];simp;omega
  ·rw[I.c7,zz3,hlen];omega
  ·rw[I.c7,zz3,hlen];omega
  ·rw[I.c7];intro s hs;obtain ⟨f,hf,rfl⟩:=zx4.1 hs;rw[I.jN];exact hall f hf⟩
 refine ⟨.slice (some ⟨w.heap.size,0,none⟩) s.size (grownCap w s.size 0 e),Lib.bytesWorld w e s,m,?_,by omega,?_⟩
 ·simp only[execOp,ho,ae,Sem.run_bind,Lib.run_convert_string_bytes w t t' e s hu ht' he];rfl
 ·rw[hd,L8];exact ⟨D,_,h3⟩
end
end Go.Abs
namespace Go.Abs
open Go Go.RowKit
mutual
/-- Values that lead to no memory. -/
def I.flat:I→Bool
 | .agg fs | .tuple fs=>I.oo fs
 | .bool _ | .int _ _ | .ak _ | .nilp | .dO | .dh | .any | .raw _ | .undef | .dv=>true
 |_=>false
def I.oo:List I→Bool
 | []=>true
 |x::xs=>x.flat&&I.oo xs
end
mutual
theorem ai.flat{w w':World}{D D':aO}{E E':aU} : ∀ (x:I) (cs:List Value),x.flat=true→ai w D E x cs→ai w' D' E' x cs
 | .agg fs,cs,hf,hr=>by simp only[ai,I.flat] at *;exact aK.flat fs cs hf hr
 | .bool b,cs,_,hr=>by simpa only[ai] using hr
 | .int k n,cs,_,hr=>by simpa only[ai] using hr
 | .ak s,cs,_,hr=>by simpa only[ai] using hr
 | .nilp,cs,_,hr=>by simpa only[ai] using hr
 | .dO,cs,_,hr=>by simpa only[ai] using hr
 | .dh,cs,_,hr | .any,cs,_,hr=>by simpa only[ai] using hr
 | .raw _,cs,_,hr=>by simpa only[ai] using hr
 | .undef,_,_,hr=>by simp only[ai] at hr
 | .dv,_,_,hr=>by simp only[ai] at hr
 | .tuple _,_,_,hr=>by simp only[ai] at hr
 | .nils _,_,hf,_ | .c0 _,_,hf,_ | .slice _ _,_,hf,_ | .ref _,_,hf,_ | .func _ _,_,hf,_ | .iface _ _,_,hf,_ | .ptr _ _,_,hf,_ | .own _ _,_,hf,_ | .view _ _ _ _ _,_,hf,_ | .mref _,_,hf,_ | .dx _,_,hf,_ | .dA _ _,_,hf,_=>by simp[I.flat] at hf
theorem aK.flat{w w':World}{D D':aO}{E E':aU} : ∀ (xs:List I) (cs:List Value),I.oo xs=true→aK w D E xs cs→aK w' D' E' xs cs
 | [],cs,_,hr=>by simpa only[aK] using hr
 |x::xs,cs,hf,hr=>by
  simp only[aK,I.oo,zz0] at *;obtain ⟨c1,c2,h1,h2,h3⟩:=hr;exact ⟨c1,c2,h1,ai.flat x c1 hf.1 h2,aK.flat xs c2 hf.2 h3⟩
end
theorem aD.flat{w w':World}{D D':aO}{E E':aU} : ∀ (xs:List I) (vs:List Value),I.oo xs=true→aD w D E xs vs→aD w' D' E' xs vs
 | [],vs,_,hr=>by simpa only[aD] using hr
 |x::xs,vs,hf,hr=>by
  simp only[aD,I.oo,zz0] at *;obtain ⟨v,rest,cs,h1,h2,h3,h4⟩:=hr;exact ⟨v,rest,cs,h1,h2,ai.flat x cs hf.1 h3,aD.flat xs rest hf.2 h4⟩
theorem aV.flat{w w':World}{D D':aO}{E E':aU}{x:I}{v:Value}(hf:x.flat=true)(hr:aV w D E x v):aV w' D' E' x v:=by
 cases x <;>simp only[aV] at * <;>first
  |exact hr
  |(obtain ⟨vs,h1,h2⟩:=hr;exact ⟨vs,h1,aD.flat _ _ (by simpa[I.flat] using hf) h2⟩)
  |(obtain ⟨cs,h1,h2⟩:=hr;exact ⟨cs,h1,ai.flat _ _ hf h2⟩)
def cq:aU:=fun _=>none
def aP(P:Program)(f:FuncId)(args:List I)(r:I):Prop :=
 eV P f=true∧∀ (w:World) (D:aO) (vs:List Value),fw P w (fun _=>False)→(∀ b o,D b o→b<w.heap.size)→aD w D cq args vs →
  Calls P f vs.toArray w fun e w'=>∃ v D',e=.returned v∧aV w' D' cq r v∧Below w.heap.size w w'∧(∀ b o,D' b o→b<w'.heap.size)∧∀ b o,D' b o→b<w.heap.size→D b o
def ep(P:Program)(f:FuncId)(args:List I)(os:List (Nat×al))(post:cv):Prop :=
 eV P f=true∧oW (Calls P f) (fun w _ E=>fw P w (cu E)) args os post
def bB(p:Nat→Bool):List (Nat×al)→Prop
 | []=>True
 |(_,v)::r=>v.only p=true∧bB p r
def dN(ns:List Nat)(os:List (Nat×al)):List (Nat×al):=os.filter fun q => !ns.contains q.1
def hU(ns:List Nat)(ts:List (Nat×I)):List (Nat×I):=ts.map fun q=>(q.1,if q.2.only (fun n => !ns.contains n) then q.2 else .dv)
def iU(ns:List Nat)(os:List (Nat×al)):List (Nat×al):=os.filter fun q=>ns.contains q.1
def j2(ρ:List (Nat×Nat))(os:List (Nat×al)):List Nat:=os.map fun q=>bp ρ q.1
def gZ(aG:Bool)(A0:af)(ρ:List (Nat×Nat))(os:List (Nat×al)):List I→List I→Prop
 | [],[]=>True
 |x::xs,c::cs=>((x=c.aQ (bp ρ)∧c.only (ay os)=true∧c.cm=true)∨bh aG A0 x=some c)∧gZ aG A0 ρ os xs cs
 |_,_=>False
structure aF where
 dst:Option Nat
 op:bH
 guard:Option (Nat×Bool)
 deriving Inhabited
inductive cD where
 |done (A:af)
 |fail
 |call (f:FuncId) (avs:List I) (a1 a2:Option (List I)) (dst:Option Nat) (rest:List aF) (A:af)
 |nc (v:Value) (avs:List I) (dst:Option Nat) (rest:List aF) (A:af)
 |jf (f:FuncId) (avs:List I) (dst:Option Nat) (rest:List aF) (A:af)
 |any (p:Nat→Prop) (k:Nat→cD)
def cL(x:Option I)(k:I→cD):cD:=match x with
 |some v=>k v
 |none=>.fail
def zD(s:Option Nat)(v old:I):Prop:=v.cm=true∧bS s v=true∧v.aN=old.aN
def zx(e esz bytes l sz:Nat)(ys:List I)(T sz':Nat)(es:List I):Prop:=l=es.length∧sz=esz∧T=e∧sz'=esz∧ys≠[]∧es.length+ys.length≤maxLen∧(es.length+ys.length)*bytes≤140737488355328
def sM(ys:List I):List Int:=ys.filterMap fun y=>match y with | .int .i64 i=>some i | _=>none
def zy(e esz bytes l:Nat)(ys:List I)(T:Nat)(xs:List Int)(z:I):Prop:=l=xs.length∧esz=1∧T=e∧z=.int .i64 0∧ys=(sM ys).map (.int .i64)∧ys≠[]∧xs.length+ys.length≤maxLen∧(xs.length+ys.length)*bytes≤140737488355328
def kC:I→Bool
 | .slice _ es=>es.isEmpty
 | .c0 _=>true
 |_=>false
def ml(f:Nat):Nat:=if f<1000000 then f else f-1000000
def jk(f:Nat)(args caps:List I):List I:=if f<1000000 then args++caps else caps++args
theorem yk{f:Nat}(h:f<1000000):ml f=f:=by simp only[ml,if_pos h]
theorem yj{f:Nat}(h:f<1000000)(args caps:List I):jk f args caps=args++caps:=by simp only[jk,if_pos h]
theorem Eg(g:Nat):ml (g+1000000)=g:=by simp only[ml,if_neg (show ¬ g+1000000<1000000 by omega),Nat.add_sub_cancel]
theorem Ef(g:Nat)(args caps:List I):jk (g+1000000) args caps=caps++args:=by simp only[jk,if_neg (show ¬ g+1000000<1000000 by omega)]
open Classical in
noncomputable def fE(A:af)(dst:Option Nat)(esz bytes:Nat)(z:I)(es ys:List I)(k:af→cD):cD :=
 match dst with
 |some d=>match A.o d with
  |none=>if (es.length+ys.length)*bytes≤140737488355328∧es.length+ys.length≤maxLen then
    .any (fun m=>es.length+ys.length+m≤maxLen) (fun m=>k ((A.aM d (.box (.agg (es++(ys++List.replicate m z))))).aR dst (.view d [] esz 0 (es.length+ys.length)))) else .fail
  |some _=>.fail
 |none=>.fail
open Classical in
noncomputable def eI(A:af)(dst:Option Nat)(esz bytes:Nat)(z:I)(s:I):Option (List I)→Option (List I)→(af→cD)→cD
 |some es,some ys,k=>if ys=[] then k (A.aR dst s) else match s with
  | .nils _=>fE A dst esz bytes z es ys k
  | .c0 _=>fE A dst esz bytes z es ys k
  | .view n p sz lo l=>match A.o n with
   |some (.box b)=>match b.at p with
    |some (.agg fs)=>if lo+l+ys.length≤fs.length then
      (if sz=esz∧I.cB ys=I.cB ((fs.drop (lo+l)).take ys.length) then k ((A.aM n (.box (jd b p (lo+l) fs ys))).aR dst (.view n p esz lo (l+ys.length))) else .fail)
      else fE A dst esz bytes z es ys k
    |_=>.fail
   |_=>.fail
  |_=>.fail
 |_,_,_=>.fail
open Classical in
noncomputable def sa(A:af)(dst:Option Nat)(esz bytes:Nat)(z:I)(m:Nat)(s:I):Option (List I)→(af→cD)→cD
 |some es,k=>match s with
  | .view n p _ lo l=>match A.o n with
   |some (.box b)=>match b.at p with
    |some (.agg fs)=>if 0<m∧fs.length<lo+l+m then fE A dst esz bytes z es (List.replicate m z) k else .fail
    |_=>.fail
   |_=>.fail
  |_=>.fail
 |_,_=>.fail
open Classical in
noncomputable def og(A:af)(esz:Nat)(z:I)(k:af→cD):I→cD
 | .view n p sz lo l=>match A.o n with
  |some (.box b)=>match b.at p with
   |some (.agg fs)=>if sz=esz∧I.cB (List.replicate l z)=I.cB ((fs.drop lo).take l) then k (A.aM n (.box (jd b p lo fs (List.replicate l z)))) else .fail
   |_=>.fail
  |_=>.fail
 | .nils _=>k A
 | .c0 _=>k A
 |_=>.fail
open Classical in
noncomputable def mh(A:af)(dst:Option Nat)(esz:Nat)(k:af→cD):I→Option (List I)→cD
 | .view n p sz lo l,some ys=>match A.o n with
  |some (.box b)=>match b.at p with
   |some (.agg fs)=>if sz=esz∧I.cB (ys.take (min ys.length l))=I.cB ((fs.drop lo).take (min ys.length l)) then k ((A.aM n (.box (jd b p lo fs (ys.take (min ys.length l))))).aR dst (.int .i64 (min ys.length l:Nat))) else .fail
   |_=>.fail
  |_=>.fail
 | .c0 _,some _=>k (A.aR dst (.int .i64 0))
 |_,_=>.fail
def jM(A:af)(dst:Option Nat)(k:af→cD):Option (List I)→cD
 |some ys=>match dst with
  |some d=>match A.o d with
   |none=>.any (fun m=>ys.length+m≤maxLen) fun m=>k ((A.aM d (.box (.agg (ys++List.replicate m (.int .u8 0))))).aR dst (.view d [] 1 0 ys.length))
   |some _=>.fail
  |none=>.fail
 |none=>.fail
open Classical in
noncomputable def aX(A:af)(dst:Option Nat)(op:bH)(rest:List aF)(k:af→cD):cD :=
 match op with
 | .alloc z=>match dst with
  |some d=>match A.o d with
   |none=>k ((A.aM d (.box z)).put d (.ptr d []))
   |some _=>.fail
  |none=>.fail
 | .box x=>match dst with
  |some d=>match A.o d with
   |none=>if (aj A x).cm then k ((A.aM d (.box (aj A x))).put d (.ptr d [])) else .fail
   |some _=>.fail
  |none=>.fail
 | .aS s x v=>match dst with
  |none=>match aj A x with
   | .ptr n p=>match A.o n with
    |some (.box b)=>match b.at p with
     |some old=>if zD s (aj A v) old then k (A.aM n (.box (b.dR p (aj A v)))) else .fail
     |none=>.fail
    |_=>.fail
   |_=>.fail
  |some _=>.fail
 | .eB e esz bytes z s x=>match aj A s with
  | .own n l=>match aj A x with
   | .slice sz ys=>match A.o n with
    |some (.b6 T sz' es)=>if zx e esz bytes l sz ys T sz' es then k ((A.aM n (.b6 e esz (es++ys))).aR dst (.own n (es.length+ys.length))) else .fail
    |some (.eN T xs)=>if zy e esz bytes l ys T xs z then k ((A.aM n (.eN e (xs++sM ys))).aR dst (.own n (xs.length+ys.length))) else .fail
    |_=>.fail
   |_=>.fail
  |s'=>eI A dst esz bytes z s' (du A esz s') (du A esz (aj A x)) k
 | .ln _ esz bytes z s n=>match aj A n with
  | .int _ m=>sa A dst esz bytes z m.toNat (aj A s) (du A esz (aj A s)) k
  |_=>.fail
 | .nilS neg x=>if kC (aj A x) then .any (fun m=>m<2) (fun m=>k (A.aR dst (.bool (m==0)))) else cL (bf A (.nilS neg x)) fun v=>k (A.aR dst v)
 | .kh esz z x=>match dst with
  |none=>og A esz z k (aj A x)
  |some _=>.fail
 | .iz esz x y=>mh A dst esz k (aj A x) (lU A esz (aj A y))
 | .fC x=>jM A dst k (nK (aj A x))
 | .call f args=>.call f (args.map (aj A)) (bO true A (args.map (aj A))) (bO false A (args.map (aj A))) dst rest A
 | .fF x args=>match aj A x with
  | .func f caps=>.call (ml f) (jk f (args.map (aj A)) caps) (bO true A (jk f (args.map (aj A)) caps)) (bO false A (jk f (args.map (aj A)) caps)) dst rest A
  | .raw v=>.nc v (args.map (aj A)) dst rest A
  |_=>.fail
 | .jf f args=>.jf f (args.map (aj A)) dst rest A
 | .mA=>match dst with
  |some d=>match A.o d with
   |none=>k ((A.aM d (.cI [] [])).put d (.mref d))
   |some _=>.fail
  |none=>.fail
 | .nu e sz=>match dst with
  |some d=>match A.o d with
   |none=>k ((A.aM d (.b6 e sz [])).put d (.own d 0))
   |some _=>.fail
  |none=>.fail
 | .kX _ bytes z n=>match dst with
  |some d=>match A.o d with
   |none=>match aj A n with
    | .int _ n=>if 0≤n∧n.toNat*bytes≤281474976710656∧n.toNat≤maxLen then k ((A.aM d (.box (.agg (List.replicate n.toNat z)))).put d (.view d [] 1 0 n.toNat)) else .fail
    |_=>.fail
   |some _=>.fail
  |none=>.fail
 | .lK ty m key v=>match dst with
  |none=>match aj A m with
   | .mref n=>match A.o n with
    |some (.cI ks vs)=>match s9 ty (aj A key) (aj A v) ks vs with
     |some (ks',vs')=>k (A.aM n (.cI ks' vs'))
     |none=>.fail
    |_=>.fail
   |_=>.fail
  |some _=>.fail
 | .nt ty m key=>match dst with
  |none=>match aj A m with
   | .mref n=>match A.o n with
    |some (.cI ks vs)=>match zi ty (aj A key) ks vs with
     |some (ks',vs')=>k (A.aM n (.cI ks' vs'))
     |none=>.fail
    |_=>.fail
   |_=>.fail
  |some _=>.fail
 | .lS x=>match dst with
  |some d=>match A.o d with
   |none=>match aj A x with
    | .dA ks vs=>k ((A.aM d (.it ks vs (List.range ks.length) none)).put d (.dx d))
    |_=>.fail
   |some _=>.fail
  |none=>.fail
 | .lL x=>match aj A x with
  | .dx n=>match A.o n with
   |some (.it ks vs left cur)=>if left=[] then k (A.aR dst (.tuple [.bool false])) else
     .any (fun i=>i∈left) fun i=>match ks[i]?,vs[i]? with
      |some kk,some x=>k ((A.aM n (.it ks vs (left.filter (· != i)) (some i))).aR dst (.tuple [.bool true,kk,x]))
      |_,_=>.fail
   |_=>.fail
  |_=>.fail
 |op=>cL (bf A op) fun v=>k (A.aR dst v)
noncomputable def au:List aF→af→cD
 | [],A=>.done A
 |g::rest,A=>match g.guard with
  |none=>aX A g.dst g.op rest (au rest)
  |some (t,b)=>match A.t t with
   | .bool b'=>if b'=b then aX A g.dst g.op rest (au rest) else au rest (A.aR g.dst .undef)
   | .undef=>au rest (A.aR g.dst .undef)
   |_=>.fail
def BA(P:Program)(A:af)(f:FuncId)(avs:List I)(r:I):Prop :=
 ∀ (c:cP) (a:Act) (w:World) (D:aO) (E:aU) (vs:List Value),c.P=P→aT c A a w D E→fe (aV w D E) avs vs→∃ v,(callFunc f vs.toArray).run P w=.ok (.value v) w∧aV w D E r v
inductive aY (P:Program) (Y:Value→List I→List (Nat×al)→cv→Prop) (dr:Bool) (K:af→Prop):cD→Prop where
 |done {A:af} : K A→aY P Y dr K (.done A)
 |flat {f:FuncId} {avs cargs:List I} {a2:Option (List I)} {dst:Option Nat} {rest:List aF} {A:af} (r:I):aP P f cargs r→r.flat=true→aY P Y dr K (au rest (A.aR dst r))→aY P Y dr K (.call f avs (some cargs) a2 dst rest A)
 |lead {f:FuncId} {avs cargs:List I} {a1:Option (List I)} {dst:Option Nat} {rest:List aF} {A:af} (r:I):aP P f cargs r→aY P Y dr K (au rest (A.aR dst r))→aY P Y dr K (.call f avs a1 (some cargs) dst rest A)
 |vy {f:FuncId} {avs cargs:List I} {a1:Option (List I)} {dst:Option Nat} {rest:List aF} {A:af} (r:I):dr=false→aP P f cargs r→((∀ p,r.only p=true)→aY P Y dr K (au rest (A.aR dst r)))→aY P Y dr K (.call f avs a1 (some cargs) dst rest A)
 |kQ {f:FuncId} {avs cargs:List I} {a1 a2:Option (List I)} {dst:Option Nat} {rest:List aF} {ts:List (Nat×I)} {os0:List (Nat×al)} (ns:List Nat) (r:I):dr=false→aP P f cargs r→bO true (aC ts (iU ns os0)) avs=some cargs →
   bB (fun n => !ns.contains n) (dN ns os0)→aY P Y dr K (au rest ((aC (hU ns ts) (dN ns os0)).aR dst r))→aY P Y dr K (.call f avs a1 a2 dst rest (aC ts os0))
 |bG {f:FuncId} {avs:List I} {a1 a2:Option (List I)} {dst:Option Nat} {rest:List aF} {ts:List (Nat×I)} {os0:List (Nat×al)} (aG:Bool) (ρ:List (Nat×Nat)) (os:List (Nat×al)) (cargs:List I) (post:cv):dr=false→ep P f cargs os post →
   fj ρ os os0→gZ aG (aC ts (dN (j2 ρ os) os0)) ρ os avs cargs→(∀ r os',post r os'→dG aG ρ os os0 r os') →
   (∀ r os',post r os'→aY P Y dr K (au rest ((aC ts (dp ρ os'++os0)).aR dst (r.aQ (bp ρ)))))→aY P Y dr K (.call f avs a1 a2 dst rest (aC ts os0))
 |w0 {v:Value} {avs:List I} {dst:Option Nat} {rest:List aF} {ts:List (Nat×I)} {os0:List (Nat×al)} (os:List (Nat×al)) (cargs:List I) (post:cv):dr=false→Y v cargs os post →
   fj [] os os0→gZ false (aC ts (dN (j2 [] os) os0)) [] os avs cargs→(∀ r os',post r os'→dG false [] os os0 r os') →
   (∀ r os',post r os'→aY P Y dr K (au rest ((aC ts (dp [] os'++os0)).aR dst (r.aQ (bp [])))))→aY P Y dr K (.nc v avs dst rest (aC ts os0))
 |ext {f:FuncId} {avs:List I} {dst:Option Nat} {rest:List aF} {A:af} (r:I):dr=false→BA P A f avs r→aY P Y dr K (au rest (A.aR dst r))→aY P Y dr K (.jf f avs dst rest A)
 |any {p:Nat→Prop} {k:Nat→cD} : dr=false→(∀ m,p m→aY P Y dr K (k m))→aY P Y dr K (.any p k)
def DV(n:Nat):Option Nat→Bool
 |some d=>decide (d<n)
 |none=>true
def na(P:Program)(n:Nat)(br:Array Oper)(o:Oper):Option aF :=
 match cU P o with
 |none=>none
 |some g=>if DV n o.dst=true then
   match o.guard with
   |none=>some ⟨o.dst,g,none⟩
   |some (j,b)=>match (br[j]?).bind (·.dst) with
    |some t=>some ⟨o.dst,g,some (t,b)⟩
    |none=>none
  else none
def gy(P:Program)(n:Nat)(br:Array Oper):List Oper→Option (List aF)
 | []=>some []
 |o::l=>match na P n br o,gy P n br l with
  |some g,some gs=>some (g::gs)
  |_,_=>none
end Go.Abs
namespace Go.Abs
open Go Go.RowKit
section
variable {c:cP} {A:af} {o:Oper} {x:I}
theorem G8{g:bH}(hg:cU c.P o=some g)(h:bf A g=some x):c8 c A o x:=by
 unfold cU at hg;split at hg
 -- move
 ·rename_i y ho;simp only[t8] at hg;obtain ⟨z,hz,rfl⟩:=hg;simp only[bf,v6] at h;subst h;exact E8 (.inl ho) hz
 ·rename_i y ho;simp only[t8] at hg;obtain ⟨z,hz,rfl⟩:=hg;simp only[bf,v6] at h;subst h;exact E8 (.inr ho) hz
 -- pick
 ·rename_i q y z ho;split at hg
  ·rename_i q' y' z' h1 h2 h3;simp only[v6] at hg;subst hg;simp only[bf] at h;split at h
   ·rename_i t ht;simp only[v6] at h;subst h;exact acV ho h1 h2 h3 ht
   ·cases h
  ·cases hg
 -- binOp
 ·rename_i op t y z yt ho;split at hg
  ·rename_i k y' z' hu h1 h2;simp only[v6] at hg;subst hg;exact E6 ho h1 h2 h
  ·rename_i y' z' hu h1 h2;simp only[v6] at hg;subst hg;exact E6 ho h1 h2 h
  ·rename_i e y' z' hu h1 h2;split at hg
   ·rename_i s;split at hg
    ·rename_i hop;simp only[v6] at hg;subst hg;have ho':o.op=.binOp (if (op==.neq)=true then .neq else .eql) t y z yt:=by
      rcases hop with rfl | rfl <;>simpa using ho
     simp only[bf] at h;split at h
     ·rename_i s' hs';simp only[v6] at h;subst h;have:=yP (r:=true) ho' hu h1 h2 (.inl ⟨s',hs',rfl⟩);rw[show (if (op==BinOp.neq)=true then !true else true) = !(op==BinOp.neq) from by cases (op==BinOp.neq) <;>rfl] at this;exact this
     ·rename_i s' es hs';split at h
      ·cases h
      ·rename_i hne;simp only[v6] at h;subst h;have:=yP (r:=false) ho' hu h1 h2 (.inr (.inl ⟨s',es,hs',by simpa using hne,rfl⟩));rw[show (if (op==BinOp.neq)=true then !false else false)=(op==BinOp.neq) from by cases (op==BinOp.neq) <;>rfl] at this;exact this
     ·rename_i n p s' lo k hs';simp only[v6] at h;subst h;have:=yP (r:=false) ho' hu h1 h2 (.inr (.inr ⟨n,p,s',lo,k,hs',rfl⟩));rw[show (if (op==BinOp.neq)=true then !false else false)=(op==BinOp.neq) from by cases (op==BinOp.neq) <;>rfl] at this;exact this
     ·cases h
    ·cases hg
   ·cases hg
  ·rename_i e y' z' hu h1 h2;split at hg
   ·rename_i hop;simp only[v6] at hg;subst hg;have ho':o.op=.binOp (if (op==.neq)=true then .neq else .eql) t y z yt:=by
     rcases hop with rfl | rfl <;>simpa using ho
    simp only[bf] at h;cases hb1:jF (aj A y') with
    |none=>rw[hb1] at h;cases h
    |some b1=>cases hb2:jF (aj A z') with
     |none=>rw[hb1,hb2] at h;cases h
     |some b2 =>
      rw[hb1,hb2] at h;simp only[oI] at h;split at h
      ·rename_i hor;simp only[v6] at h;subst h;exact acW ho' hu h1 h2 hb1 hb2 (by simpa using hor)
      ·cases h
   ·cases hg
  ·rename_i ms y' z' hu h1 h2;split at hg
   ·split at hg
    ·rename_i hop;simp only[v6] at hg;subst hg;have ho':o.op=.binOp (if (op==.neq)=true then .neq else .eql) t y z yt:=by
      rcases hop with rfl | rfl <;>simpa using ho
     exact acT ho' hu h1 h2 (by simpa only[bf,zz9,zy9] using h)
    ·cases hg
   ·cases hg
  ·rename_i d y' z' _ _ _ _ _ hu h1 h2;split at hg
   ·rename_i hop;simp only[t8] at hg;obtain ⟨ty,hty,rfl⟩:=hg;have ho':o.op=.binOp (if (op==.neq)=true then .neq else .eql) t y z yt:=by
     rcases hop.1 with rfl | rfl <;>simpa using ho
    simp only[bf,t8] at h;obtain ⟨r,hr,rfl⟩:=h;exact acA ho' h1 h2 hop.2 hty hr
   ·cases hg
  ·cases hg
 -- unOp
 ·rename_i op t y ho;simp only[t8] at hg;obtain ⟨z,hz,rfl⟩:=hg;simp only[bf] at h;split at h
  ·rename_i b hb;simp only[v6] at h;subst h;exact acU ho hz hb
  ·rename_i k n hb;simp only[v6] at h;subst h;exact acS ho hz hb
  ·rename_i k n hb;simp only[v6] at h;subst h;exact acy ho hz hb
  ·cases h
 -- nilCheck
 ·rename_i y ho;simp only[t8] at hg;obtain ⟨z,hz,rfl⟩:=hg;simp only[bf] at h;cases hy:aj A z <;>rw[hy] at h <;>simp only[pw,v6] at h <;>try (cases h;done)
  ·subst h;rw[←hy];exact E9 ho hz (.inr ⟨_,hy⟩)
  ·subst h;rw[←hy];exact E9 ho hz (.inl ⟨_,_,hy⟩)
 -- makeMap
 ·simp only[v6] at hg;subst hg;simp[bf] at h
 -- lookup
 ·rename_i t m k ok ho;split at hg
  ·rename_i kt et m' k' hu h1 h2;split at hg
   ·rename_i ty z hk hz;split at hg
    ·rename_i hp;simp only[v6] at hg;subst hg;simp only[bf] at h;cases hm:ib A (aj A m') with
     |none=>rw[hm] at h;cases h
     |some q =>
      obtain ⟨ks,vs⟩:=q;rw[hm] at h;simp only[sX] at h;cases hl:sZ ty z (aj A k') ks vs with
      |none=>rw[hl] at h;cases h
      |some q =>
       obtain ⟨v,b⟩:=q;rw[hl] at h;simp only[sY,v6] at h;subst h;exact acM ho hu hk hz hp h1 h2 hm hl
    ·cases hg
   ·cases hg
  ·cases hg
 -- mapUpdate,insert
 iterate 2
  ·split at hg
   ·split at hg
    ·simp only[v6] at hg;subst hg;simp[bf] at h
    ·cases hg
   ·cases hg
 -- makeSlice
 ·split at hg
  ·split at hg
   ·split at hg
    ·simp only[v6] at hg;subst hg;simp[bf] at h
    ·split at hg
     ·split at hg
      ·simp only[v6] at hg;subst hg;simp[bf] at h
      ·cases hg
     ·cases hg
   ·cases hg
  ·cases hg
 -- range
 ·split at hg
  ·simp only[t8] at hg;obtain ⟨z,_,rfl⟩:=hg;simp[bf] at h
  ·cases hg
 -- next
 ·simp only[t8] at hg;obtain ⟨z,_,rfl⟩:=hg;simp[bf] at h
 -- entry
 ·rename_i y ho;simp only[t8] at hg;obtain ⟨z,hz,rfl⟩:=hg;simp only[bf] at h;split at h
  ·rename_i n hn;split at h
   ·rename_i ks vs left cur hob;cases cur with
    |none=>cases h
    |some i =>
     simp only[uQ] at h;split at h
     ·rename_i kk xx hk hx;simp only[v6] at h;subst h;exact acz ho hz hn hob hk hx
     ·cases h
   ·cases h
  ·cases h
 -- convert
 ·rename_i nR dst y ho;split at hg
  ·rename_i k0 k y' h1 h2 h3;simp only[v6] at hg;subst hg;simp only[bf] at h;split at h
   ·rename_i k1 n hn;simp only[v6] at h;subst h;exact acx ho h1 h2 h3 hn
   ·cases h
  ·rename_i e y' h1 h2 h3;split at hg
   ·rename_i he;simp only[v6] at hg;subst hg;exact acu ho h1 he h2 h3 (by simpa only[bf] using h)
   ·cases hg
  ·rename_i e y' h1 h2 h3;split at hg
   ·rename_i he;simp only[v6] at hg;subst hg;simp only[bf] at h;cases h
   ·cases hg
  ·cases hg
 -- load
 ·rename_i t y ho;split at hg
  ·rename_i s y' h1 h2;simp only[v6] at hg;subst hg;simp only[bf] at h;split at h
   ·rename_i v ae;split at h
    ·rename_i hok;simp only[v6] at h;subst h;exact acL ho h1 h2 ae hok
    ·cases h
   ·cases h
  ·cases hg
 -- fieldAddr
 ·rename_i t y f ho;split at hg
  ·rename_i fs y' hu h1;split at hg
   ·rename_i fd hf;split at hg
    ·cases hg
    ·rename_i hz;simp only[v6] at hg;subst hg;simp only[bf] at h;split at h
     ·rename_i gs hgs;split at h
      ·rename_i v ae;split at h
       ·rename_i hoff;simp only[v6] at h;subst h;exact acD ho hu hf hz h1 hgs ae hoff
       ·cases h
      ·cases h
     ·rename_i n p hp;split at h
      ·rename_i gs hgs;split at h
       ·rename_i hoff;simp only[v6] at h;subst h;exact acC ho hu hf hz h1 hp hgs hoff.1 hoff.2
       ·cases h
      ·cases h
     ·cases h
   ·cases hg
  ·cases hg
 -- field
 ·rename_i t y f ho;split at hg
  ·rename_i fs y' hu h1;split at hg
   ·rename_i fd hf;simp only[t8] at hg;obtain ⟨s,hs,rfl⟩:=hg;simp only[bf] at h;split at h
    ·rename_i gs hgs;split at h
     ·rename_i v ae;split at h
      ·rename_i hoff;simp only[v6] at h;subst h;exact acE ho hu hf hs h1 hgs ae hoff.1 hoff.2
      ·cases h
     ·cases h
    ·cases h
   ·cases hg
  ·cases hg
 -- indexAddr
 ·rename_i t y i ho;split at hg
  ·rename_i n e y' i' hu h1 h2;split at hg
   ·rename_i hinfo;obtain ⟨ti,hti⟩:=zx3.1 hinfo;simp only[v6] at hg;subst hg;simp only[bf] at h;split at h
    ·rename_i kk k hk;split at h
     ·rename_i hb;split at h
      ·rename_i gs hgs;split at h
       ·rename_i hev;simp only[t8] at h;obtain ⟨v,ae,rfl⟩:=h;exact acG ho hu hti h1 h2 hgs hk hb hev ae
       ·cases h
      ·rename_i m p hp;split at h
       ·rename_i gs hgs;split at h
        ·rename_i hev;simp only[v6] at h;subst h;exact acF ho hu hti h1 h2 hp hk hb hgs hev
        ·cases h
       ·cases h
      ·cases h
     ·cases h
    ·cases h
   ·cases hg
  ·rename_i e y' i' hu h1 h2;split at hg
   ·rename_i hinfo;obtain ⟨ti,hti⟩:=zx3.1 hinfo;simp only[v6] at hg;subst hg;simp only[bf] at h;split at h
    ·rename_i kk k hk;split at h
     ·rename_i sz es hes;split at h
      ·rename_i hb;obtain ⟨rfl,hb⟩:=hb;simp only[t8] at h;obtain ⟨v,ae,rfl⟩:=h;exact acH ho hu hti h1 h2 hes hk hb ae
      ·cases h
     ·rename_i m l hm;split at h
      ·rename_i T sz es hes;split at h
       ·rename_i hb;obtain ⟨rfl,rfl,hb⟩:=hb;simp only[t8] at h;obtain ⟨v,ae,rfl⟩:=h;exact acI ho hu hti h1 h2 hm hes hk hb ae
       ·cases h
      ·cases h
     ·rename_i m p sz lo l hm;split at h
      ·rename_i fs hfs;split at h
       ·rename_i hb;simp only[v6] at h;subst h;exact acJ ho hu hti h1 h2 hb.1 hm hfs hk hb.2
       ·cases h
      ·cases h
     ·cases h
    ·cases h
   ·cases hg
  ·cases hg
 -- index
 ·rename_i t y i ho;split at hg
  ·rename_i n e y' i' hu h1 h2;simp only[t8] at hg;obtain ⟨s,hs,rfl⟩:=hg;simp only[bf] at h;split at h
   ·rename_i kk k hk;split at h
    ·rename_i hb;split at h
     ·rename_i gs hgs;split at h
      ·rename_i hev;split at h
       ·rename_i v ae;split at h
        ·rename_i hok;simp only[v6] at h;subst h;exact acK ho hu hs h1 h2 hgs hk hb hev ae hok
        ·cases h
       ·cases h
      ·cases h
     ·cases h
    ·cases h
   ·cases h
  ·rename_i y' i' hu h1 h2;simp only[v6] at hg;subst hg;exact acX ho hu h1 h2 (by simpa only[bf,zz9,zy9] using h)
  ·cases hg
 -- slice
 ·rename_i t y lo hi mx ho;split at hg
  ·rename_i n e y' hu h1;split at hg
   ·split at hg
    ·rename_i hinfo;obtain ⟨ti,hti⟩:=zx3.1 hinfo;simp only[v6] at hg;subst hg;simp only[bf] at h;split at h
     ·rename_i m p hp;split at h
      ·rename_i gs hgs;split at h
       ·rename_i hev;simp only[v6] at h;subst h;exact ac2 ho hu hti h1 hp hgs hev.1 hev.2.1 hev.2.2
       ·cases h
      ·cases h
     ·rename_i gs hgs;split at h
      ·rename_i hev;simp only[v6] at h;subst h;exact ac3 ho hu hti h1 hgs hev.1 hev.2.1
      ·cases h
     ·cases h
    ·cases hg
   ·cases hg
  ·rename_i e y' hu h1;split at hg
   ·rename_i lo' hi' mx' q1 q2 q3;split at hg
    ·rename_i hc;obtain ⟨ti,hti⟩:=zx3.1 hc.2;simp only[v6] at hg;subst hg;simp only[bf] at h;split at h
     ·rename_i sz es hes;split at h
      ·rename_i hsz;subst hsz;exact yQ ho hu hti h1 q1 q2 q3 hc.1 (.inl hes) h
      ·cases h
     ·rename_i sz hes;split at h
      ·rename_i hsz;subst hsz;exact yQ ho hu hti h1 q1 q2 q3 hc.1 (.inr (.inl ⟨hes,rfl⟩)) h
      ·cases h
     ·rename_i sz hes;split at h
      ·rename_i hsz;subst hsz;exact yQ ho hu hti h1 q1 q2 q3 hc.1 (.inr (.inr ⟨hes,rfl⟩)) h
      ·cases h
     ·rename_i n p sz l0 k ae;split at h
      ·rename_i fs hfs;split at h
       ·rename_i hsz;exact acY ho hu hti h1 q1 q2 q3 hc.1 hsz ae hfs h
       ·cases h
      ·cases h
     ·cases h
    ·cases hg
   ·cases hg
  ·rename_i y' hu h1;split at hg
   ·rename_i hi;simp only[t8] at hg;obtain ⟨hi',h2,rfl⟩:=hg;exact ac0 ho hu h1 h2 (by simpa only[bf,zz9,zy9] using h)
   ·rename_i lo;simp only[t8] at hg;obtain ⟨lo',h2,rfl⟩:=hg;exact ac1 ho hu h1 h2 (by simpa only[bf,zz9,zy9] using h)
   ·split at hg
    ·rename_i lo' hi' h2 h3;simp only[v6] at hg;subst hg;exact acZ ho hu h1 h2 h3 (by simpa only[bf,zz9,zy9] using h)
    ·cases hg
   ·cases hg
  ·cases hg
 -- build
 ·rename_i t parts ho;split at hg
  ·rename_i zs ps hz hp;split at hg
   ·rename_i fs hu;split at hg
    ·rename_i hc;simp only[v6] at hg;subst hg;simp only[bf,t8] at h;obtain ⟨zs',h,rfl⟩:=h;exact E7 ho hz hp (.inl ⟨fs,hu,hc.1,hc.2⟩) h
    ·cases hg
   ·rename_i n e hu;split at hg
    ·rename_i hc;simp only[v6] at hg;subst hg;simp only[bf,t8] at h;obtain ⟨zs',h,rfl⟩:=h;exact E7 ho hz hp (.inr ⟨n,e,hu,hc.1,hc.2.1,hc.2.2⟩) h
    ·cases hg
   ·cases hg
  ·cases hg
 -- buildSlice
 ·rename_i t len parts ho;split at hg
  ·rename_i e hu;split at hg
   ·rename_i ps hp;split at hg
    ·rename_i h0;obtain ⟨rfl,rfl,h0⟩:=h0;obtain ⟨ti,hti⟩:=zx3.1 h0;simp only[v6] at hg;subst hg;simp only[bf,v6] at h;subst h;exact acw ho hu hti
    split at hg
    ·rename_i hc;obtain ⟨c1,c2,c3,c4,c5⟩:=hc;simp only[v6] at hg;subst hg;simp only[bf] at h;split at h
     ·rename_i es hes;split at h
      ·rename_i hev;simp only[v6] at h;subst h;refine acv ho hu hp c1 c2 c3 c4 c5 hes (fun y hy =>?_) hev.2;have:=zx1.1 hev.1 y hy;simpa using this
      ·cases h
     ·cases h
    ·cases hg
   ·cases hg
  ·cases hg
 -- extract
 ·rename_i y i ho;simp only[t8] at hg;obtain ⟨z,hz,rfl⟩:=hg;simp only[bf] at h;split at h
  ·rename_i fs hfs;exact acB ho hz hfs h
  ·cases h
 -- makeFunc
 ·rename_i f first caps ho
  split at hg
  case isFalse=>cases hg
  rename_i hlt;split at hg
  ·rename_i hfirst;simp only[t8] at hg;obtain ⟨ys,hys,rfl⟩:=hg;simp only[bf] at h;split at h
   ·rename_i ae;simp only[v6] at h;subst h;have hf:first = #[]:=by simpa using hfirst
    rw[hf] at ho;refine acN hlt ho hys (fun y hy =>?_);have:=zx1.1 ae (aj A y) (zx4.2 ⟨y,hy,rfl⟩);exact this
   ·cases h
  ·split at hg
   case isFalse=>cases hg
   rename_i hcaps;simp only[t8] at hg;obtain ⟨ys,hys,rfl⟩:=hg;simp only[bf] at h;split at h
   ·rename_i ae;simp only[v6] at h;subst h;have hf:caps = #[]:=by simpa using hcaps
    rw[hf] at ho;refine acP ho hys (fun y hy =>?_);have:=zx1.1 ae (aj A y) (zx4.2 ⟨y,hy,rfl⟩);exact this
   ·cases h
 -- alloc
 ·simp only[t8] at hg;obtain ⟨z,_,rfl⟩:=hg;simp[bf] at h
 -- box
 ·simp only[t8] at hg;obtain ⟨z,_,rfl⟩:=hg;simp[bf] at h
 -- store
 ·split at hg
  ·split at hg
   ·simp only[v6] at hg;subst hg;simp[bf] at h
   ·cases hg
  ·cases hg
 -- call
 ·split at hg
  ·simp only[t8] at hg;obtain ⟨z,_,rfl⟩:=hg;simp[bf] at h
  ·simp only[t8] at hg;obtain ⟨z,_,rfl⟩:=hg;simp[bf] at h
 ·split at hg
  ·simp only[v6] at hg;subst hg;simp[bf] at h
  ·cases hg
 -- len
 ·rename_i args tys ho;split at hg
  ·rename_i y ty hargs htys;have ho':o.op=.call { callee:=.builtin .len,args := #[y],argTypes := #[ty] } :=by
    rw[ho];have e1:args = #[y]:=by apply Array.ext';simpa using hargs
    have e2:tys = #[ty]:=by apply Array.ext';simpa using htys
    rw[e1,e2]
   split at hg
   ·rename_i e hu;simp only[t8] at hg;obtain ⟨y',hy,rfl⟩:=hg;simp only[bf] at h;split at h
    ·rename_i sz es hes;simp only[v6] at h;subst h;refine qG ho' hu (.inl ⟨e,rfl⟩) hy (fun a w D E hs v ae =>?_);rw[hes] at ae;obtain ⟨ad,cap,e1,e2,e3,_⟩:=mL ae;exact ⟨Nat.le_trans e2 e3,fun _=>⟨ad,cap,e1⟩,fun e=>by cases e⟩
    ·rename_i sz hes;simp only[v6] at h;subst h;refine qG (n:=0) ho' hu (.inl ⟨e,rfl⟩) hy (fun a w D E hs v ae =>?_);rw[hes] at ae;obtain ⟨cs,q1,q2⟩:=ae;simp only[ai] at q2;exact ⟨by simp[maxLen],fun _=>⟨none,0,by simpa[bm,I.isAgg,q2] using q1.symm⟩,fun e=>by cases e⟩
    ·rename_i sz hes;simp only[v6] at h;subst h;refine qG (n:=0) ho' hu (.inl ⟨e,rfl⟩) hy (fun a w D E hs v ae =>?_);rw[hes] at ae;obtain ⟨cs,q1,q2⟩:=ae;simp only[ai] at q2;obtain ⟨ad,q2⟩:=q2;exact ⟨by simp[maxLen],fun _=>⟨ad,0,by simpa[bm,I.isAgg,q2] using q1.symm⟩,fun e=>by cases e⟩
    ·rename_i m l hm;split at h
     ·rename_i T sz es hes;split at h
      ·rename_i hl;subst hl;simp only[v6] at h;subst h;refine qG ho' hu (.inl ⟨e,rfl⟩) hy (fun a w D E hs v ae =>?_);rw[hm] at ae;rcases hs.own hes ae with ⟨rfl,_,rfl⟩ | ⟨b,cap,cs,pre,rest,_,rfl,_,_,_,_,_,k8,k9,_⟩
       ·exact ⟨by simp[maxLen],fun _=>⟨none,0,rfl⟩,fun e=>by cases e⟩
       ·exact ⟨Nat.le_trans k8 k9,fun _=>⟨_,_,rfl⟩,fun e=>by cases e⟩
      ·cases h
     ·cases h
    ·rename_i n p sz lo k hm;simp only[v6] at h;subst h;refine qG ho' hu (.inl ⟨e,rfl⟩) hy (fun a w D E hs v ae =>?_);rw[hm] at ae;obtain ⟨cs,q1,q2⟩:=ae;simp only[ai] at q2;obtain ⟨b,aN,off,l,_,_,_,q2,q3,q4,_⟩:=q2;exact ⟨by omega,fun _=>⟨_,_,by simpa[bm,I.isAgg,q2] using q1.symm⟩,fun e=>by cases e⟩
    ·cases h
   ·rename_i hu;simp only[t8] at hg;obtain ⟨y',hy,rfl⟩:=hg;simp only[bf] at h;split at h
    ·rename_i s hs';simp only[v6] at h;subst h;refine qG ho' hu (.inr rfl) hy (fun a w D E hs v ae =>?_);rw[hs'] at ae;obtain ⟨e1,e2⟩:=il ae;exact ⟨e2,(fun e=>by obtain ⟨_,e⟩:=e;cases e),fun _=>⟨s,e1,rfl⟩⟩
    ·cases h
   ·cases hg
  ·cases hg
 -- append
 ·split at hg
  ·split at hg
   ·split at hg
    ·simp only[t8] at hg;obtain ⟨z,_,rfl⟩:=hg;simp[bf] at h
    ·split at hg
     ·simp only[t8] at hg;obtain ⟨z,_,rfl⟩:=hg;simp[bf] at h
     ·cases hg
   ·cases hg
  ·cases hg
 -- cap
 ·rename_i args tys ho;split at hg
  ·rename_i y ty hargs htys;have ho':o.op=.call { callee:=.builtin .cap,args := #[y],argTypes := #[ty] } :=by
    rw[ho];have e1:args = #[y]:=by apply Array.ext';simpa using hargs
    have e2:tys = #[ty]:=by apply Array.ext';simpa using htys
    rw[e1,e2]
   split at hg
   ·rename_i e hu;simp only[t8] at hg;obtain ⟨y',hy,rfl⟩:=hg;simp only[bf] at h;split at h
    ·rename_i sz hes;simp only[v6] at h;subst h;refine yO ho' hu hy (fun a w D E hs v ae =>?_);rw[hes] at ae;obtain ⟨cs,q1,q2⟩:=ae;simp only[ai] at q2;exact ⟨by simp[maxLen],_,_,by simpa[bm,I.isAgg,q2] using q1.symm⟩
    ·rename_i sz hes;simp only[v6] at h;subst h;refine yO ho' hu hy (fun a w D E hs v ae =>?_);rw[hes] at ae;obtain ⟨cs,q1,q2⟩:=ae;simp only[ai] at q2;obtain ⟨ad,q2⟩:=q2;exact ⟨by simp[maxLen],_,_,by simpa[bm,I.isAgg,q2] using q1.symm⟩
    ·rename_i n p sz lo k hm;split at h
     ·rename_i fs hfs;simp only[v6] at h;subst h;refine yO ho' hu hy (fun a w D E hs v ae =>?_);rw[hm] at ae;obtain ⟨_,b,cs,T,off,c1,c2,c3,_,_,_,_,_,_,_,_,_,_,_,q1,q2⟩:=hs.view ae hfs;exact ⟨by omega,_,_,q2⟩
     ·cases h
    ·cases h
   ·cases hg
  ·cases hg
 -- clear
 ·split at hg
  ·split at hg
   ·simp only[t8] at hg;obtain ⟨z,_,rfl⟩:=hg;simp[bf] at h
   ·cases hg
  ·cases hg
 -- copy
 ·split at hg
  ·split at hg
   ·split at hg
    ·simp only[v6] at hg;subst hg;simp[bf] at h
    ·cases hg
   ·cases hg
  ·cases hg
 -- delete
 ·split at hg
  ·split at hg
   ·simp only[t8] at hg;obtain ⟨z,_,rfl⟩:=hg;simp[bf] at h
   ·cases hg
  ·cases hg
 -- max
 ·rename_i args _ ho;split at hg
  ·rename_i x y hargs;split at hg
   ·rename_i x' y' h1 h2;simp only[v6] at hg;subst hg;simp only[bf] at h;have e1:args = #[x,y]:=by apply Array.ext';simpa using hargs
    rw[e1] at ho;exact acR ho h1 h2 h
   ·cases hg
  ·cases hg
 -- min
 ·rename_i args tys ho;split at hg
  ·rename_i x y hargs;split at hg
   ·rename_i x' y' h1 h2;simp only[v6] at hg;subst hg;have e1:args = #[x,y]:=by apply Array.ext';simpa using hargs
    rw[e1] at ho;exact acQ ho h1 h2 (by simpa only[bf,zz9,zy9] using h)
   ·cases hg
  ·cases hg
 -- makeInterface
 ·rename_i t y ho;split at hg
  ·rename_i hu;simp only[t8] at hg;obtain ⟨y',h1,rfl⟩:=hg;exact acO ho hu h1 (by simpa only[bf,zz9,zy9] using h)
  ·cases hg
 -- panic
 ·simp only[t8] at hg;obtain ⟨y',_,rfl⟩:=hg;simp[bf,fq] at h
 ·cases hg
theorem fe.append{α β:Type}{R:α→β→Prop} : ∀ {xs:List α} {ys:List β} {xs':List α} {ys':List β},fe R xs ys→fe R xs' ys'→fe R (xs++xs') (ys++ys')
 |_,_,_,_,.nil,h=>h
 |_,_,_,_,.cons h1 h2,h=>.cons h1 (h2.append h)
theorem rC{w:World}{D:aO}{E:aU} : ∀ {xs:List I} {vs:List Value},aD w D E xs vs→fe (aV w D E) xs vs
 | [],vs,h=>by simp only[aD] at h;subst h;exact .nil
 |x::xs,vs,h=>by
  simp only[aD] at h;obtain ⟨v,rest,cs,rfl,h1,h2,h3⟩:=h;exact .cons (gD h1 h2) (rC h3)
theorem NH {P : Program} {f : FuncId} (h : eV P f = true) : ∃ fn, P.funcs[f]? = some fn ∧ ¬ fn.name = "runtime.NumGoroutine" ∧ ¬ fn.body = none := by
 unfold eV at h;rw[zz0] at h
 replace h:=h.2
 cases hf:P.funcs[f]? with
 |none=>simp[hf] at h
 |some fn =>
  simp only[hf,Option.any_some,zz0,bne_iff_ne,ne_eq] at h;refine ⟨fn,rfl,by simpa using h.1,?_⟩;cases hb:fn.body <;>simp_all
theorem Dq{P:Program}{f:FuncId}(h:eV P f=true):f<1000000:=by
 unfold eV at h;rw[zz0] at h;simpa[Nat.blt_eq] using h.1
theorem oL{P:Program}{w:World}{f:FuncId}{args:Array Value}(h:eV P f=true):(callFunc f args).run P w=.ok (.enter f args) w:=by
 obtain ⟨fn,h1,h2,h3⟩:=NH h;simp[callFunc,h1,h2,h3]
theorem aT.kW{A:af}{a:Act}{w:World}{D:aO}{E:aU}(h:aT c A a w D E){n:Nat}{e:bL}{b:Nat}(he:E n=some e)(hb:e.aL=some b):c.fk b:=by
 have:=h.bG n;unfold dc at this;split at this
 ·simp[this] at he
 ·obtain ⟨b',cs,T,h1,h2,_⟩:=this;rw[h1,v6] at he;subst he;simp only[bL.aL,v6] at hb;exact hb▸h2
 ·obtain ⟨aL,h1,h2,h3⟩:=this;rw[h1,v6] at he;subst he;split at h3
  ·cases hb
  ·obtain ⟨cs,pre,rest,h4,_⟩:=h3;simp only[bL.aL,v6] at hb;exact hb▸h4
 ·obtain ⟨b',h1,h2,_⟩:=this;rw[h1,v6] at he;subst he;simp only[bL.aL,v6] at hb;exact hb▸h2
 ·obtain ⟨b',es,ck,h1,h2,_⟩:=this;rw[h1,v6] at he;subst he;simp only[bL.aL,v6] at hb;exact hb▸h2
 ·obtain ⟨b',bb,es,ck,eM,se,la,h1,h2,_⟩:=this;rw[h1,v6] at he;subst he;simp only[bL.aL,v6] at hb;exact hb▸h2
 ·obtain ⟨aL,h1,h2,h3⟩:=this;rw[h1,v6] at he;subst he;split at h3
  ·cases hb
  ·obtain ⟨cs,m,h4,_⟩:=h3;simp only[bL.aL,v6] at hb;exact hb▸h4
theorem aT.sT{A:af}{a:Act}{w:World}{D:aO}{E:aU}(h:aT c A a w D E):fw c.P w (cu E) :=
 h.fO.1.FE h.dX (fun _ hb=>hb) fun _ ⟨_,_,h1,h2⟩=>h.kW h1 h2
theorem aT.y8{A:af}{a:Act}{w:World}{D:aO}{E:aU}(h:aT c A a w D E):fw c.P w (fun _=>False):=h.sT.vA fun _ h=>h.elim
theorem aT.qN{A:af}{a:Act}{w:World}{D:aO}{E:aU}(h:aT c A a w D E){ρ:List (Nat×Nat)}{os:List (Nat×al)} : fw c.P w (cu (aE ρ os E)):=h.sT.vA fun b ⟨n,e,h1,h2⟩=>by
 simp only[aE] at h1;split at h1
 ·exact ⟨_,e,h1,h2⟩
 ·cases h1
theorem aP.ahF{f:FuncId}{avs cargs:List I}{r:I}{vs:List Value}{a:Act}{w:World}{D:aO}{E:aU}(hs:aT c A a w D E)(h:aP c.P f cargs r)(hf:r.flat=true)(hc:bO true A avs=some cargs)(ae:fe (aV w D E) avs vs) :
  Calls c.P f vs.toArray w fun e w'=>∃ v D',e=.returned v∧aT c A a w' D' E∧aV w' D' E r v:=by
 have hw:jh true A D E (fun b _=>b<w.heap.size):=by
  refine ⟨fun b o hd=>hs.dy b o hd,fun n T sz es b cap hn aE o _=>hs.gl aE rfl,fun _ n x b aN hn aE o _=>hs.gl aE rfl,fun _ n ks vs b hn aE=>hs.gl aE rfl⟩
 have hrv:=ni (E':=cq) hs (fun _ _ h=>h) hw avs cargs vs (mM _ _ ae (sC hc)) hc;refine (h.2 w _ vs hs.y8 (fun _ _ hd=>hd) hrv).mono fun e w' ⟨v,D',he,h1,h2,h3,h4⟩=>⟨v,D,he,?_,aV.flat hf h1⟩
 exact hs.grow h2 (fun _ _ hd=>hd) (fun _ _ hd _=>hd) (fun b o hd=>zu5 (hs.dy b o hd) h2.size)
mutual
theorem tp{w:World}{D:aO}(p:Nat→Bool):∀ (x:I) (cs:List Value),ai w D cq x cs→x.only p=true
 | .agg fs,cs,h=>by simp only[ai,I.only] at *;exact zX p fs cs h
 | .slice sz es,cs,h=>by
  simp only[ai,I.only] at *;obtain ⟨a,cap,_,h1,h2,h3,_⟩:=h;rcases h3 with rfl | ⟨b,off,cs',_,_,h4⟩
  ·rfl
  ·exact zX p es cs' h4
 | .ref c,cs,h=>by simp only[ai,I.only] at *;obtain ⟨b,off,cs',_,_,h⟩:=h;exact tp p c cs' h
 | .func f caps,cs,h=>by simp only[ai,I.only] at *;obtain ⟨vs,_,h⟩:=h;exact tD p caps vs h
 | .iface t v,cs,h=>by simp only[ai,I.only] at *;obtain ⟨u,cs',_,_,h⟩:=h;exact tp p v cs' h
 | .dA ks vs,cs,h=>by
  simp only[ai,I.only,zz0] at *;obtain ⟨b,es,ck,_,_,h1,h2⟩:=h;exact ⟨tD p ks _ h1,tD p vs _ h2⟩
 | .ptr n q,cs,h=>by simp only[ai,cq] at h;obtain ⟨_,_,_,h,_⟩:=h;cases h
 | .own n k,cs,h=>by simp only[ai,cq] at h;obtain ⟨_,_,h,_⟩:=h;cases h
 | .view n q sz lo k,cs,h=>by simp only[ai,cq] at h;obtain ⟨_,_,_,_,h,_⟩:=h;cases h
 | .mref n,cs,h=>by simp only[ai,cq] at h;obtain ⟨_,h,_⟩:=h;cases h
 | .dx n,cs,h=>by simp only[ai,cq] at h;obtain ⟨_,h,_⟩:=h;cases h
 | .undef,_,h | .dv,_,h | .tuple _,_,h=>by simp only[ai] at h
 | .bool _,_,_ | .int _ _,_,_ | .ak _,_,_ | .nilp,_,_ | .dO,_,_ | .dh,_,_ | .any,_,_ | .raw _,_,_ | .nils _,_,_ | .c0 _,_,_=>by simp only[I.only]
theorem zX{w:World}{D:aO}(p:Nat→Bool):∀ (xs:List I) (cs:List Value),aK w D cq xs cs→I.bY p xs=true
 | [],_,_=>rfl
 |x::xs,cs,h=>by
  simp only[aK,I.bY,zz0] at *;obtain ⟨c1,c2,_,h1,h2⟩:=h;exact ⟨tp p x c1 h1,zX p xs c2 h2⟩
theorem tD{w:World}{D:aO}(p:Nat→Bool):∀ (xs:List I) (vs:List Value),aD w D cq xs vs→I.bY p xs=true
 | [],_,_=>rfl
 |x::xs,vs,h=>by
  simp only[aD,I.bY,zz0] at *;obtain ⟨v,rest,cs,_,_,h1,h2⟩:=h;exact ⟨tp p x cs h1,tD p xs rest h2⟩
end
theorem agP{w:World}{D:aO}{x:I}{v:Value}(h:aV w D cq x v)(p:Nat→Bool):x.only p=true:=by
 cases x with
 |undef=>rfl
 |dv=>rfl
 |tuple fs=>obtain ⟨vs,_,h⟩:=h;simp only[I.only];exact tD p fs vs h
 |_=>obtain ⟨cs,_,h⟩:=h;exact tp p _ cs h
theorem aP.JL{f:FuncId}{avs cargs:List I}{r:I}{vs:List Value}{a:Act}{w:World}{D:aO}{E:aU}(hs:aT c A a w D E)(h:aP c.P f cargs r)(hc:bO false A avs=some cargs)(ae:fe (aV w D E) avs vs) :
  Calls c.P f vs.toArray w fun e w'=>∃ v D',e=.returned v∧aT c A a w' D' E∧aV w' D' E r v∧∀ p,r.only p=true:=by
 obtain ⟨hs1,hw⟩:=hs.pS;have hrv:=ni (E':=cq) hs (fun _ _ h=>h) hw avs cargs vs (mM _ _ ae (sC hc)) hc;refine (h.2 w _ vs hs.y8 hs1.dy hrv).mono fun e w' ⟨v,D',he,h1,h2,h3,h4⟩=>⟨v,fun b o=>pO A D E b o∨(w.heap.size≤b∧D' b o),he,?_,?_,agP h1⟩
 ·refine hs1.grow h2 (fun _ _ hd=>.inl hd) ?_ ?_
  ·rintro b o (hd | ⟨hle,_⟩) hlt
   ·exact hd
   ·omega
  ·rintro b o (hd | ⟨_,hd⟩)
   ·exact zu5 (hs1.dy b o hd) h2.size
   ·exact h3 b o hd
 ·refine aV.later (E:=cq) ⟨fun b o hd =>?_,fun _ _ _ _ h=>h,fun n b aN hn=>by simp[cq] at hn,fun n aL l hn=>by simp[cq] at hn,fun n b hn=>by simp[cq] at hn,fun n b hn=>by simp[cq] at hn,fun _ _ _ _ h=>h⟩ h1;rcases Nat.lt_or_ge b w.heap.size with hlt | hge
  ·exact .inl (h4 b o hd hlt)
  ·exact .inr ⟨hge,hd⟩
theorem F2(p:Nat→Bool)(os:List (Nat×al))(n:Nat):aq (os.filter fun q=>p q.1) n=if p n then aq os n else none:=by
 induction os with
 |nil=>simp[aq]
 |cons q os ih =>
  obtain ⟨k,v⟩:=q;simp only[List.filter_cons];by_cases hk:p k=true
  ·simp only[hk,if_true,aq,ih];by_cases hn:n=k
   ·subst hn;simp only[hk,if_true]
   ·simp only[if_neg hn]
  ·simp only[hk,zy0,if_false,ih,aq];by_cases hn:n=k
   ·subst hn;simp[hk]
   ·simp only[if_neg hn]
theorem vE(ns:List Nat)(os:List (Nat×al))(n:Nat):aq (dN ns os) n=if ns.contains n then none else aq os n:=by
 rw[dN,F2 (fun n => !ns.contains n)];cases ns.contains n <;>rfl
theorem qR(ns:List Nat)(os:List (Nat×al))(n:Nat):aq (iU ns os) n=if ns.contains n then aq os n else none:=F2 _ _ _
theorem GL{p:Nat→Bool} : ∀ {os:List (Nat×al)},bB p os→∀ k x,aq os k=some x→x.only p=true
 | [],_,k,x,hx=>by simp[aq] at hx
 |(j,v)::r,h,k,x,hx=>by
  simp only[bB] at h;simp only[aq] at hx;split at hx
  ·simp only[v6] at hx;subst hx;exact h.1
  ·exact GL h.2 k x hx
theorem F4(ns:List Nat):∀ (ts:List (Nat×I)) (t:Nat),cE (hU ns ts) t=if (cE ts t).only (fun n => !ns.contains n) then cE ts t else .dv
 | [],t=>by simp[hU,cE,I.only]
 |(k,v)::r,t=>by
  simp only[hU,zz9,cE];by_cases h:t=k
  ·simp only[if_pos h]
  ·simp only[if_neg h];exact F4 ns r t
theorem aT.freeze{a:Act}{w:World}{D:aO}{E:aU}{ts:List (Nat×I)}{os0:List (Nat×al)}(h:aT c (aC ts os0) a w D E)(ns:List Nat)(ho:bB (fun n => !ns.contains n) (dN ns os0)) :
  ∃ D' E',aT c (aC (hU ns ts) (dN ns os0)) a w D' E'∧jh true (aC ts (iU ns os0)) D E D':=by
 have h1:=h.pS.1;have hw1:=h.pS.2;obtain ⟨D1,hD1⟩:∃ D1,D1=pO (aC ts os0) D E:=⟨_,rfl⟩
 rw[←hD1] at h1 hw1;obtain ⟨D2,hD2⟩:∃ D2:aO,D2=fun b o=>D1 b o∨(∃ n x aN,ns.contains n=true∧aq os0 n=some (.box x)∧E n=some (.aG b aN)∧o<x.size)∨∃ n ks vs,ns.contains n=true∧aq os0 n=some (.cI ks vs)∧E n=some (.cI b)∧o=0:=⟨_,rfl⟩
 obtain ⟨E2,hE2⟩:∃ E2:aU,E2=fun n=>if ns.contains n then none else E n:=⟨_,rfl⟩
 have e2:∀ n,(!ns.contains n)=true→E2 n=E n:=fun n hn=>by rw[hE2];simp at hn;simp[hn]
 have hl:ej w D1 E2 w D2 E2:=⟨fun b o hd=>by rw[hD2];exact .inl hd,fun _ _ _ _ h=>h,fun _ _ _ h=>h,fun _ aL l h=>⟨aL,l,h,zy1 _,fun _=>rfl⟩,fun _ _ h=>h,fun _ _ h=>h,fun _ _ _ _ h=>h⟩
 have qU:∀ b o,D2 b o→D1 b o∨∃ n e q,ns.contains n=true∧E n=some e∧e.aL=some b∧c.fk b∧w.heap[b]?=some q:=fun b o hd=>by
  rw[hD2] at hd;rcases hd with hd | ⟨n,x,aN,k1,k2,k3,k4⟩ | ⟨n,ks,vs,k1,k2,k3,_⟩
  ·exact .inl hd
  ·obtain ⟨b',cs,T,q1,q2,q3,_⟩:=h.box (n:=n) (x:=x) (by simpa[aC] using k2);rw[k3] at q1;simp only[v6,bL.aG.injEq] at q1;obtain ⟨rfl,rfl⟩:=q1;obtain ⟨_,q3,_⟩:=q3.bG;exact .inr ⟨n,_,_,k1,k3,rfl,q2,q3⟩
  ·obtain ⟨b',es,ck,q1,q2,q3,_⟩:=h.map (n:=n) (ks:=ks) (vs:=vs) (by simpa[aC] using k2);rw[k3] at q1;cases q1;exact .inr ⟨n,_,_,k1,k3,rfl,q2,q3⟩
 refine ⟨D2,E2,⟨h1.sz,h1.fg,fun t =>?_,h1.dX,fun b o hd hm =>?_,fun b o hd =>?_,fun n =>?_,fun n m e e' b g1 g2 g3 g4 =>?_,fun n e hn =>?_,h1.fu,fun b o hd=>hl.df b o (h1.cR b o hd),h1.fO,h1.gq⟩,?_⟩
 ·simp only[aC,F4];have ht:=h1.eG t;simp only[aC] at ht;split
  ·rename_i hp;exact aV.later hl (aV.eF e2 hp ht)
  ·simp[aV]
 ·rcases qU b o hd with hd | ⟨n,e,q,_,_,_,k,_⟩
  ·exact h1.df b o hd hm
  ·exact absurd k hm
 ·rcases qU b o hd with hd | ⟨n,e,q,_,_,_,_,k⟩
  ·exact h1.dy b o hd
  ·exact fG k
 ·simp only[aC,vE];by_cases hn:ns.contains n=true
  ·simp only[hn,if_true,dc];rw[hE2];simp only[hn,if_true]
  ·have hnb:(!ns.contains n)=true:=by simpa using hn
   simp only[hn,zy0,if_false];have hob:=h1.bG n;simp only[aC] at hob;cases hx:aq os0 n with
   |none=>rw[hx] at hob;simp only[dc] at hob ⊢;rw[e2 n hnb];exact hob
   |some x =>
    have hon:=GL ho n x (by rw[vE,if_neg hn];exact hx);have nD:∀ e b,E n=some e→e.aL=some b→∀ o,D2 b o→D1 b o:=fun e b he hb o hd=>by
     rcases qU b o hd with hd | ⟨m,e',q,k1,k3,k2,_⟩
     ·exact hd
     ·have:=h.cV n m e _ b he k3 hb k2;subst this;exact absurd k1 hn
    rw[hx] at hob;cases x with
    |box x =>
     obtain ⟨b,cs,T,k1,k2,k3,k4,k5⟩:=hob;exact ⟨b,cs,T,(e2 n hnb).trans k1,k2,k3,ai.later hl _ _ (ai.eF e2 _ _ (by simpa[al.only] using hon) k4),fun o hd=>k5 o (nD _ b k1 rfl o hd)⟩
    |b6 T sz es =>
     obtain ⟨aL,k1,k2,k3⟩:=hob;refine ⟨aL,(e2 n hnb).trans k1,k2,?_⟩;cases aL with
     |none=>exact k3
     |some bc =>
      obtain ⟨b,cap⟩:=bc;obtain ⟨cs,pre,rest,q1,q2,q3,q4,q5,q6,q7,q8⟩:=k3;exact ⟨cs,pre,rest,q1,q2,q3,aK.later hl _ _ (aK.eF e2 _ _ (by simpa[al.only] using hon) q4),q5,q6,q7,fun o hd=>q8 o (nD _ b k1 rfl o hd)⟩
    |eN T xs =>
     obtain ⟨aL,k1,k2,k3⟩:=hob;refine ⟨aL,(e2 n hnb).trans k1,k2,?_⟩;cases aL with
     |none=>exact k3
     |some bc =>
      obtain ⟨b,cap⟩:=bc;obtain ⟨cs,r,q1,q2,q3,q4,q5,q6,q7⟩:=k3;exact ⟨cs,r,q1,q2,q3,q4,q5,q6,fun o hd=>q7 o (nD _ b k1 rfl o hd)⟩
    |dU x =>
     obtain ⟨b,k1,k2,k3,k4,k5⟩:=hob;exact ⟨b,(e2 n hnb).trans k1,k2,k3,k4,fun o hd=>k5 o (nD _ b k1 rfl o hd)⟩
    |cI ks vs =>
     obtain ⟨b,es,ck,k1,k2,k3,k4,k5,k6,k7⟩:=hob;simp only[al.only,zz0] at hon;exact ⟨b,es,ck,(e2 n hnb).trans k1,k2,k3,k4,aD.later hl _ _ (aD.eF e2 _ _ hon.1 k5),aD.later hl _ _ (aD.eF e2 _ _ hon.2 k6),fun o hd=>k7 o (nD _ b k1 rfl o hd)⟩
    |it ks vs left cur =>
     obtain ⟨r,b,es,ck,eM,se,la,k1,k2,k3,k4,k5,k6,k7,k8,k9,k9',k10⟩:=hob;simp only[al.only,zz0] at hon;exact ⟨r,b,es,ck,eM,se,la,(e2 n hnb).trans k1,k2,k3,k4.later hl,aD.later hl _ _ (aD.eF e2 _ _ hon.1 k5),aD.later hl _ _ (aD.eF e2 _ _ hon.2 k6),k7,k8,k9,k9',fun o hd=>k10 o (nD _ r k1 rfl o hd)⟩
 ·have mi:∀ n e,E2 n=some e→E n=some e:=fun n e he=>by
   rw[hE2] at he;simp only at he;split at he
   ·cases he
   ·exact he
  exact h.cV n m e e' b (mi n e g1) (mi m e' g2) g3 g4
 ·by_cases hm:ns.contains n=true
  ·left;rw[hE2];simp only[hm,if_true]
  ·rw[e2 n (by simpa using hm)];exact h.ev n e hn
 ·refine ⟨fun b o hd=>by rw[hD2];exact .inl (hw1.df b o hd),fun n T sz es b cap hn aE o hlt =>?_,fun _ n x b aN hn aE o hlt =>?_,fun _ n ks vs b hn aE =>?_⟩
  ·simp only[aC,qR] at hn;split at hn
   ·rw[hD2];exact .inl (hw1.b6 n T sz es b cap hn aE o hlt)
   ·cases hn
  ·simp only[aC,qR] at hn;split at hn
   ·rename_i hk;rw[hD2];exact .inr (.inl ⟨n,x,aN,hk,hn,aE,hlt⟩)
   ·cases hn
  ·simp only[aC,qR] at hn;split at hn
   ·rename_i hk;rw[hD2];exact .inr (.inr ⟨n,ks,vs,hk,hn,aE,rfl⟩)
   ·cases hn
theorem aP.ahG{f:FuncId}{avs cargs:List I}{r:I}{vs:List Value}{a:Act}{w:World}{D:aO}{E:aU}{ts:List (Nat×I)}{os0:List (Nat×al)}(hs:aT c (aC ts os0) a w D E)(ns:List Nat)(ho:bB (fun n => !ns.contains n) (dN ns os0))
  (h:aP c.P f cargs r) (hc:bO true (aC ts (iU ns os0)) avs=some cargs) (ae:fe (aV w D E) avs vs) :
  Calls c.P f vs.toArray w fun e w'=>∃ v D' E',e=.returned v∧aT c (aC (hU ns ts) (dN ns os0)) a w' D' E'∧aV w' D' E' r v:=by
 obtain ⟨D1,E1,hs1,hw⟩:=hs.freeze ns ho;have hu:en (aC ts (iU ns os0)) (aC ts os0):=fun n x hx=>by
  simp only[aC,qR] at hx ⊢;split at hx
  ·exact hx
  ·cases hx
 have hrv:=ni (E':=cq) hs hu hw avs cargs vs (mM _ _ ae (sC hc)) hc;refine (h.2 w _ vs hs.y8 hs1.dy hrv).mono fun e w' ⟨v,D',he,h1,h2,h3,h4⟩=>⟨v,fun b o=>D1 b o∨(w.heap.size≤b∧D' b o),E1,he,?_,?_⟩
 ·refine hs1.grow h2 (fun _ _ hd=>.inl hd) ?_ ?_
  ·rintro b o (hd | ⟨hle,_⟩) hlt
   ·exact hd
   ·omega
  ·rintro b o (hd | ⟨_,hd⟩)
   ·exact zu5 (hs1.dy b o hd) h2.size
   ·exact h3 b o hd
 ·refine aV.later (E:=cq) ⟨fun b o hd =>?_,fun _ _ _ _ h=>h,fun n b aN hn=>by simp[cq] at hn,fun n aL l hn=>by simp[cq] at hn,fun n b hn=>by simp[cq] at hn,fun n b hn=>by simp[cq] at hn,fun _ _ _ _ h=>h⟩ h1;rcases Nat.lt_or_ge b w.heap.size with hlt | hge
  ·exact .inl (h4 b o hd hlt)
  ·exact .inr ⟨hge,hd⟩
theorem xt{a:Act}{w:World}{D D1:aO}{E:aU}{ts:List (Nat×I)}{os0 os:List (Nat×al)}{ρ:List (Nat×Nat)}{aG:Bool}{A0:af}(hs:aT c (aC ts os0) a w D E)(hu:en A0 (aC ts os0))(hD:∀ b o,D b o→D1 b o)(hw:jh aG A0 D E D1) :
  ∀ (avs cargs:List I) (vs:List Value),gZ aG A0 ρ os avs cargs→fe (aV w D E) avs vs→aD w D1 (aE ρ os E) cargs vs
 | [],[],vs,_,ae=>by cases ae;simp[aD]
 | [],_::_,_,h,_=>by simp[gZ] at h
 |_::_,[],_,h,_=>by simp[gZ] at h
 |x::xs,y::ys,vs,h,ae=>by
  cases ae with
  |cons ae hvs =>
  rename_i v vs;simp only[gZ] at h;have ih:=xt hs hu hD hw xs ys vs h.2 hvs;have hl:ej w D (aE ρ os E) w D1 (aE ρ os E):=⟨hD,fun _ _ _ _ h=>h,fun _ _ _ h=>h,fun _ aL l h=>⟨aL,l,h,zy1 _,fun _=>rfl⟩,fun _ _ h=>h,fun _ _ h=>h,fun _ _ _ _ h=>h⟩
  have h1:∃ cs,bm y v cs∧ai w D1 (aE ρ os E) y cs:=by
   rcases h.1 with ⟨k1,k2,k3⟩ | k
   ·rw[k1] at ae;have h2:=aV.later hl ((aV.aQ (w:=w) (D:=D) (p:=ay os) (ρ:=bp ρ) (E:=aE ρ os E) (E':=E) (fun n hn=>by simp only[aE,hn,if_true]) k2).1 ae);cases y <;>simp only[aV] at h2 <;>first | (simp[I.cm] at k3;done) | exact h2
   ·have h2:aD w D E [x] [v]:=mM [x] [v] (.cons ae .nil) (by
     intro z hz;simp only[zy7] at hz;subst hz;cases z <;>simp_all[bh,I.cm])
    have h3:=ni (E':=aE ρ os E) hs hu hw [x] [y] [v] h2 (by simp[bO,k]);simp only[aD] at h3;obtain ⟨v',rest,cs,e,k1,k2,_⟩:=h3;simp only[zx6] at e;obtain ⟨rfl,_⟩:=e;exact ⟨cs,k1,k2⟩
  obtain ⟨cs,k1,k2⟩:=h1;simp only[aD];exact ⟨v,vs,cs,rfl,k1,k2,ih⟩
theorem en.drop(ts:List (Nat×I))(ns:List Nat)(os0:List (Nat×al)):en (aC ts (dN ns os0)) (aC ts os0):=fun n x hx=>by
 simp only[aC,vE] at hx ⊢;split at hx
 ·cases hx
 ·exact hx
theorem oW.use{run:Array Value→World→(Ending→World→Prop)→Prop}{since:World→aO→aU→Prop}{avs cargs:List I}{post:cv}{vs:List Value}{a:Act}{w:World}{D:aO}{E:aU}{ts:List (Nat×I)}{os0 os:List (Nat×al)}{ρ:List (Nat×Nat)}
  (hs:aT c (aC ts os0) a w D E) (h:oW run since cargs os post) (aG:Bool) (hmono:∀ {vs w R R'},run vs w R→(∀ e w,R e w→R' e w)→run vs w R') (hsince:(aG=true→∀ D,since w D (aE ρ os E))∧(aG=false→since w (pO (aC ts os0) D E) (aE ρ os E)))
  (hg:fj ρ os os0) (ha:gZ aG (aC ts (dN (j2 ρ os) os0)) ρ os avs cargs) (hb:∀ r os',post r os'→dG aG ρ os os0 r os') (ae:fe (aV w D E) avs vs) :
  run vs.toArray w fun e w'=>∃ v r os' D2 E2,e=.returned v∧post r os'∧aT c (aC ts (dp ρ os'++os0)) a w' D2 E2∧aV w' D2 E2 (r.aQ (bp ρ)) v∧∀ m e,aE ρ os E m=some e→ay os' m=true→∃ e',E2 (bp ρ m)=some e'∧e.eE e':=by
 have notName:∀ n,(j2 ρ os).contains n=false→∀ m,ay os m=true→bp ρ m≠n:=fun n hn m hm he=>by
  obtain ⟨q,hq,rfl⟩:=yX.1 hm;have:(j2 ρ os).contains n=true:=by simp only[j2,List.contains_iff_mem,zx4];exact ⟨q,hq,he⟩
  rw[this] at hn;cases hn
 have other:∀ {D:aO},aT c (aC ts os0) a w D E→∀ n e b x,aq (dN (j2 ρ os) os0) n=some x→E n=some e→e.aL=some b→¬ cu (aE ρ os E) b:=fun hs n e b x hx he hb ho=>by
  obtain ⟨m,e',h1,h2,hb',_⟩:=hs.vb hg ho;rw[vE] at hx;split at hx
  ·cases hx
  ·rename_i hc;have:=hs.cV n (bp ρ m) e _ b he h2 hb hb';exact notName n (by simpa using hc) m h1 this.symm
 cases aG with
 |true =>
  obtain ⟨D1,hD1⟩:∃ D1:aO,D1=fun b o=>D b o∨(b<w.heap.size∧¬ cu (aE ρ os E) b):=⟨_,rfl⟩
  have hD:∀ b o,D b o→D1 b o:=fun b o hd=>by rw[hD1];exact .inl hd
  have hw:jh true (aC ts (dN (j2 ρ os) os0)) D E D1:=by
   refine ⟨hD,fun n T sz es b cap hn aE o _ =>?_,fun _ n x b aN hn aE o _ =>?_,fun _ n ks vs b hn aE =>?_⟩
   ·rw[hD1];exact .inr ⟨hs.gl aE rfl,other hs n _ b _ hn aE rfl⟩
   ·rw[hD1];exact .inr ⟨hs.gl aE rfl,other hs n _ b _ hn aE rfl⟩
   ·rw[hD1];exact .inr ⟨hs.gl aE rfl,other hs n _ b _ hn aE rfl⟩
  have hrv:=xt hs (en.drop ts _ os0) hD hw avs cargs vs ha ae;refine hmono (h w D1 (aE ρ os E) vs (hsince.1 rfl _) (fun b o hd=>by
   rw[hD1] at hd;rcases hd with hd | hd
   ·exact hs.dy b o hd
   ·exact hd.1) (hs.Fj hg hD fun b o hd ho=>by
    rw[hD1] at hd;rcases hd with hd | hd
    ·exact hd
    ·exact absurd ho hd.2) hrv) ?_
  rintro e w' ⟨v,D',E',r,os',he,hp,h1,h2,h3,h4,h5,h6,h7,h8⟩;obtain ⟨D2,E2,k1,k2⟩:=hs.mY hg hD (fun h=>by cases h) (hb r os' hp) h1 h2 h3 h5 h4 h8 h6 h7;exact ⟨v,r,os',D2,E2,he,hp,k1,k2⟩
 |false =>
  obtain ⟨hs1,hw⟩:=hs.pS;have hw':jh false (aC ts (dN (j2 ρ os) os0)) D E (pO (aC ts os0) D E):=⟨hw.df,fun n T sz es b cap hn aE o hlt=>hw.b6 n T sz es b cap (en.drop ts _ os0 n _ hn) aE o hlt,(fun hb=>by cases hb),fun hb=>by cases hb⟩
  have hrv:=xt hs (en.drop ts _ os0) hw.df hw' avs cargs vs ha ae;refine hmono (h w _ (aE ρ os E) vs (hsince.2 rfl) hs1.dy (hs1.Fj hg (fun _ _ h=>h) fun b o hd _=>hd) hrv) ?_;rintro e w' ⟨v,D',E',r,os',he,hp,h1,h2,h3,h4,h5,h6,h7,h8⟩;obtain ⟨D2,E2,k1,k2⟩:=hs1.mY hg (fun _ _ h=>h) (fun _ _ _ h=>h) (hb r os' hp) h1 h2 h3 h5 h4 h8 h6 h7;exact ⟨v,r,os',D2,E2,he,hp,k1,k2⟩
theorem aT.since{A:af}{a:Act}{w:World}{D:aO}{E E':aU}(h:aT c A a w D E)(aE:∀ n,E' n=E n∨E' n=none):By c w D E' :=
 ⟨h.dX,h.cR,h.df,fun n e hn=>by
  rcases aE n with k | k
  ·rw[k];exact h.ev n e hn
  ·exact .inl k,h.gq,h.sT.vA fun b ⟨n,e,h1,h2⟩=>by
   rcases aE n with k | k
   ·rw[k] at h1;exact ⟨n,e,h1,h2⟩
   ·rw[k] at h1;cases h1⟩
theorem nj(c:cP)(f:FuncId):c.bo.fn f:=by unfold cP.bo;split <;>trivial
theorem xW(c:cP):c.bo.depth.isSome=true→1≤9:=fun _=>by omega
theorem kJ{a:Act}{w:World} : ∀ f,o.about c.P w a.eval=some f→c.bo.fn f:=fun f _=>nj c f
theorem kZ{g:bH}(hg:cU c.P o=some g)(r:Option Nat)(ρ:Operand→Value):o.semAt r ρ=execOp ρ o:=by
 cases r with
 |none=>rfl
 |some l =>
  refine Oper.semAt_some l ρ o fun cl h =>?_;unfold cU at hg;rw[h] at hg;simp at hg
theorem Dr{f:FuncId}{args:Array Value}{w:World}{R:Ending→World→Prop}(h:Calls c.P f args w R):CallsIn c.bo (9-1) c.P f args w R:=by
 have h1:CallsIn Fence.wide (9-1) c.P f args w R:=callsIn_wide.2 h;unfold cP.bo;split
 ·exact h1
 ·exact h1
theorem uh.mono{P:Program}{v:Value}{vs:Array Value}{w:World}{R R':Ending→World→Prop}(h:uh P v vs w R)(hr:∀ e w,R e w→R' e w):uh P v vs w R':=by
 obtain ⟨l,h1,fn,tmps,assign,body,h2,h3⟩:=h;exact ⟨l,h1,fn,tmps,assign,body,h2,h3.mono hr⟩
theorem agI{l:Nat}{f:FuncId}{tmps:Array Value}{assign body:Code}{w:World}{R:Ending→World→Prop}(h:RoundIn Fence.wide 9 c.P l f tmps assign body w R):RoundIn c.bo (9-1) c.P l f tmps assign body w R:=by
 have h1:RoundIn Fence.wide (9-1) c.P l f tmps assign body w R:=⟨h.1,fun cc cs _=>h.2 cc cs (room_wide _)⟩
 unfold cP.bo;split
 ·exact h1
 ·exact h1
theorem iq.wp{B:af}{g:bH}(hg:cU c.P o=some g)(h:iq c A o B){a:Act}{w:World}{K:Act→World→Prop}{Q:Exit→Act→World→Prop}(hs:bP c A a w)(hK:∀ a w,bP c B a w→K a w):o.wpIn c.bo 9 c.P a w K Q:=by
 obtain ⟨D,E,hs⟩:=hs;obtain ⟨w',h⟩:=h a w D E hs;refine ⟨kJ,?_⟩;rw[kZ hg];rcases h with ⟨v,h1,h2⟩ | ⟨h1,h2⟩
 ·rw[h1];exact hK _ _ h2
 ·rw[h1];exact hK _ _ h2
theorem xH{dr:Bool}{K:af→Prop}{f:FuncId}{avs:List I}{a1 a2:Option (List I)}{vs:List Value}{dst:Option Nat}{rest:List aF}{a:Act}{w:World}{Kw:Act→World→Prop}{Q:Exit→Act→World→Prop}{g:bH}(hg:cU c.P o=some g)(h1:bO true A avs=a1)(h2:bO false A avs=a2)
  (hs:∀ D E,aT c A a w D E→fe (aV w D E) avs vs) (hsim:bP c A a w) (hwp:aY c.P c.Y dr K (.call f avs a1 a2 dst rest A)) (hd:o.dst=dst) (hdn:∀ k,dst=some k→k<c.n)
  (hrun:eV c.P f=true→(execOp a.eval o).run c.P w=.ok (.enter f vs.toArray) w)
  (hK:∀ B a' w',aY c.P c.Y dr K (au rest B)→bP c B a' w'→Kw a' w'):o.wpIn c.bo 9 c.P a w Kw Q:=by
 obtain ⟨D,E,hsw⟩:=hsim;have oP:∀ {R:Ending→World→Prop},eV c.P f=true→Calls c.P f vs.toArray w R→(∀ e w',R e w'→∃ v,e=.returned v∧Kw (a.put o.dst v) w')→o.wpIn c.bo 9 c.P a w Kw Q:=fun {R} hc hcl hR=>by
  refine ⟨kJ,?_⟩;rw[kZ hg,hrun hc,Oper.uponIn_enter];refine ⟨xW c,Dr (hcl.mono fun e w' he =>?_)⟩;obtain ⟨v,rfl,ae⟩:=hR e w' he;exact ae
 cases hwp with
 |flat r hspec hflat hrest =>
  refine oP hspec.1 (hspec.ahF hsw hflat h1 (hs D E hsw)) ?_;rintro e w' ⟨v,D',he,hs',ae⟩;refine ⟨v,he,?_⟩;rw[hd];exact hK _ _ _ hrest ⟨D',E,hs'.aR hdn ae⟩
 |lead r hspec hrest =>
  refine oP hspec.1 (hspec.JL hsw h2 (hs D E hsw)) ?_;rintro e w' ⟨v,D',he,hs',ae,_⟩;refine ⟨v,he,?_⟩;rw[hd];exact hK _ _ _ hrest ⟨D',E,hs'.aR hdn ae⟩
 |vy r hdr hspec hrest =>
  refine oP hspec.1 (hspec.JL hsw h2 (hs D E hsw)) ?_;rintro e w' ⟨v,D',he,hs',ae,ho⟩;refine ⟨v,he,?_⟩;rw[hd];exact hK _ _ _ (hrest ho) ⟨D',E,hs'.aR hdn ae⟩
 |kQ ns r hdr hspec hf ho hrest =>
  refine oP hspec.1 (hspec.ahG hsw ns ho hf (hs D E hsw)) ?_;rintro e w' ⟨v,D',E',he,hs',ae⟩;refine ⟨v,he,?_⟩;rw[hd];exact hK _ _ _ hrest ⟨D',E',hs'.aR hdn ae⟩
 |bG aG ρ os cargs post hdr hspec hgv ha hb hrest =>
  refine oP hspec.1 (hspec.2.use hsw aG (fun h=>h.mono) ⟨fun _ _=>hsw.qN,fun _=>hsw.qN⟩ hgv ha hb (hs D E hsw)) ?_;rintro e w' ⟨v,r,os',D2,E2,he,hp,hs',ae,_⟩;refine ⟨v,he,?_⟩;rw[hd];exact hK _ _ _ (hrest r os' hp) ⟨D2,E2,hs'.aR hdn ae⟩
theorem NJ{dr:Bool}{K:af→Prop}{v:Value}{avs:List I}{vs:List Value}{dst:Option Nat}{rest:List aF}{a:Act}{w:World}{Kw:Act→World→Prop}{Q:Exit→Act→World→Prop}{g:bH}(hg:cU c.P o=some g)
  (hs:∀ D E,aT c A a w D E→fe (aV w D E) avs vs) (hsim:bP c A a w) (hwp:aY c.P c.Y dr K (.nc v avs dst rest A)) (hd:o.dst=dst) (hdn:∀ k,dst=some k→k<c.n)
  (hrun:∀ l,v=.func (.yield l) #[] #[]→(execOp a.eval o).run c.P w=(Instr.yield l vs.toArray).run c.P w)
  (hK:∀ B a' w',aY c.P c.Y dr K (au rest B)→bP c B a' w'→Kw a' w'):o.wpIn c.bo 9 c.P a w Kw Q:=by
 obtain ⟨D,E,hsw⟩:=hsim;cases hwp with
 |w0 os cargs post hdr hY hgv ha hb hrest =>
  have hyr:=(hsw.fO.2 _ _ _ _ hY).use (ρ:=[]) hsw false (fun h=>h.mono) ⟨(fun h=>by cases h),fun _=>hsw.pS.1.since (fun n=>by simp only[aE,bp];split <;>simp)⟩ hgv ha hb (hs D E hsw);obtain ⟨l,rfl,fn,tmps,assign,body,h2,h3⟩:=hyr;refine ⟨kJ,?_⟩;rw[kZ hg,hrun l rfl,h2,Oper.uponIn_round];refine ⟨xW c,agI (h3.mono fun e w' he =>?_)⟩;obtain ⟨v,r,os',D2,E2,rfl,hp,hs',ae,_⟩:=he;rw[hd];exact hK _ _ _ (hrest r os' hp) ⟨D2,E2,hs'.aR hdn ae⟩
end
section
variable {c:cP} {A:af} {o:Oper}
theorem qo{P:Program}{n:Nat}{br:Array Oper}{g:aF}(h:na P n br o=some g):cU P o=some g.op∧g.dst=o.dst∧(∀ k,o.dst=some k→k<n) ∧
  ((o.guard=none∧g.guard=none)∨∃ j b t,o.guard=some (j,b)∧(br[j]?).bind (·.dst)=some t∧g.guard=some (t,b)):=by
 unfold na at h;split at h
 ·cases h
 rename_i g' hg';split at h
 case isFalse=>cases h
 rename_i hd;have hdst:∀ k,o.dst=some k→k<n:=by
  intro k hk;rw[hk] at hd;simpa[DV] using hd
 split at h
 ·rename_i hgd;simp only[v6] at h;subst h;exact ⟨hg',rfl,hdst,.inl ⟨hgd,rfl⟩⟩
 ·rename_i j b hgd;split at h
  ·rename_i t ht;simp only[v6] at h;subst h;exact ⟨hg',rfl,hdst,.inr ⟨j,b,t,hgd,ht,rfl⟩⟩
  ·cases h
theorem E0{dr:Bool}{K:af→Prop}{op:bH}{dst:Option Nat}{rest:List aF}{a:Act}{w:World}{Kw:Act→World→Prop}{Q:Exit→Act→World→Prop}(hop:cU c.P o=some op)(hd:o.dst=dst)(hdn:∀ k,dst=some k→k<c.n)
  (hsim:bP c A a w) (hK:∀ B a' w',aY c.P c.Y dr K (au rest B)→bP c B a' w'→Kw a' w') (h:aY c.P c.Y dr K (cL (bf A op) fun v=>au rest (A.aR dst v))):o.wpIn c.bo 9 c.P a w Kw Q:=by
 cases ae:bf A op with
 |some v =>
  rw[ae] at h;exact ((G8 hop ae).does (by rw[hd];exact hdn)).wp hop hsim (fun a' w' hs=>by rw[hd] at hs;exact hK _ a' w' h hs)
 |none=>rw[ae] at h;cases h
theorem ab2{dr:Bool}{K:af→Prop}{dst:Option Nat}{rest:List aF}{a:Act}{w:World}{Kw:Act→World→Prop}{Q:Exit→Act→World→Prop}{z:I}(hop:cU c.P o=some (.alloc z))(hd:o.dst=dst)(hdn:∀ k,dst=some k→k<c.n)
  (hwp:aY c.P c.Y dr K (aX A dst (.alloc z) rest (au rest))) (hsim:bP c A a w) (hK:∀ B a' w',aY c.P c.Y dr K (au rest B)→bP c B a' w'→Kw a' w'):o.wpIn c.bo 9 c.P a w Kw Q:=by
 have hop0:=hop;simp only[aX] at hwp;split at hwp
 case h_2=>cases hwp
 rename_i d;split at hwp
 case h_2=>cases hwp
 rename_i hf;unfold cU at hop;split at hop <;>try (first | (simp at hop;done) | ((repeat' split at hop) <;>simp at hop;done))
 rename_i t ho;simp only[t8,bH.alloc.injEq] at hop;obtain ⟨z',hz,rfl⟩:=hop;exact (RG ho hz hd (hdn d rfl) hf).wp hop0 hsim (fun a' w' hs=>hK _ a' w' hwp hs)
theorem ab5{dr:Bool}{K:af→Prop}{dst:Option Nat}{rest:List aF}{a:Act}{w:World}{Kw:Act→World→Prop}{Q:Exit→Act→World→Prop}{x:aJ}(hop:cU c.P o=some (.box x))(hd:o.dst=dst)(hdn:∀ k,dst=some k→k<c.n)
  (hwp:aY c.P c.Y dr K (aX A dst (.box x) rest (au rest))) (hsim:bP c A a w) (hK:∀ B a' w',aY c.P c.Y dr K (au rest B)→bP c B a' w'→Kw a' w'):o.wpIn c.bo 9 c.P a w Kw Q:=by
 have hop0:=hop;simp only[aX] at hwp;split at hwp
 case h_2=>cases hwp
 rename_i d;split at hwp
 case h_2=>cases hwp
 rename_i hf;split at hwp
 case isFalse=>cases hwp
 rename_i ae;unfold cU at hop;split at hop <;>try (first | (simp at hop;done) | ((repeat' split at hop) <;>simp at hop;done))
 rename_i t y ho;simp only[t8,bH.box.injEq] at hop;obtain ⟨z',hz,rfl⟩:=hop;exact (RM ho hz ae hd (hdn d rfl) hf).wp hop0 hsim (fun a' w' hs=>hK _ a' w' hwp hs)
theorem ack{dr:Bool}{K:af→Prop}{dst:Option Nat}{rest:List aF}{a:Act}{w:World}{Kw:Act→World→Prop}{Q:Exit→Act→World→Prop}{s:Option Nat}{x v:aJ}(hop:cU c.P o=some (.aS s x v))(hd:o.dst=dst)(hdn:∀ k,dst=some k→k<c.n)
  (hwp:aY c.P c.Y dr K (aX A dst (.aS s x v) rest (au rest))) (hsim:bP c A a w) (hK:∀ B a' w',aY c.P c.Y dr K (au rest B)→bP c B a' w'→Kw a' w'):o.wpIn c.bo 9 c.P a w Kw Q:=by
 have hop0:=hop;simp only[aX] at hwp;split at hwp
 case h_2=>cases hwp
 split at hwp
 case h_2=>cases hwp
 rename_i n p hp;split at hwp
 case h_2=>cases hwp
 rename_i b hb;split at hwp
 case h_2=>cases hwp
 rename_i old hat;split at hwp
 case isFalse=>cases hwp
 rename_i hok;unfold cU at hop;split at hop <;>try (first | (simp at hop;done) | ((repeat' split at hop) <;>simp at hop;done))
 rename_i t y z ho;split at hop
 case h_2=>cases hop
 rename_i s' x' v' h1 h2 h3;split at hop
 case isFalse=>cases hop
 rename_i hk;simp only[v6,bH.aS.injEq] at hop;obtain ⟨rfl,rfl,rfl⟩:=hop;exact (RW ho h1 hk h2 h3 hp hb hat hok.1 hok.2.1 hok.2.2 hd).wp hop0 hsim (fun a' w' hs=>hK _ a' w' hwp hs)
theorem ab6{dr:Bool}{K:af→Prop}{dst:Option Nat}{rest:List aF}{a:Act}{w:World}{Kw:Act→World→Prop}{Q:Exit→Act→World→Prop}{f:FuncId}{args:List aJ}(hop:cU c.P o=some (.call f args))(hd:o.dst=dst)(hdn:∀ k,dst=some k→k<c.n)
  (hwp:aY c.P c.Y dr K (aX A dst (.call f args) rest (au rest))) (hsim:bP c A a w) (hK:∀ B a' w',aY c.P c.Y dr K (au rest B)→bP c B a' w'→Kw a' w'):o.wpIn c.bo 9 c.P a w Kw Q:=by
 have hop0:=hop;simp only[aX] at hwp;unfold cU at hop;split at hop <;>try (first | (simp at hop;done) | ((repeat' split at hop) <;>simp at hop;done))
 rename_i f' xs ts ho;split at hop
 case isFalse=>simp at hop
 simp only[t8,bH.call.injEq] at hop;obtain ⟨ys,hys,rfl,rfl⟩:=hop;refine xH (vs:=xs.toList.map a.eval) hop0 rfl rfl (fun D E hs=>ma hs xs.toList ts.toList ys hys) hsim hwp hd hdn (fun hc =>?_) hK;have e:xs.map a.eval=(xs.toList.map a.eval).toArray:=by apply Array.ext';simp
 simp only[execOp,ho,resolve,Act.eval,Deferred.ofValue,Sem.run_bind,Sem.run_pure,Result.andThen_ok,invoke,Array.append_empty,Array.empty_append,oL hc];rw[←e]
theorem acm{dr:Bool}{K:af→Prop}{dst:Option Nat}{rest:List aF}{a:Act}{w:World}{Kw:Act→World→Prop}{Q:Exit→Act→World→Prop}{f:FuncId}{args:List aJ}(hop:cU c.P o=some (.jf f args))(hd:o.dst=dst)(hdn:∀ k,dst=some k→k<c.n)
  (hwp:aY c.P c.Y dr K (aX A dst (.jf f args) rest (au rest))) (hsim:bP c A a w) (hK:∀ B a' w',aY c.P c.Y dr K (au rest B)→bP c B a' w'→Kw a' w'):o.wpIn c.bo 9 c.P a w Kw Q:=by
 have hop0:=hop;simp only[aX] at hwp;unfold cU at hop;split at hop <;>try (first | (simp at hop;done) | ((repeat' split at hop) <;>simp at hop;done))
 rename_i f' xs ts ho;split at hop
 case isTrue=>simp at hop
 simp only[t8,bH.jf.injEq] at hop;obtain ⟨ys,hys,rfl,rfl⟩:=hop;obtain ⟨D,E,hs⟩:=hsim;cases hwp with
 |ext r hdr hx hw =>
  obtain ⟨v,g1,g2⟩:=hx c a w D E (xs.toList.map a.eval) rfl hs (ma hs xs.toList ts.toList ys hys);have e:xs.map a.eval=(xs.toList.map a.eval).toArray:=by apply Array.ext';simp
  have hrun:(execOp a.eval o).run c.P w=.ok (.value v) w:=by
   simp only[execOp,ho,resolve,Act.eval,Deferred.ofValue,Sem.run_bind,Sem.run_pure,Result.andThen_ok,invoke,Array.append_empty,Array.empty_append];rw[←e] at g1;exact g1
  refine ⟨kJ,?_⟩;rw[kZ hop0,hrun,Oper.uponIn_value];exact hK _ _ _ hw ⟨D,E,by rw[hd];exact hs.aR hdn g2⟩
theorem acb{dr:Bool}{K:af→Prop}{dst:Option Nat}{rest:List aF}{a:Act}{w:World}{Kw:Act→World→Prop}{Q:Exit→Act→World→Prop} (hop:cU c.P o=some (.mA))(hd:o.dst=dst)(hdn:∀ k,dst=some k→k<c.n)
  (hwp:aY c.P c.Y dr K (aX A dst (.mA) rest (au rest))) (hsim:bP c A a w) (hK:∀ B a' w',aY c.P c.Y dr K (au rest B)→bP c B a' w'→Kw a' w'):o.wpIn c.bo 9 c.P a w Kw Q:=by
 have hop0:=hop;simp only[aX] at hwp;split at hwp
 case h_2=>cases hwp
 rename_i d;split at hwp
 case h_2=>cases hwp
 rename_i hf;unfold cU at hop;split at hop <;>try (first | (simp at hop;done) | ((repeat' split at hop) <;>simp at hop;done))
 rename_i t ho;exact (RS ho hd (hdn d rfl) hf).wp hop0 hsim (fun a' w' hs=>hK _ a' w' hwp hs)
theorem ace{dr:Bool}{K:af→Prop}{dst:Option Nat}{rest:List aF}{a:Act}{w:World}{Kw:Act→World→Prop}{Q:Exit→Act→World→Prop}{e:TypeId}{bytes:Nat}{z:I}{n:aJ}(hop:cU c.P o=some (.kX e bytes z n))(hd:o.dst=dst)(hdn:∀ k,dst=some k→k<c.n)
  (hwp:aY c.P c.Y dr K (aX A dst (.kX e bytes z n) rest (au rest))) (hsim:bP c A a w) (hK:∀ B a' w',aY c.P c.Y dr K (au rest B)→bP c B a' w'→Kw a' w'):o.wpIn c.bo 9 c.P a w Kw Q:=by
 have hop0:=hop;simp only[aX] at hwp;split at hwp
 case h_2=>cases hwp
 rename_i d;split at hwp
 case h_2=>cases hwp
 rename_i hf;split at hwp
 case h_2=>cases hwp
 rename_i k m hn;split at hwp
 case isFalse=>cases hwp
 rename_i hc;unfold cU at hop;split at hop <;>try (first | (simp at hop;done) | ((repeat' split at hop) <;>simp at hop;done))
 rename_i t l l' ho;split at hop
 case h_2=>cases hop
 rename_i e' n' hu hl;split at hop
 case h_2=>cases hop
 rename_i z' hz;split at hop
 case isFalse=>(repeat' split at hop) <;>simp at hop
 rename_i hc2;simp only[v6,bH.kX.injEq] at hop;obtain ⟨rfl,rfl,rfl,rfl⟩:=hop;obtain ⟨j,rfl⟩:=zy2 hc.1;simp only[zw8] at hc hwp;exact (RU ho (agU hc2.1) hu hl hn hz hc2.2.1 hc2.2.2 hc.2.1 hc.2.2 hd (hdn d rfl) hf).wp hop0 hsim (fun a' w' hs=>hK _ a' w' hwp hs)
theorem acd{dr:Bool}{K:af→Prop}{dst:Option Nat}{rest:List aF}{a:Act}{w:World}{Kw:Act→World→Prop}{Q:Exit→Act→World→Prop}{e:TypeId}{sz:Nat}(hop:cU c.P o=some (.nu e sz))(hd:o.dst=dst)(hdn:∀ k,dst=some k→k<c.n)
  (hwp:aY c.P c.Y dr K (aX A dst (.nu e sz) rest (au rest))) (hsim:bP c A a w) (hK:∀ B a' w',aY c.P c.Y dr K (au rest B)→bP c B a' w'→Kw a' w'):o.wpIn c.bo 9 c.P a w Kw Q:=by
 have hop0:=hop;simp only[aX] at hwp;split at hwp
 case h_2=>cases hwp
 rename_i d;split at hwp
 case h_2=>cases hwp
 rename_i hf;unfold cU at hop;split at hop <;>try (first | (simp at hop;done) | ((repeat' split at hop) <;>simp at hop;done))
 rename_i t l l' ho;split at hop
 case h_2=>cases hop
 rename_i e' n' hu hl;split at hop
 case h_2=>cases hop
 rename_i z' hz;split at hop
 case isTrue=>cases hop
 split at hop
 case h_2=>cases hop
 rename_i m hm;split at hop
 case isFalse=>cases hop
 rename_i hb;simp only[v6,bH.nu.injEq] at hop;obtain ⟨rfl,rfl⟩:=hop;exact (RT ho hm hu hz hb hd (hdn d rfl) hf).wp hop0 hsim (fun a' w' hs=>hK _ a' w' hwp hs)
theorem acf{dr:Bool}{K:af→Prop}{dst:Option Nat}{rest:List aF}{a:Act}{w:World}{Kw:Act→World→Prop}{Q:Exit→Act→World→Prop}{ty:cK}{m k v:aJ}(hop:cU c.P o=some (.lK ty m k v))(hd:o.dst=dst)(hdn:∀ k,dst=some k→k<c.n)
  (hwp:aY c.P c.Y dr K (aX A dst (.lK ty m k v) rest (au rest))) (hsim:bP c A a w) (hK:∀ B a' w',aY c.P c.Y dr K (au rest B)→bP c B a' w'→Kw a' w'):o.wpIn c.bo 9 c.P a w Kw Q:=by
 have hop0:=hop;simp only[aX] at hwp;split at hwp
 case h_2=>cases hwp
 split at hwp
 case h_2=>cases hwp
 rename_i n hm;split at hwp
 case h_2=>cases hwp
 rename_i ks vs hn;split at hwp
 case h_2=>cases hwp
 rename_i ks' vs' hl;unfold cU at hop;split at hop <;>try (first | (simp at hop;done) | ((repeat' split at hop) <;>simp at hop;done))
 all_goals
  rename_i t mo ko vo ho;split at hop
  case h_2=>cases hop
  rename_i kt et m' k' hu h1 h2;split at hop
  case h_2=>cases hop
  rename_i ty' v' hk h3;simp only[v6,bH.lK.injEq] at hop;obtain ⟨rfl,rfl,rfl,rfl⟩:=hop
 ·exact (DU (.inl ho) hu hk h1 h2 h3 hm hn hl hd).wp hop0 hsim (fun a' w' hs=>hK _ a' w' hwp hs)
 ·exact (DU (.inr ho) hu hk h1 h2 h3 hm hn hl hd).wp hop0 hsim (fun a' w' hs=>hK _ a' w' hwp hs)
theorem aca{dr:Bool}{K:af→Prop}{dst:Option Nat}{rest:List aF}{a:Act}{w:World}{Kw:Act→World→Prop}{Q:Exit→Act→World→Prop}{ty:cK}{m k:aJ}(hop:cU c.P o=some (.nt ty m k))(hd:o.dst=dst)(hdn:∀ k,dst=some k→k<c.n)
  (hwp:aY c.P c.Y dr K (aX A dst (.nt ty m k) rest (au rest))) (hsim:bP c A a w) (hK:∀ B a' w',aY c.P c.Y dr K (au rest B)→bP c B a' w'→Kw a' w'):o.wpIn c.bo 9 c.P a w Kw Q:=by
 have hop0:=hop;simp only[aX] at hwp;split at hwp
 case h_2=>cases hwp
 split at hwp
 case h_2=>cases hwp
 rename_i n hm;split at hwp
 case h_2=>cases hwp
 rename_i ks vs hn;split at hwp
 case h_2=>cases hwp
 rename_i ks' vs' hl;unfold cU at hop;split at hop <;>try (first | (simp at hop;done) | ((repeat' split at hop) <;>simp at hop;done))
 rename_i args tys ho;split at hop
 case h_2=>cases hop
 rename_i mo ko t t' ha ht;split at hop
 case h_2=>cases hop
 rename_i kt et m' k' hu h1 h2;simp only[t8,bH.nt.injEq] at hop;obtain ⟨ty',hk,rfl,rfl,rfl⟩:=hop;have ha':args = #[mo,ko]:=by apply Array.ext';simpa using ha
 have ht':tys = #[t,t']:=by apply Array.ext';simpa using ht
 subst ha' ht';exact (RQ ho hu hk h1 h2 hm hn hl hd).wp hop0 hsim (fun a' w' hs=>hK _ a' w' hwp hs)
theorem aci{dr:Bool}{K:af→Prop}{dst:Option Nat}{rest:List aF}{a:Act}{w:World}{Kw:Act→World→Prop}{Q:Exit→Act→World→Prop}{x:aJ}(hop:cU c.P o=some (.lS x))(hd:o.dst=dst)(hdn:∀ k,dst=some k→k<c.n)
  (hwp:aY c.P c.Y dr K (aX A dst (.lS x) rest (au rest))) (hsim:bP c A a w) (hK:∀ B a' w',aY c.P c.Y dr K (au rest B)→bP c B a' w'→Kw a' w'):o.wpIn c.bo 9 c.P a w Kw Q:=by
 have hop0:=hop;simp only[aX] at hwp;split at hwp
 case h_2=>cases hwp
 rename_i d;split at hwp
 case h_2=>cases hwp
 rename_i hf;split at hwp
 case h_2=>cases hwp
 rename_i ks vs hx;unfold cU at hop;split at hop <;>try (first | (simp at hop;done) | ((repeat' split at hop) <;>simp at hop;done))
 rename_i t y ho;split at hop
 case h_2=>cases hop
 rename_i kt et hu;simp only[t8,bH.lS.injEq] at hop;obtain ⟨z,hz,rfl⟩:=hop;exact (RV ho hu hz hx hd (hdn d rfl) hf).wp hop0 hsim (fun a' w' hs=>hK _ a' w' hwp hs)
theorem ach{dr:Bool}{K:af→Prop}{dst:Option Nat}{rest:List aF}{a:Act}{w:World}{Kw:Act→World→Prop}{Q:Exit→Act→World→Prop}{x:aJ}(hop:cU c.P o=some (.lL x))(hd:o.dst=dst)(hdn:∀ k,dst=some k→k<c.n)
  (hwp:aY c.P c.Y dr K (aX A dst (.lL x) rest (au rest))) (hsim:bP c A a w) (hK:∀ B a' w',aY c.P c.Y dr K (au rest B)→bP c B a' w'→Kw a' w'):o.wpIn c.bo 9 c.P a w Kw Q:=by
 have hop0:=hop;simp only[aX] at hwp;split at hwp
 case h_2=>cases hwp
 rename_i n hx;split at hwp
 case h_2=>cases hwp
 rename_i ks vs left cur hn;unfold cU at hop;split at hop <;>try (first | (simp at hop;done) | ((repeat' split at hop) <;>simp at hop;done))
 rename_i y ho;simp only[t8,bH.lL.injEq] at hop;obtain ⟨z,hz,rfl⟩:=hop;obtain ⟨D,E,hs⟩:=hsim;obtain ⟨w',v,hrun,hor⟩:=aex ho hz hx hn (by rw[hd];exact hdn) hs;refine ⟨kJ,?_⟩;rw[kZ hop0,hrun,Oper.uponIn_value];rw[hd] at hor;split at hwp
 ·rename_i hl;rcases hor with ⟨_,hor⟩ | ⟨i,k,x,hi,_⟩
  ·exact hK _ _ _ hwp (by rw[hd];exact hor)
  ·rw[hl] at hi;cases hi
 ·rename_i hl;rcases hor with ⟨h,_⟩ | ⟨i,k,x,hi,hk,hx,hor⟩
  ·exact absurd h hl
  ·cases hwp with
   |any hdr hall =>
    have:=hall i hi;simp only[hk,hx] at this;exact hK _ _ _ this (by rw[hd];exact hor)
theorem ab7{dr:Bool}{K:af→Prop}{dst:Option Nat}{rest:List aF}{a:Act}{w:World}{Kw:Act→World→Prop}{Q:Exit→Act→World→Prop}{x:aJ}{args:List aJ}(hop:cU c.P o=some (.fF x args))(hd:o.dst=dst)(hdn:∀ k,dst=some k→k<c.n)
  (hwp:aY c.P c.Y dr K (aX A dst (.fF x args) rest (au rest))) (hsim:bP c A a w) (hK:∀ B a' w',aY c.P c.Y dr K (au rest B)→bP c B a' w'→Kw a' w'):o.wpIn c.bo 9 c.P a w Kw Q:=by
 have hop0:=hop;simp only[aX] at hwp;unfold cU at hop;split at hop <;>try (first | (simp at hop;done) | ((repeat' split at hop) <;>simp at hop;done))
 rename_i y xs ts _ ho;split at hop
 case h_2=>cases hop
 rename_i y' ys h1 h2;simp only[v6,bH.fF.injEq] at hop;obtain ⟨rfl,rfl⟩:=hop;obtain ⟨D,E,hs⟩:=hsim;have ae:=bz hs h1;split at hwp
 ·rename_i f caps hx;rw[hx] at ae;obtain ⟨cs,q1,q2⟩:=ae;simp only[ai] at q2;obtain ⟨vs,q3,q4⟩:=q2;have hval:a.eval y=kj f vs:=by simpa[bm,I.isAgg,q3] using q1.symm
  have caps_ok:∀ D' E',aT c A a w D' E'→fe (aV w D' E') caps vs:=fun D' E' hs'=>by
   have hv':=bz hs' h1;rw[hx] at hv';obtain ⟨cs',q1',q2'⟩:=hv';simp only[ai] at q2';obtain ⟨vs',q3',q4'⟩:=q2';have hval':a.eval y=kj f vs':=by simpa[bm,I.isAgg,q3'] using q1'.symm
   rw[hval] at hval';have:=SG hval';subst this;exact rC q4'
  have e:xs.map a.eval=(xs.toList.map a.eval).toArray:=by apply Array.ext';simp
  rcases Nat.lt_or_ge f 1000000 with hf | hf
  ·rw[yk hf,yj hf] at hwp;rw[oq hf] at hval;refine xH (vs:=xs.toList.map a.eval++vs) hop0 rfl rfl (fun D' E' hs'=>(ma hs' xs.toList ts.toList ys h2).append (caps_ok D' E' hs')) ⟨D,E,hs⟩ hwp hd hdn (fun hc =>?_) hK;simp only[execOp,ho,resolve,hval,Deferred.ofValue,Sem.run_bind,Sem.run_pure,Result.andThen_ok,invoke,Array.empty_append,oL hc];rw[e];simp
  ·obtain ⟨g,rfl⟩:∃ g:Nat,f=g+1000000:=⟨Nat.sub f 1000000,(Nat.sub_add_cancel hf).symm⟩
   rw[Eg,Ef] at hwp;rw[sD] at hval;refine xH (vs:=vs++xs.toList.map a.eval) hop0 rfl rfl (fun D' E' hs'=>(caps_ok D' E' hs').append (ma hs' xs.toList ts.toList ys h2)) ⟨D,E,hs⟩ hwp hd hdn (fun hc =>?_) hK;simp only[execOp,ho,resolve,hval,Deferred.ofValue,Sem.run_bind,Sem.run_pure,Result.andThen_ok,invoke,Array.append_empty,oL hc];rw[e];simp
 ·rename_i u hx;rw[hx] at ae;obtain ⟨cs,q1,q2⟩:=ae;simp only[ai] at q2;have hval:a.eval y=u:=by simpa[bm,I.isAgg,q2.1] using q1.symm
  refine NJ (vs:=xs.toList.map a.eval) hop0 (fun D' E' hs'=>ma hs' xs.toList ts.toList ys h2) ⟨D,E,hs⟩ hwp hd hdn (fun l hl =>?_) hK;subst hl;have e:xs.map a.eval=(xs.toList.map a.eval).toArray:=by apply Array.ext';simp
  simp only[execOp,ho,resolve,hval,Deferred.ofValue,Sem.run_bind,Sem.run_pure,Result.andThen_ok,invoke,Array.empty_append];rw[e]
 ·cases hwp
theorem acg{dr:Bool}{K:af→Prop}{dst:Option Nat}{rest:List aF}{a:Act}{w:World}{Kw:Act→World→Prop}{Q:Exit→Act→World→Prop}{neg:Bool}{x:aJ}(hop:cU c.P o=some (.nilS neg x))(hd:o.dst=dst)(hdn:∀ k,dst=some k→k<c.n)
  (hwp:aY c.P c.Y dr K (aX A dst (.nilS neg x) rest (au rest))) (hsim:bP c A a w) (hK:∀ B a' w',aY c.P c.Y dr K (au rest B)→bP c B a' w'→Kw a' w'):o.wpIn c.bo 9 c.P a w Kw Q:=by
 have hop0:=hop;simp only[aX] at hwp;split at hwp
 case isFalse=>exact E0 hop hd hdn hsim hK hwp
 rename_i hu;cases hwp with
 |any hdr hall =>
 unfold cU at hop;split at hop <;>try (first | (simp at hop;done) | ((repeat' split at hop) <;>simp at hop;done))
 rename_i bop t y z yt ho;split at hop
 ·simp at hop
 ·simp at hop
 ·rename_i e y' z' hut h1 h2;split at hop
  ·rename_i s;split at hop
   ·rename_i hopp;simp only[v6,bH.nilS.injEq] at hop;obtain ⟨rfl,rfl⟩:=hop;have ho':o.op=.binOp (if (bop==.neq)=true then .neq else .eql) t y z yt:=by
     rcases hopp with rfl | rfl <;>simpa using ho
    obtain ⟨D,E,hs⟩:=hsim;have hund:∃ sz,aj A y'=.slice sz []∨aj A y'=.c0 sz:=by
     generalize aj A y'=q at hu;cases q <;>simp only[kC,zy0,List.isEmpty_iff] at hu
     ·rename_i sz;exact ⟨sz,.inr rfl⟩
     ·rename_i sz es;subst hu;exact ⟨sz,.inl rfl⟩
    obtain ⟨b,hrun⟩:=aey ho' hut h1 h2 hund hs;refine ⟨kJ,?_⟩;rw[kZ hop0,hrun,Oper.uponIn_value];have hb:=hall (if b then 0 else 1) (by cases b <;>simp);refine hK _ _ _ hb ⟨D,E,?_⟩;rw[hd];have e:((if b=true then (0:Nat) else 1)==0)=b:=by cases b <;>rfl
    rw[e];exact hs.aR hdn (mz b)
   ·cases hop
  ·cases hop
 ·split at hop <;>simp at hop
 ·(repeat' split at hop) <;>simp at hop
 ·split at hop <;>simp at hop
 ·cases hop
theorem ab3{dr:Bool}{K:af→Prop}{dst:Option Nat}{rest:List aF}{a:Act}{w:World}{Kw:Act→World→Prop}{Q:Exit→Act→World→Prop}{e:TypeId}{esz bytes:Nat}{z:I}{s x:aJ}(hop:cU c.P o=some (.eB e esz bytes z s x))(hd:o.dst=dst)(hdn:∀ k,dst=some k→k<c.n)
  (hwp:aY c.P c.Y dr K (aX A dst (.eB e esz bytes z s x) rest (au rest))) (hsim:bP c A a w) (hK:∀ B a' w',aY c.P c.Y dr K (au rest B)→bP c B a' w'→Kw a' w'):o.wpIn c.bo 9 c.P a w Kw Q:=by
 have hop0:=hop;simp only[aX] at hwp;unfold cU at hop;split at hop <;>try (first | (simp at hop;done) | ((repeat' split at hop) <;>simp at hop;done))
 rename_i args tys ho;split at hop
 case h_2=>cases hop
 rename_i y q t t' ha ht;split at hop
 case h_2=>cases hop
 rename_i e' s' x' k1 k2 k3;split at hop
 case isFalse=>split at hop <;>simp at hop
 rename_i hk;simp only[t8,bH.eB.injEq] at hop;obtain ⟨zz,hz1,rfl,rfl,rfl,rfl,rfl,rfl⟩:=hop;obtain ⟨rfl,hk2,hk3⟩:=hk;have ha':args = #[y,q]:=by apply Array.ext';simpa using ha
 have ht':tys = #[t,t]:=by apply Array.ext';simpa using ht
 subst ha' ht';rw[hz1] at hk3;simp only[zy5,v6] at hk3;have hinfo:(c.P.info? e').isSome=true:=by
  obtain ⟨ti,_,hti,_⟩:=lY hz1;rw[hti];rfl
 have grow:∀ es ys,du A (c.P.cellsOf e') (aj A s')=some es→du A (c.P.cellsOf e') (aj A x')=some ys→ys≠[]→(∀ a w D E,aT c A a w D E→∀ ad l cp,a.eval y=.slice ad l cp→cp<l+ys.length) →
   aY c.P c.Y dr K (fE A dst (c.P.cellsOf e') (c.P.bytesOf e') zz es ys (au rest))→o.wpIn c.bo 9 c.P a w Kw Q:=fun es ys hse hsx hne hfull h=>by
  simp only[fE] at h;split at h
  case h_2=>cases h
  rename_i d;split at h
  case h_2=>cases h
  rename_i hf;split at h
  case isFalse=>cases h
  rename_i hb;cases h with
  |any hdr hall =>
   obtain ⟨D,E,hs⟩:=hsim;obtain ⟨v,w',m,g1,g2,g3⟩:=Ln ho k1 k2 k3 hz1 hk3 hse hsx hb.1 hd (hdn d rfl) hf hne hs (hfull a w D E hs) hb.2;refine ⟨kJ,?_⟩;rw[kZ hop0,g1,Oper.uponIn_value,hd];rw[hd] at g3;exact hK _ _ _ (hall m g2) g3
 split at hwp
 ·rename_i n l hs';split at hwp
  case h_2=>cases hwp
  rename_i sz ys hx';split at hwp
  case h_3=>cases hwp
  case h_2 =>
   rename_i T xs hn;split at hwp
   case isFalse=>cases hwp
   rename_i hok;obtain ⟨h1,h2,h3,h4,h5,h6,h7,h8⟩:=hok;subst h3 h4;have hl5:ys.length=(sM ys).length:=(congrArg List.length h5).trans (by simp);rw[hl5] at h7 h8 hwp;rw[h5] at hx';have hd':=RI (o:=o) ho k1 k2 k3 hz1 h2 hs' hn h1 hx' (fun e=>h6 (by rw[h5,e];rfl)) h7 h8 (by rw[hd];exact hdn);exact hd'.wp hop0 hsim (fun a' w' hs=>by rw[hd] at hs;exact hK _ a' w' hwp hs)
  rename_i T sz' es hn;split at hwp
  case isFalse=>cases hwp
  rename_i hok;obtain ⟨h1,h2,h3,h4,h5,h6,h7⟩:=hok;subst h2 h3 h4;have hd':=RH (o:=o) ho k1 k2 k3 hz1 hk3 hk2 hs' hn h1 hx' rfl h5 h6 h7 (by rw[hd];exact hdn);exact hd'.wp hop0 hsim (fun a' w' hs=>by rw[hd] at hs;exact hK _ a' w' hwp hs)
 ·simp only[eI] at hwp;split at hwp
  case h_2=>cases hwp
  rename_i es ys hse hsx;split at hwp
  ·rename_i hne;subst hne;exact ((RL ho k1 hinfo k2 k3 hse hsx).does (by rw[hd];exact hdn)).wp hop0 hsim (fun a' w' hs=>by rw[hd] at hs;exact hK _ a' w' hwp hs)
  ·rename_i hne;have hpos:0<ys.length:=zv2.2 hne;split at hwp
   ·rename_i z0 hsv;refine grow es ys hse hsx hne (fun a w D E hs ad l cp ae =>?_) hwp;have h0:=bz hs k2;rw[hsv] at h0;obtain ⟨cs,q1,q2⟩:=h0;simp only[ai] at q2;have:a.eval y=.slice none 0 0:=by simpa[bm,I.isAgg,q2] using q1.symm
    rw[this] at ae;simp only[Value.slice.injEq] at ae;omega
   ·rename_i z0 hsv;refine grow es ys hse hsx hne (fun a w D E hs ad l cp ae =>?_) hwp;have h0:=bz hs k2;rw[hsv] at h0;obtain ⟨cs,q1,q2⟩:=h0;simp only[ai] at q2;obtain ⟨ad',q2⟩:=q2;have:a.eval y=.slice ad' 0 0:=by simpa[bm,I.isAgg,q2] using q1.symm
    rw[this] at ae;simp only[Value.slice.injEq] at ae;omega
   ·rename_i n p sz lo l hsv;split at hwp
    case h_2=>cases hwp
    rename_i b hn;split at hwp
    case h_2=>cases hwp
    rename_i fs hat;split at hwp
    ·rename_i hroom;split at hwp
     case isFalse=>cases hwp
     rename_i hok;obtain ⟨rfl,hsh⟩:=hok;exact (RJ ho k1 hinfo k2 k3 hsv hn hat hsx hroom hsh (by rw[hd];exact hdn)).wp hop0 hsim (fun a' w' hs=>by rw[hd] at hs;exact hK _ a' w' hwp hs)
    ·rename_i hroom;refine grow es ys hse hsx hne (fun a w D E hs ad l' cp ae =>?_) hwp;have h0:=bz hs k2;rw[hsv] at h0;obtain ⟨_,bb,cs,T,off,c1,c2,c3,_,_,_,_,_,_,_,_,_,_,r1,ja,rn⟩:=hs.view (fs:=fs) h0 (by simp only[ct,hn,hat]);rw[rn] at ae;simp only[Value.slice.injEq] at ae;omega
   ·cases hwp
theorem ab4{dr:Bool}{K:af→Prop}{dst:Option Nat}{rest:List aF}{a:Act}{w:World}{Kw:Act→World→Prop}{Q:Exit→Act→World→Prop}{e:TypeId}{esz bytes:Nat}{z:I}{s n:aJ}(hop:cU c.P o=some (.ln e esz bytes z s n))(hd:o.dst=dst)(hdn:∀ k,dst=some k→k<c.n)
  (hwp:aY c.P c.Y dr K (aX A dst (.ln e esz bytes z s n) rest (au rest))) (hsim:bP c A a w) (hK:∀ B a' w',aY c.P c.Y dr K (au rest B)→bP c B a' w'→Kw a' w'):o.wpIn c.bo 9 c.P a w Kw Q:=by
 have hop0:=hop;simp only[aX] at hwp;unfold cU at hop;split at hop <;>try (first | (simp at hop;done) | ((repeat' split at hop) <;>simp at hop;done))
 rename_i args tys ho;split at hop
 case h_2=>cases hop
 rename_i y q t t' ha ht;split at hop
 case h_2=>cases hop
 rename_i e' s' x' k1 k2 k3;split at hop
 case isTrue=>simp at hop
 split at hop
 case isFalse=>cases hop
 rename_i hk;simp only[t8,bH.ln.injEq] at hop;obtain ⟨zz,hz1,rfl,rfl,rfl,rfl,rfl,rfl⟩:=hop;obtain ⟨hint,hk2,hk3⟩:=hk;have ha':args = #[y,q]:=by apply Array.ext';simpa using ha
 have ht':tys = #[t,t']:=by apply Array.ext';simpa using ht
 subst ha' ht';rw[hz1] at hk3;simp only[zy5,v6] at hk3;obtain ⟨kt,hkt⟩:∃ kt,c.P.underlying t'=some (.int kt):=by
  cases hu:c.P.underlying t' with
  |none=>rw[hu] at hint;cases hint
  |some dsc=>cases dsc <;>rw[hu] at hint <;>first | exact ⟨_,rfl⟩ | cases hint
 split at hwp
 case h_2=>cases hwp
 rename_i kx bq hx';simp only[sa] at hwp;split at hwp
 case h_2=>cases hwp
 rename_i es hse;split at hwp
 case h_2=>cases hwp
 rename_i nn p sz lo l hsv;split at hwp
 case h_2=>cases hwp
 rename_i bb hn;split at hwp
 case h_2=>cases hwp
 rename_i fs hat;split at hwp
 case isFalse=>cases hwp
 rename_i hroom;simp only[fE] at hwp;split at hwp
 case h_2=>cases hwp
 rename_i d;split at hwp
 case h_2=>cases hwp
 rename_i hf;split at hwp
 case isFalse=>cases hwp
 rename_i hb;rw[List.length_replicate] at hb;cases hwp with
 |any hdr hall =>
  obtain ⟨D,E,hs⟩:=hsim;obtain ⟨v,w',m,g1,g2,g3⟩:=Lp ho k1 k2 k3 hkt hx' rfl hroom.1 hk2 hz1 hk3 hse hb.1 hd (hdn d rfl) hf hs (fun ad l' cp ae=>by
   have h0:=bz hs k2;rw[hsv] at h0;have hsv':=hse;obtain ⟨_,b1,cs,T,off,c1,c2,c3,_,_,_,_,_,_,_,_,_,_,r1,ja,rn⟩:=hs.view (fs:=fs) h0 (by simp only[ct,hn,hat]);rw[rn] at ae;simp only[Value.slice.injEq] at ae;have hel:es.length=l:=by
    rw[hsv] at hse;simp only[du,ct,hn,hat] at hse;split at hse
    ·simp only[v6] at hse;rw[←hse,zz6,zv3];omega
    ·cases hse
   omega) hb.2
  refine ⟨kJ,?_⟩;rw[kZ hop0,g1,Oper.uponIn_value,hd];rw[hd] at g3;have:=hall m (by rw[List.length_replicate];exact g2);rw[List.length_replicate] at this;exact hK _ _ _ this g3
theorem ab8{dr:Bool}{K:af→Prop}{dst:Option Nat}{rest:List aF}{a:Act}{w:World}{Kw:Act→World→Prop}{Q:Exit→Act→World→Prop}{esz:Nat}{z:I}{x:aJ}(hop:cU c.P o=some (.kh esz z x))(hd:o.dst=dst)(hdn:∀ k,dst=some k→k<c.n)
  (hwp:aY c.P c.Y dr K (aX A dst (.kh esz z x) rest (au rest))) (hsim:bP c A a w) (hK:∀ B a' w',aY c.P c.Y dr K (au rest B)→bP c B a' w'→Kw a' w'):o.wpIn c.bo 9 c.P a w Kw Q:=by
 have hop0:=hop;simp only[aX] at hwp;split at hwp
 case h_2=>cases hwp
 unfold cU at hop;split at hop <;>try (first | (simp at hop;done) | ((repeat' split at hop) <;>simp at hop;done))
 rename_i args tys ho;split at hop
 case h_2=>cases hop
 rename_i y t ha ht;split at hop
 case h_2=>cases hop
 rename_i e' x' k1 k2;simp only[t8,bH.kh.injEq] at hop;obtain ⟨zz,hz1,rfl,rfl,rfl⟩:=hop;have ha':args = #[y]:=by apply Array.ext';simpa using ha
 have ht':tys = #[t]:=by apply Array.ext';simpa using ht
 subst ha' ht';have nothing:aY c.P c.Y dr K (au rest A)→(∀ a w D E,aT c A a w D E→∃ ad cp,a.eval y=.slice ad 0 cp)→o.wpIn c.bo 9 c.P a w Kw Q:=fun h ae=>by
  obtain ⟨D,E,hs⟩:=hsim;obtain ⟨ad,cp,ae⟩:=ae a w D E hs;refine ⟨kJ,?_⟩;have hrun:(execOp a.eval o).run c.P w=.ok (.value (.tuple #[])) w:=by
   cases ad <;>simp[execOp,ho,resolve,invoke,builtin,Builtin.clear_,run_underlying k1,ae]
  rw[kZ hop0,hrun,Oper.uponIn_value,hd];exact hK _ _ _ h ⟨D,E,hs⟩
 unfold og at hwp;split at hwp
 ·rename_i n p sz lo l ae;split at hwp
  case h_2=>cases hwp
  rename_i b hn;split at hwp
  case h_2=>cases hwp
  rename_i fs hat;split at hwp
  case isFalse=>cases hwp
  rename_i hok;obtain ⟨rfl,hsh⟩:=hok;exact (RN ho k1 k2 hz1 ae hn hat hsh hd).wp hop0 hsim (fun a' w' hs=>hK _ a' w' hwp hs)
 ·rename_i z0 ae;refine nothing hwp fun a w D E hs =>?_;have h0:=bz hs k2;rw[ae] at h0;obtain ⟨cs,q1,q2⟩:=h0;simp only[ai] at q2;exact ⟨none,0,by simpa[bm,I.isAgg,q2] using q1.symm⟩
 ·rename_i z0 ae;refine nothing hwp fun a w D E hs =>?_;have h0:=bz hs k2;rw[ae] at h0;obtain ⟨cs,q1,q2⟩:=h0;simp only[ai] at q2;obtain ⟨ad,q2⟩:=q2;exact ⟨ad,0,by simpa[bm,I.isAgg,q2] using q1.symm⟩
 ·cases hwp
theorem ab9{dr:Bool}{K:af→Prop}{dst:Option Nat}{rest:List aF}{a:Act}{w:World}{Kw:Act→World→Prop}{Q:Exit→Act→World→Prop}{esz:Nat}{x y:aJ}(hop:cU c.P o=some (.iz esz x y))(hd:o.dst=dst)(hdn:∀ k,dst=some k→k<c.n)
  (hwp:aY c.P c.Y dr K (aX A dst (.iz esz x y) rest (au rest))) (hsim:bP c A a w) (hK:∀ B a' w',aY c.P c.Y dr K (au rest B)→bP c B a' w'→Kw a' w'):o.wpIn c.bo 9 c.P a w Kw Q:=by
 have hop0:=hop;simp only[aX] at hwp;unfold cU at hop;split at hop <;>try (first | (simp at hop;done) | ((repeat' split at hop) <;>simp at hop;done))
 rename_i args tys ho;split at hop
 case h_2=>cases hop
 rename_i u v t t' ha ht;split at hop
 case h_2=>cases hop
 rename_i e' x' y' k1 k2 k3;split at hop
 case isFalse=>cases hop
 rename_i hk;simp only[v6,bH.iz.injEq] at hop;obtain ⟨rfl,rfl,rfl⟩:=hop;obtain ⟨_,hinfo⟩:=hk;have ha':args = #[u,v]:=by apply Array.ext';simpa using ha
 have ht':tys = #[t,t']:=by apply Array.ext';simpa using ht
 subst ha' ht';unfold mh at hwp;split at hwp
 ·rename_i n p sz lo l ys ae hsx;split at hwp
  case h_2=>cases hwp
  rename_i b hn;split at hwp
  case h_2=>cases hwp
  rename_i fs hat;split at hwp
  case isFalse=>cases hwp
  rename_i hok;obtain ⟨rfl,hsh⟩:=hok;exact (RO ho k1 hinfo k2 k3 ae hn hat hsx rfl hsh (by rw[hd];exact hdn)).wp hop0 hsim (fun a' w' hs=>by rw[hd] at hs;exact hK _ a' w' hwp hs)
 ·rename_i z0 ys ae hsx;exact (RP ho k1 hinfo k2 k3 ae hsx (by rw[hd];exact hdn)).wp hop0 hsim (fun a' w' hs=>by rw[hd] at hs;exact hK _ a' w' hwp hs)
 ·cases hwp
theorem acj{dr:Bool}{K:af→Prop}{dst:Option Nat}{rest:List aF}{a:Act}{w:World}{Kw:Act→World→Prop}{Q:Exit→Act→World→Prop}{x:aJ}(hop:cU c.P o=some (.fC x))(hd:o.dst=dst)(hdn:∀ k,dst=some k→k<c.n)
  (hwp:aY c.P c.Y dr K (aX A dst (.fC x) rest (au rest))) (hsim:bP c A a w) (hK:∀ B a' w',aY c.P c.Y dr K (au rest B)→bP c B a' w'→Kw a' w'):o.wpIn c.bo 9 c.P a w Kw Q:=by
 have hop0:=hop;simp only[aX] at hwp;unfold cU at hop;split at hop <;>try (first | (simp at hop;done) | ((repeat' split at hop) <;>simp at hop;done))
 rename_i t t' y ho;split at hop
 case h_1=>simp at hop
 case h_2=>(repeat' split at hop) <;>simp at hop
 case h_4=>cases hop
 rename_i e y' k1 k2 k3;split at hop
 case h_2=>cases hop
 rename_i k4;simp only[v6,bH.fC.injEq] at hop;subst hop;cases hse:nK (aj A y') with
 |none=>rw[hse] at hwp;simp only[jM] at hwp;cases hwp
 |some ys =>
  rw[hse] at hwp;simp only[jM] at hwp;split at hwp
  case h_2=>cases hwp
  rename_i d;split at hwp
  case h_2=>cases hwp
  rename_i hf;cases hwp with
  |any hdr hall =>
   obtain ⟨D,E,hs⟩:=hsim;obtain ⟨v,w',m,g1,g2,g3⟩:=agR ho k1 k2 k4 k3 hse hd (hdn d rfl) hf hs;refine ⟨kJ,?_⟩;rw[kZ hop0,g1,Oper.uponIn_value,hd];rw[hd] at g3;exact hK _ _ _ (hall m g2) g3
theorem u6{dr:Bool}{K:af→Prop}{op:bH}{dst:Option Nat}{rest:List aF}{a:Act}{w:World}{Kw:Act→World→Prop}{Q:Exit→Act→World→Prop}(hop:cU c.P o=some op)(hd:o.dst=dst)(hdn:∀ k,dst=some k→k<c.n)
  (hwp:aY c.P c.Y dr K (aX A dst op rest (au rest))) (hsim:bP c A a w) (hK:∀ B a' w',aY c.P c.Y dr K (au rest B)→bP c B a' w'→Kw a' w'):o.wpIn c.bo 9 c.P a w Kw Q:=by
 cases op with
 |alloc z=>exact ab2 hop hd hdn hwp hsim hK
 |box x=>exact ab5 hop hd hdn hwp hsim hK
 |aS s x v=>exact ack hop hd hdn hwp hsim hK
 |call f args=>exact ab6 hop hd hdn hwp hsim hK
 |jf f args=>exact acm hop hd hdn hwp hsim hK
 |mA=>exact acb hop hd hdn hwp hsim hK
 |nu e sz=>exact acd hop hd hdn hwp hsim hK
 |kX e bytes z n=>exact ace hop hd hdn hwp hsim hK
 |lK ty m k v=>exact acf hop hd hdn hwp hsim hK
 |nt ty m k=>exact aca hop hd hdn hwp hsim hK
 |lS x=>exact aci hop hd hdn hwp hsim hK
 |lL x=>exact ach hop hd hdn hwp hsim hK
 |fF x args=>exact ab7 hop hd hdn hwp hsim hK
 |nilS neg x=>exact acg hop hd hdn hwp hsim hK
 |eB e esz bytes z s x=>exact ab3 hop hd hdn hwp hsim hK
 |ln e esz bytes z s n=>exact ab4 hop hd hdn hwp hsim hK
 |kh esz z x=>exact ab8 hop hd hdn hwp hsim hK
 |iz esz x y=>exact ab9 hop hd hdn hwp hsim hK
 |fC x=>exact acj hop hd hdn hwp hsim hK
 |_=>exact E0 hop hd hdn hsim hK (by simpa only[aX] using hwp)
theorem ve{j t:Nat}{br:Array Oper}{a:Act}{w:World}{b b':Bool}(hs:bP c A a w)(hg:o.guard=some (j,b))(ht:(br[j]?).bind (·.dst)=some t)(ae:A.t t=.bool b'):Region.wanted o (yielded br a.tmps)=(b'==b):=by
 obtain ⟨D,E,hs⟩:=hs;have h:=hs.eG t;rw[ae] at h;have h:=mJ h;have hy:yielded br a.tmps j=some b':=by
  unfold yielded;rw[ht];simp only[zu4];simp only[Array.getD_eq_getD_getElem?] at h;cases hh:a.tmps[t]? with
  |none=>simp[hh,undef] at h
  |some v=>simp only[hh,Option.getD_some] at h;subst h;rfl
 unfold Region.wanted;rw[hg];simp only[hy];cases b <;>cases b' <;>rfl
theorem vf{j t:Nat}{br:Array Oper}{a:Act}{w:World}{b:Bool}(hs:bP c A a w)(hg:o.guard=some (j,b))(ht:(br[j]?).bind (·.dst)=some t)(ae:A.t t=.undef):Region.wanted o (yielded br a.tmps)=false:=by
 obtain ⟨D,E,hs⟩:=hs;have h:=hs.eG t;rw[ae] at h;simp only[aV] at h;have hy:yielded br a.tmps j=none:=by
  unfold yielded;rw[ht];simp only[zu4];simp only[Array.getD_eq_getD_getElem?] at h;cases hh:a.tmps[t]? with
  |none=>rfl
  |some v=>simp only[hh,Option.getD_some] at h;subst h;rfl
 unfold Region.wanted;rw[hg];simp only[hy];rfl
theorem bP.oJ{a:Act}{w:World}(h:bP c A a w){d:Option Nat}(hd:∀ k,d=some k→k<c.n):bP c (A.aR d .undef) (a.put d undef) w:=by
 obtain ⟨D,E,h⟩:=h;exact ⟨D,E,h.aR hd (by simp[aV])⟩
theorem vd{dr:Bool}{K:af→Prop}{br:Array Oper}{Q:Exit→Act→World→Prop}(hQ:∀ B a w,K B→bP c B a w→Q .normal a w):∀ (l:List Oper) (gs:List aF) (A:af) (a:Act) (w:World),gy c.P c.n br l=some gs→aY c.P c.Y dr K (au gs A) →
  bP c A a w→wpListIn c.bo 9 c.P br Q l a w
 | [],gs,A,a,w,hc,hwp,hs=>by
  simp only[gy,v6] at hc;subst hc;simp only[au] at hwp;cases hwp with
  |done hk=>exact hQ A a w hk hs
 |o::l,gs,A,a,w,hc,hwp,hs=>by
  simp only[gy] at hc;split at hc
  case h_2=>cases hc
  rename_i g gs' hg hgs;simp only[v6] at hc;subst hc;obtain ⟨h1,h2,h3,h4⟩:=qo hg;have step:aY c.P c.Y dr K (aX A g.dst g.op gs' (au gs'))→o.wpIn c.bo 9 c.P a w (wpListIn c.bo 9 c.P br Q l) Q:=fun h =>
   u6 h1 h2.symm (by rw[h2];exact h3) h hs (fun B a' w' hw hs'=>vd hQ l gs' B a' w' hgs hw hs')
  simp only[wpListIn];simp only[au] at hwp;rcases h4 with ⟨h5,h6⟩ | ⟨j,b,t,h5,h6,h7⟩
  ·rw[h6] at hwp;have hw:Region.wanted o (yielded br a.tmps)=true:=by simp[Region.wanted,h5]
   rw[hw,if_pos rfl];exact step hwp
  ·rw[h7] at hwp;simp only at hwp;split at hwp
   ·rename_i b' hb';rw[ve hs h5 h6 hb'];split at hwp
    ·rename_i hbb;subst hbb;simp only[BEq.rfl,if_true];exact step hwp
    ·rename_i hbb;have:(b'==b)=false:=by simpa using hbb
     rw[this];simp only[zy0,if_false];exact ⟨fun f _=>nj c f,vd hQ l gs' _ _ w hgs hwp (by rw[h2];exact hs.oJ h3)⟩
   ·rename_i hb';rw[vf hs h5 h6 hb'];simp only[zy0,if_false];exact ⟨fun f _=>nj c f,vd hQ l gs' _ _ w hgs hwp (by rw[h2];exact hs.oJ h3)⟩
   ·cases hwp
end
def aJ.sl:aJ→List Nat
 | .t n=>[n]
 | .c _=>[]
def vV:Option aJ→List Nat
 |some x=>x.sl
 |none=>[]
def jP(l:List aJ):List Nat:=l.flatMap aJ.sl
def bH.cO:bH→List Nat
 | .mv x=>x.sl
 | .pick c a b=>c.sl++(a.sl++b.sl)
 | .bin _ x y=>x.sl++y.sl
 | .eqv _ _ x y=>x.sl++y.sl
 | .nilS _ x=>x.sl
 | .conv _ x=>x.sl
 | .un _ x=>x.sl
 | .ld _ x=>x.sl
 | .fa _ _ x=>x.sl
 | .fl _ _ _ x=>x.sl
 | .ia _ _ x i=>x.sl++i.sl
 | .is _ x i=>x.sl++i.sl
 | .ix _ _ _ x i=>x.sl++i.sl
 | .len x=>x.sl
 | .lenT x=>x.sl
 | .va _ _ x=>x.sl
 | .sl _ x lo hi mx=>x.sl++(vV lo++(vV hi++vV mx))
 | .bld _ ps=>jP (ps.map (·.2))
 | .bs _ _ ps=>jP ps
 | .ext x _=>x.sl
 | .mk _ caps=>jP caps
 | .alloc _=>[]
 | .box x=>x.sl
 | .aS _ x v=>x.sl++v.sl
 | .eB _ _ _ _ s x=>s.sl++x.sl
 | .ln _ _ _ _ s x=>s.sl++x.sl
 | .cap x=>x.sl
 | .bs0 _=>[]
 | .kh _ _ x=>x.sl
 | .iz _ x y=>x.sl++y.sl
 | .call _ args=>jP args
 | .fF x args=>x.sl++jP args
 | .jf _ args=>jP args
 | .nilC x=>x.sl
 | .ptrE _ x y=>x.sl++y.sl
 | .max2 x y=>x.sl++y.sl
 | .prim _ xs=>jP xs
 | .b2s x=>x.sl
 | .fC x=>x.sl
 | .kX _ _ _ n=>n.sl
 | .mA=>[]
 | .nu .. =>[]
 | .lk _ _ _ m k=>m.sl++k.sl
 | .lK _ m k v=>m.sl++(k.sl++v.sl)
 | .nt _ m k=>m.sl++k.sl
 | .lS x=>x.sl
 | .lL x=>x.sl
 | .ent x=>x.sl
def aF.cO(g:aF):List Nat:=g.op.cO++(match g.guard with | some (t,_)=>[t] | none=>[])
def bH.hv:bH→Nat
 | .mv _ | .pick .. | .bin .. | .eqv .. | .nilS .. | .conv .. | .un .. | .fl .. | .ix .. | .lenT _ | .bld .. | .ext .. | .mk .. | .nilC _ | .ptrE .. | .max2 .. | .prim .. =>0
 | .ld .. | .fa .. | .ia .. | .is .. | .len _ | .va .. | .bs .. | .sl .. | .cap _ | .bs0 _ | .lk .. | .ent _ | .b2s _=>1
 | .call .. | .fF .. =>2
 | .alloc _ | .box _=>3
 | .aS .. =>4
 | .eB .. | .ln .. | .kh .. | .iz .. | .jf .. | .kX .. | .mA | .nu .. | .lK .. | .nt .. | .lS _ | .lL _ | .fC _=>5
def xN(a b:Nat):Bool:=(decide (a≤2)&&decide (b≤3))||(a==0&&b==4)
def ou(g h:aF):Bool:=xN g.op.hv h.op.hv&&(match g.dst with
  |some d => !h.cO.contains d&&h.dst != some d
  |none=>true)&&(match h.dst with
  |some d => !g.cO.contains d
  |none=>true)
def eh(A A':af)(l:List Nat):Prop:=∀ k∈l,A'.t k=A.t k
section
variable {A A':af}
theorem cZ{x:aJ}(h:eh A A' x.sl):aj A' x=aj A x:=by
 cases x with
 |t n=>exact h n (by simp[aJ.sl])
 |c x=>rfl
theorem eh.l{l m:List Nat}(h:eh A A' (l++m)):eh A A' l:=fun k hk=>h k (List.mem_append_left _ hk)
theorem eh.r{l m:List Nat}(h:eh A A' (l++m)):eh A A' m:=fun k hk=>h k (List.mem_append_right _ hk)
theorem lB:∀ {l:List aJ},eh A A' (jP l)→l.map (aj A')=l.map (aj A)
 | [],_=>rfl
 |x::l,h=>by
  simp only[jP,List.flatMap_cons] at h;simp only[zz9,cZ h.l,lB (l:=l) h.r]
theorem qC{x:Option aJ}(h:eh A A' (vV x)):x.map (aj A')=x.map (aj A):=by
 cases x with
 |none=>rfl
 |some x=>simp only[zy5,cZ (x:=x) h]
theorem Ec:∀ {l:List (Nat×aJ)},eh A A' (jP (l.map (·.2)))→(l.map fun p=>(p.1,aj A' p.2))=l.map fun p=>(p.1,aj A p.2)
 | [],_=>rfl
 |x::l,h=>by
  simp only[jP,zz9,List.flatMap_cons] at h;simp only[zz9,cZ h.l,Ec (l:=l) h.r]
theorem s8{f g:I→Option I}(h:∀ x v,f x=some v→g x=some v):∀ {xs vs:List I},jm f xs=some vs→jm g xs=some vs
 | [],vs,hx=>by simpa only[jm] using hx
 |x::xs,vs,hx=>by
  simp only[jm] at hx ⊢;cases h1:f x with
  |none=>rw[h1] at hx;cases hx
  |some y=>cases h2:jm f xs with
   |none=>rw[h1,h2] at hx;cases hx
   |some ys=>rw[h1,h2] at hx;rw[h x y h1,s8 h h2];exact hx
theorem yp(hu:en A A'):∀ (k:Nat) (x v:I),iA A k x=some v→iA A' k x=some v
 |0,_,_,h=>by simp[iA] at h
 |k+1,x,v,h=>by
  have ih:=yp hu k;simp only[iA] at h ⊢;split at h
  ·rename_i hc;rw[if_pos hc];exact h
  ·rename_i hc;rw[if_neg hc];cases x <;>simp only[] at h ⊢ <;>try (cases h;done)
   case agg fs =>
    simp only[t8] at h ⊢;obtain ⟨a,h1,h2⟩:=h;exact ⟨a,s8 ih h1,h2⟩
   case func f fs =>
    split at h
    case isFalse hf=>rw[if_neg hf];exact h
    rename_i hf;rw[if_pos hf];simp only[t8] at h ⊢;obtain ⟨a,h1,h2⟩:=h;exact ⟨a,s8 ih h1,h2⟩
   case ptr n p =>
    cases hd:ct A (.ptr n p) with
    |none=>rw[hd] at h;cases h
    |some y =>
     rw[hd] at h;rw[jU hu hd];simp only[t8] at h ⊢;obtain ⟨a,h1,h2⟩:=h;exact ⟨a,ih _ _ h1,h2⟩
   case view n p sz lo l =>
    cases hd:ct A (.ptr n p) with
    |none=>rw[hd] at h;cases h
    |some y=>rw[hd] at h;rw[jU hu hd];exact h
   case mref n =>
    cases ho:A.o n with
    |none=>rw[ho] at h;cases h
    |some y =>
     rw[ho] at h;rw[hu n y ho];cases y <;>try (cases h;done)
     simp only at h ⊢;split at h
     ·rename_i hk;rw[if_pos hk];simp only[t8] at h ⊢;obtain ⟨a,h1,h2⟩:=h;exact ⟨a,s8 ih h1,h2⟩
     ·cases h
   case own n l =>
    cases ho:A.o n with
    |none=>rw[ho] at h;cases h
    |some y=>rw[ho] at h;rw[hu n y ho];exact h
mutual
theorem Eo(hu:en A A'){aG:Bool} : ∀ {x v:I},bh aG A x=some v→bh aG A' x=some v
 | .ptr n p,v,h=>by
  simp only[bh] at h ⊢;cases aG <;>simp only[zy0,if_false,if_true] at h ⊢
  ·exact h
  ·cases hd:ct A (.ptr n p) with
   |none=>rw[hd] at h;cases h
   |some y =>
    rw[hd] at h;rw[jU hu hd];simp only at h ⊢;split at h
    ·rename_i hc;rw[if_pos hc];exact h
    ·rename_i hc;rw[if_neg hc];simp only[t8] at h ⊢;obtain ⟨a,h1,h2⟩:=h;exact ⟨a,yp hu 9 _ _ h1,h2⟩
 | .mref n,v,h=>by
  simp only[bh] at h ⊢;cases aG <;>simp only[zy0,if_false,if_true] at h ⊢
  ·exact h
  ·cases ho:A.o n with
   |none=>rw[ho] at h;cases h
   |some y =>
    rw[ho] at h;rw[hu n y ho];cases y <;>try (cases h;done)
    simp only at h ⊢;split at h
    ·rename_i hk;rw[if_pos hk];simp only[t8] at h ⊢;obtain ⟨a,h1,h2⟩:=h;exact ⟨a,s8 (yp hu 9) h1,h2⟩
    ·cases h
 | .dx _,_,h=>by simp[bh] at h
 | .dA _ _,_,h=>by simpa only[bh] using h
 | .own n k,v,h=>by
  simp only[bh] at h ⊢;cases ho:A.o n with
  |none=>rw[ho] at h;cases h
  |some y=>rw[ho] at h;rw[hu n y ho];exact h
 | .view n p sz lo k,v,h=>by
  simp only[bh] at h ⊢;cases aG <;>simp only[zy0,if_false,if_true] at h ⊢
  ·exact h
  ·cases hd:ct A (.ptr n p) with
   |none=>rw[hd] at h;cases h
   |some y=>rw[hd] at h;rw[jU hu hd];exact h
 | .func f caps,v,h=>by
  simp only[bh] at h ⊢;split at h
  case isFalse hf=>rw[if_neg hf];exact h
  rename_i hf;rw[if_pos hf];simp only[t8] at h ⊢;obtain ⟨a,h1,h2⟩:=h;exact ⟨a,kP hu h1,h2⟩
 | .agg fs,v,h=>by
  simp only[bh,t8] at h ⊢;obtain ⟨a,h1,h2⟩:=h;exact ⟨a,kP hu h1,h2⟩
 | .nils _,_,h | .c0 _,_,h | .tuple _,_,h | .undef,_,h | .dv,_,h | .bool _,_,h | .int _ _,_,h | .ak _,_,h | .nilp,_,h | .dO,_,h | .dh,_,h | .any,_,h | .raw _,_,h | .slice _ _,_,h | .ref _,_,h | .iface _ _,_,h=>by simpa only[bh] using h
theorem kP(hu:en A A'){aG:Bool} : ∀ {xs vs:List I},bO aG A xs=some vs→bO aG A' xs=some vs
 | [],vs,h=>by simpa only[bO] using h
 |x::xs,vs,h=>by
  simp only[bO] at h ⊢;cases h1:bh aG A x with
  |none=>rw[h1] at h;cases h
  |some y=>cases h2:bO aG A xs with
   |none=>rw[h1,h2] at h;cases h
   |some ys=>rw[h1,h2] at h;rw[Eo hu h1,kP hu h2];exact h
end
theorem zR{op:bH}(hc:op.hv=0)(h:eh A A' op.cO):bf A' op=bf A op:=by
 cases op <;>simp only[bH.hv] at hc <;>try (cases hc;done)
 all_goals simp only[bH.cO] at h
 case mv x=>simp only[bf,cZ h]
 case pick c a b=>simp only[bf,cZ h.l,cZ h.r.l,cZ h.r.r]
 case bin _ x y=>simp only[bf,cZ h.l,cZ h.r]
 case eqv _ _ x y=>simp only[bf,cZ h.l,cZ h.r]
 case nilS x=>simp only[bf,cZ h]
 case conv x=>simp only[bf,cZ h]
 case un x=>simp only[bf,cZ h]
 case fl x=>simp only[bf,cZ h]
 case ix x i=>simp only[bf,cZ h.l,cZ h.r]
 case lenT x=>simp only[bf,cZ h]
 case bld zs ps=>simp only[bf,Ec h]
 case ext x i=>simp only[bf,cZ h]
 case mk f caps=>simp only[bf,lB h]
 case nilC x=>simp only[bf,cZ h]
 case ptrE neg x y=>simp only[bf,cZ h.l,cZ h.r]
 case max2 x y=>simp only[bf,cZ h.l,cZ h.r]
 case prim p xs=>simp only[bf,lB h]
theorem aeg(hu:en A A'){m:I}{q:List I×List I}(h:ib A m=some q):ib A' m=some q:=by
 cases m with
 |mref n =>
  simp only[ib] at h ⊢;cases hd:A.o n with
  |none=>simp only[hd] at h;cases h
  |some y=>simp only[hd] at h;simp only[hu n y hd];exact h
 |raw v=>cases v <;>first | (cases h;done) | (rename_i m;cases m <;>first | exact h | cases h)
 |dA ks vs=>exact h
 |_=>simp only[ib] at h;cases h
theorem ahf(hu:en A A'){sz:Nat}{x:I}{es:List I}(h:du A sz x=some es):du A' sz x=some es:=by
 cases x <;>simp only[du] at h ⊢ <;>try (exact h)
 ·rename_i n l;cases hd:A.o n with
  |none=>rw[hd] at h;cases h
  |some y=>rw[hd] at h;rw[hu n y hd];exact h
 ·rename_i n p z lo k;cases hd:ct A (.ptr n p) with
  |none=>rw[hd] at h;cases h
  |some y=>rw[hd] at h;rw[jU hu hd];exact h
theorem G7{op:bH}(hu:en A A')(h:eh A A' op.cO){v:I}(ae:bf A op=some v):bf A' op=some v:=by
 by_cases hc:op.hv=0
 ·rw[zR hc h];exact ae
 cases op <;>try (exact absurd rfl hc)
 all_goals simp only[bH.cO] at h
 case ld s x =>
  simp only[bf,cZ h] at ae ⊢;cases hd:ct A (aj A x) with
  |none=>rw[hd] at ae;cases ae
  |some y=>rw[hd] at ae;rw[jU hu hd];exact ae
 case fa f off x =>
  simp only[bf,cZ h] at ae ⊢;generalize aj A x=z at *;cases z <;>try (first | exact ae | (rename_i y;cases y <;>exact ae))
  rename_i n p;cases hd:ct A (.ptr n p) with
  |none=>simp only[hd] at ae;cases ae
  |some y=>simp only[hd] at ae;simp only[jU hu hd];exact ae
 case ia n esz x i =>
  simp only[bf,cZ h.l,cZ h.r] at ae ⊢;generalize aj A x=z at *;cases z <;>try (first | exact ae | (rename_i y;cases y <;>exact ae))
  rename_i n p;cases hd:ct A (.ptr n p) with
  |none=>simp only[hd] at ae;(repeat' split at ae) <;>cases ae
  |some y=>simp only[hd] at ae;simp only[jU hu hd];exact ae
 case is esz x i =>
  simp only[bf,cZ h.l,cZ h.r] at ae ⊢;generalize aj A i=q at *;cases q <;>try (exact ae)
  simp only at ae ⊢;generalize aj A x=z at *;cases z <;>try (first | exact ae | (rename_i y;cases y <;>exact ae))
  ·rename_i n p;cases hd:A.o n with
   |none=>simp only[hd] at ae;cases ae
   |some y=>simp only[hd] at ae;simp only[hu n y hd];exact ae
  ·rename_i n p sz lo k;simp only at ae ⊢;cases hd:ct A (.ptr n p) with
   |none=>simp only[hd] at ae;cases ae
   |some y=>simp only[hd] at ae;simp only[jU hu hd];exact ae
 case len x =>
  simp only[bf,cZ h] at ae ⊢;generalize aj A x=z at *;cases z <;>try (first | exact ae | (rename_i y;cases y <;>exact ae))
  rename_i n p;cases hd:A.o n with
  |none=>simp only[hd] at ae;cases ae
  |some y=>simp only[hd] at ae;simp only[hu n y hd];exact ae
 case cap x =>
  simp only[bf,cZ h] at ae ⊢;generalize aj A x=z at *;cases z <;>try (first | exact ae | (rename_i y;cases y <;>exact ae))
  rename_i n p sz lo k;simp only at ae ⊢;cases hd:ct A (.ptr n p) with
  |none=>simp only[hd] at ae;cases ae
  |some y=>simp only[hd] at ae;simp only[jU hu hd];exact ae
 case bs0 esz=>exact ae
 case sl esz x lo hi mx =>
  simp only[bf,cZ h.l,qC h.r.l,qC h.r.r.l,qC h.r.r.r] at ae ⊢;generalize aj A x=z at *;cases z <;>try (first | exact ae | (rename_i y;cases y <;>exact ae))
  rename_i n p sz l0 k;simp only at ae ⊢;cases hd:ct A (.ptr n p) with
  |none=>simp only[hd] at ae;cases ae
  |some y=>simp only[hd] at ae;simp only[jU hu hd];exact ae
 case va n esz x =>
  simp only[bf,cZ h] at ae ⊢;generalize aj A x=z at *;cases z <;>try (first | exact ae | (rename_i y;cases y <;>exact ae))
  rename_i n p;cases hd:ct A (.ptr n p) with
  |none=>simp only[hd] at ae;cases ae
  |some y=>simp only[hd] at ae;simp only[jU hu hd];exact ae
 case lk ty z ok m k =>
  simp only[bf,cZ h.l,cZ h.r] at ae ⊢;cases hd:ib A (aj A m) with
  |none=>rw[hd] at ae;cases ae
  |some y=>rw[hd] at ae;rw[aeg hu hd];exact ae
 case ent x =>
  simp only[bf,cZ h] at ae ⊢;generalize aj A x=z at *;cases z <;>try (exact ae)
  rename_i n;simp only at ae ⊢;cases hd:A.o n with
  |none=>simp only[hd] at ae;cases ae
  |some y=>simp only[hd] at ae;simp only[hu n y hd];exact ae
 case b2s x =>
  simp only[bf,cZ h] at ae ⊢;cases hd:du A 1 (aj A x) with
  |none=>rw[hd] at ae;cases ae
  |some y=>rw[hd] at ae;rw[ahf hu hd];exact ae
 case bs esz ps =>
  simp only[bf,lB h] at ae ⊢;cases hd:bO false A (ps.map (aj A)) with
  |none=>rw[hd] at ae;cases ae
  |some y=>rw[hd] at ae;rw[kP hu hd];exact ae
 all_goals (simp only[bf] at ae;cases ae)
end
def pass(A:af)(g:aF):Prop:=match g.guard with | none=>True | some (t,b)=>A.t t=.bool b
def gR(A:af)(g:aF):Prop:=match g.guard with | none=>False | some (t,b)=>A.t t=.bool (!b)∨A.t t=.undef
inductive kd (P:Program) (A:af):bH→I→Prop where
 |pure {op:bH} {v:I} : bf A op=some v→kd P A op v
 |flat {f:FuncId} {args:List aJ} {cargs:List I} {r:I} : bO true A (args.map (aj A))=some cargs→aP P f cargs r→r.flat=true→kd P A (.call f args) r
 |lead {f:FuncId} {args:List aJ} {cargs:List I} {r:I} : bO false A (args.map (aj A))=some cargs→aP P f cargs r→kd P A (.call f args) r
 |wV {x:aJ} {f:FuncId} {caps:List I} {args:List aJ} {cargs:List I} {r:I} : aj A x=.func f caps→bO true A (jk f (args.map (aj A)) caps)=some cargs→aP P (ml f) cargs r→r.flat=true→kd P A (.fF x args) r
 |wW {x:aJ} {f:FuncId} {caps:List I} {args:List aJ} {cargs:List I} {r:I} : aj A x=.func f caps→bO false A (jk f (args.map (aj A)) caps)=some cargs→aP P (ml f) cargs r→kd P A (.fF x args) r
def uf(A:af)(op:bH)(x:I):Prop:=op=.alloc x∨∃ y,op=.box y∧(aj A y).cm=true∧x=aj A y
def ug(A:af)(op:bH)(n:Nat)(z:al):Prop:=∃ s x v p b old,op=.aS s x v∧aj A x=.ptr n p∧A.o n=some (.box b)∧b.at p=some old∧zD s (aj A v) old∧z=.box (b.dR p (aj A v))
def KN(A:af)(dst:Option Nat)(op:bH)(B:af):Prop:=op.hv=5∧∀ (rest:List aF) (k:af→cD),aX A dst op rest k=k B
theorem ahD{A:af}{neg:Bool}{x:aJ}{v:I}(h:bf A (.nilS neg x)=some v):kC (aj A x)=false:=by
 simp only[bf] at h;generalize aj A x=q at *;cases q <;>simp only[kC] <;>simp only at h <;>try (cases h;done)
 rename_i sz es;cases es with
 |nil=>simp at h
 |cons=>rfl
inductive fx (P:Program) (g:aF) (A:af):af→Prop where
 |skip:gR A g→fx P g A (A.aR g.dst .undef)
 |val {v:I} : pass A g→kd P A g.op v→fx P g A (A.aR g.dst v)
 |iF {d:Nat} {x:I} : pass A g→g.dst=some d→uf A g.op x→A.o d=none→fx P g A ((A.aM d (.box x)).put d (.ptr d []))
 |aS {n:Nat} {z:al} : pass A g→g.dst=none→ug A g.op n z→fx P g A (A.aM n z)
 |hJ {B:af} : pass A g→KN A g.dst g.op B→fx P g A B
theorem xA{b' b:Bool}(h:b'≠b):b' = !b:=by cases b <;>cases b' <;>simp_all
section
variable {P:Program} {Y:Value→List I→List (Nat×al)→cv→Prop} {K:af→Prop}
theorem fx.Gv{A:af}{g:aF}{rest:List aF}(hp:pass A g)(h:aY P Y true K (aX A g.dst g.op rest (au rest))):∃ B,fx P g A B∧aY P Y true K (au rest B):=by
 have pure:aY P Y true K (cL (bf A g.op) fun v=>au rest (A.aR g.dst v))→∃ B,fx P g A B∧aY P Y true K (au rest B):=by
  intro h;cases ae:bf A g.op with
  |none=>rw[ae] at h;cases h
  |some v=>rw[ae] at h;exact ⟨_,.val hp (.pure ae),h⟩
 obtain ⟨dst,op,gd⟩:=g;cases op with
 |alloc z =>
  simp only[aX] at h;split at h
  case h_2=>cases h
  split at h
  case h_2=>cases h
  rename_i hd _ ho;exact ⟨_,.iF hp rfl (.inl rfl) ho,h⟩
 |box x =>
  simp only[aX] at h;split at h
  case h_2=>cases h
  split at h
  case h_2=>cases h
  rename_i hd _ ho;split at h
  case isFalse=>cases h
  rename_i ae;exact ⟨_,.iF hp rfl (.inr ⟨x,rfl,ae,rfl⟩) ho,h⟩
 |aS s x v =>
  simp only[aX] at h;split at h
  case h_2=>cases h
  split at h
  case h_2=>cases h
  rename_i n p hx;split at h
  case h_2=>cases h
  rename_i b hb;split at h
  case h_2=>cases h
  rename_i old hat;split at h
  case isFalse=>cases h
  rename_i hok;exact ⟨_,.aS hp rfl ⟨s,x,v,p,b,old,rfl,hx,hb,hat,hok,rfl⟩,h⟩
 |nilS neg x =>
  simp only[aX] at h;split at h
  ·cases h with | any hdr=>cases hdr
  ·exact pure h
 |eB e esz bytes z s x =>
  simp only[aX] at h;split at h
  ·rename_i n l hs';split at h
   case h_2=>cases h
   rename_i sz ys hx';split at h
   case h_3=>cases h
   case h_2 =>
    rename_i T xs hn;split at h
    case isFalse=>cases h
    rename_i hok;exact ⟨_,.hJ hp ⟨rfl,fun rest k=>by simp only[aX,hs',hx',hn,if_pos hok]⟩,h⟩
   rename_i T sz' es hn;split at h
   case isFalse=>cases h
   rename_i hok;exact ⟨_,.hJ hp ⟨rfl,fun rest k=>by simp only[aX,hs',hx',hn,if_pos hok]⟩,h⟩
  ·rename_i hno;have hg:∀ (rest:List aF) (k:af→cD),aX A dst (.eB e esz bytes z s x) rest k=eI A dst esz bytes z (aj A s) (du A esz (aj A s)) (du A esz (aj A x)) k:=fun rest k=>by
    simp only[aX]
   simp only[eI] at h hg;split at h
   case h_2=>cases h
   rename_i es ys hse hsx;simp only[hse,hsx] at hg;have grow:¬ aY P Y true K (fE A dst esz bytes z es ys (au rest)):=fun h=>by
    simp only[fE] at h;split at h
    case h_2=>cases h
    split at h
    case h_2=>cases h
    split at h
    case isFalse=>cases h
    cases h with | any hdr=>cases hdr
   split at h
   ·rename_i hne;simp only[if_pos hne] at hg;exact ⟨_,.hJ hp ⟨rfl,hg⟩,h⟩
   ·rename_i hne;simp only[if_neg hne] at hg;split at h
    ·exact absurd h grow
    ·exact absurd h grow
    ·rename_i n p sz lo l hsv;split at h
     case h_2=>cases h
     rename_i b hn;split at h
     case h_2=>cases h
     rename_i fs hat;split at h
     ·rename_i hroom;split at h
      case isFalse=>cases h
      rename_i hok;simp only[hsv,hn,hat,if_pos hroom,if_pos hok] at hg;exact ⟨_,.hJ hp ⟨rfl,hg⟩,h⟩
     ·exact absurd h grow
    ·cases h
 |jf f args =>
  simp only[aX] at h;cases h with | ext r hdr=>cases hdr
 |ln e esz bytes z s n =>
  exfalso
  simp only[aX] at h;split at h
  case h_2=>cases h
  simp only[sa] at h;split at h
  case h_2=>cases h
  split at h
  case h_2=>cases h
  split at h
  case h_2=>cases h
  split at h
  case h_2=>cases h
  split at h
  case isFalse=>cases h
  simp only[fE] at h;split at h
  case h_2=>cases h
  split at h
  case h_2=>cases h
  split at h
  case isFalse=>cases h
  cases h with | any hdr=>cases hdr
 |mA =>
  simp only[aX] at h;split at h
  case h_2=>cases h
  rename_i d;split at h
  case h_2=>cases h
  rename_i hf;exact ⟨_,.hJ hp ⟨rfl,fun rest k=>by simp only[aX,hf]⟩,h⟩
 |nu e sz =>
  simp only[aX] at h;split at h
  case h_2=>cases h
  rename_i d;split at h
  case h_2=>cases h
  rename_i hf;exact ⟨_,.hJ hp ⟨rfl,fun rest k=>by simp only[aX,hf]⟩,h⟩
 |kX e bytes z n =>
  simp only[aX] at h;split at h
  case h_2=>cases h
  rename_i d;split at h
  case h_2=>cases h
  rename_i hf;split at h
  case h_2=>cases h
  rename_i k m hn;split at h
  case isFalse=>cases h
  rename_i hc;exact ⟨_,.hJ hp ⟨rfl,fun rest k=>by simp only[aX,hf,hn,if_pos hc]⟩,h⟩
 |lK ty m key v =>
  simp only[aX] at h;split at h
  case h_2=>cases h
  split at h
  case h_2=>cases h
  rename_i n hm;split at h
  case h_2=>cases h
  rename_i ks vs hn;split at h
  case h_2=>cases h
  rename_i ks' vs' hl;exact ⟨_,.hJ hp ⟨rfl,fun rest k=>by simp only[aX,hm,hn,hl]⟩,h⟩
 |nt ty m key =>
  simp only[aX] at h;split at h
  case h_2=>cases h
  split at h
  case h_2=>cases h
  rename_i n hm;split at h
  case h_2=>cases h
  rename_i ks vs hn;split at h
  case h_2=>cases h
  rename_i ks' vs' hl;exact ⟨_,.hJ hp ⟨rfl,fun rest k=>by simp only[aX,hm,hn,hl]⟩,h⟩
 |lS x =>
  simp only[aX] at h;split at h
  case h_2=>cases h
  rename_i d;split at h
  case h_2=>cases h
  rename_i hf;split at h
  case h_2=>cases h
  rename_i ks vs hx;exact ⟨_,.hJ hp ⟨rfl,fun rest k=>by simp only[aX,hf,hx]⟩,h⟩
 |lL x =>
  simp only[aX] at h;split at h
  case h_2=>cases h
  rename_i n hx;split at h
  case h_2=>cases h
  rename_i ks vs left cur hn;split at h
  ·rename_i hl;exact ⟨_,.hJ hp ⟨rfl,fun rest k=>by simp only[aX,hx,hn,if_pos hl]⟩,h⟩
  ·cases h with | any hdr=>cases hdr
 |kh esz z x =>
  simp only[aX] at h;split at h
  case h_2=>cases h
  have hg:∀ (rest:List aF) (k:af→cD),aX A none (.kh esz z x) rest k=og A esz z k (aj A x):=fun rest k=>rfl;simp only[og] at h hg;split at h
  ·rename_i n p sz lo l ae;split at h
   case h_2=>cases h
   rename_i b hn;split at h
   case h_2=>cases h
   rename_i fs hat;split at h
   case isFalse=>cases h
   rename_i hok;simp only[ae,hn,hat,if_pos hok] at hg;exact ⟨_,.hJ hp ⟨rfl,hg⟩,h⟩
  ·rename_i z0 ae;simp only[ae] at hg;exact ⟨_,.hJ hp ⟨rfl,hg⟩,h⟩
  ·rename_i z0 ae;simp only[ae] at hg;exact ⟨_,.hJ hp ⟨rfl,hg⟩,h⟩
  ·cases h
 |iz esz x y =>
  have hg:∀ (rest:List aF) (k:af→cD),aX A dst (.iz esz x y) rest k=mh A dst esz k (aj A x) (lU A esz (aj A y)):=fun rest k=>rfl;simp only[aX] at h;simp only[mh] at h hg;split at h
  ·rename_i n p sz lo l ys ae hsx;split at h
   case h_2=>cases h
   rename_i b hn;split at h
   case h_2=>cases h
   rename_i fs hat;split at h
   case isFalse=>cases h
   rename_i hok;simp only[ae,hsx,hn,hat,if_pos hok] at hg;exact ⟨_,.hJ hp ⟨rfl,hg⟩,h⟩
  ·rename_i z0 ys ae hsx;simp only[ae,hsx] at hg;exact ⟨_,.hJ hp ⟨rfl,hg⟩,h⟩
  ·cases h
 |fC x =>
  simp only[aX] at h;unfold jM at h;split at h
  case h_2=>cases h
  split at h
  case h_2=>cases h
  split at h
  case h_2=>cases h
  cases h with | any hdr=>cases hdr
 |call f args =>
  simp only[aX] at h;generalize h1:bO true A (args.map (aj A))=a1 at h;generalize h2:bO false A (args.map (aj A))=a2 at h;cases h with
  |flat r hc hf hw=>exact ⟨_,.val hp (.flat h1 hc hf),hw⟩
  |lead r hc hw=>exact ⟨_,.val hp (.lead h2 hc),hw⟩
  |vy r hdr=>cases hdr
  |kQ ns r hdr=>cases hdr
  |bG aG ρ os cargs post hdr=>cases hdr
 |fF x args =>
  simp only[aX] at h;split at h
  case h_3=>cases h
  case h_2=>cases h with | w0 os cargs post hdr=>cases hdr
  rename_i f caps hx;generalize h1:bO true A (jk f (args.map (aj A)) caps)=a1 at h;generalize h2:bO false A (jk f (args.map (aj A)) caps)=a2 at h;cases h with
  |flat r hc hf hw=>exact ⟨_,.val hp (.wV hx h1 hc hf),hw⟩
  |lead r hc hw=>exact ⟨_,.val hp (.wW hx h2 hc),hw⟩
  |vy r hdr=>cases hdr
  |kQ ns r hdr=>cases hdr
  |bG aG ρ os cargs post hdr=>cases hdr
 |_=>exact pure (by simpa only[aX] using h)
theorem fx.zt{A:af}{g:aF}{rest:List aF}(h:aY P Y true K (au (g::rest) A)):∃ B,fx P g A B∧aY P Y true K (au rest B):=by
 simp only[au] at h;split at h
 ·rename_i hg;exact fx.Gv (by simp only[pass,hg]) h
 ·rename_i t b hg;split at h
  ·rename_i b' hb;split at h
   ·rename_i hbb;subst hbb;exact fx.Gv (by simp only[pass,hg];exact hb) h
   ·rename_i hbb;refine ⟨_,.skip (by simp only[gR,hg];exact .inl (by rw[hb,xA hbb])),h⟩
  ·rename_i hb;exact ⟨_,.skip (by simp only[gR,hg];exact .inr hb),h⟩
  ·cases h
theorem o7{A:af}{g:aF}{rest:List aF}(hp:pass A g):au (g::rest) A=aX A g.dst g.op rest (au rest):=by
 simp only[au];cases hg:g.guard with
 |none=>rfl
 |some tb =>
  obtain ⟨t,b⟩:=tb;simp only[pass,hg] at hp;simp only[hp,if_true]
theorem fx.AN{A B:af}{g:aF}{rest:List aF}(h:fx P g A B)(hw:aY P Y true K (au rest B)):aY P Y true K (au (g::rest) A):=by
 cases h with
 |skip hn =>
  simp only[au];cases hg:g.guard with
  |none=>simp only[gR,hg] at hn
  |some tb =>
   obtain ⟨t,b⟩:=tb;simp only[gR,hg] at hn;rcases hn with hn | hn
   ·simp only[hn];rw[if_neg (by cases b <;>simp)];exact hw
   ·simp only[hn];exact hw
 |val hp ae =>
  rw[o7 hp];obtain ⟨dst,op,gd⟩:=g;cases ae with
  |pure ae =>
   have hv':bf A op=some _:=ae;cases op <;>try (simp only[aX,hv',cL] <;>first | exact hw | (simp only[bf] at hv';cases hv');done)
   all_goals first
    |(simp only[bf] at hv';cases hv';done)
    |(simp only[aX,ahD hv',zy0,if_false,hv',cL];exact hw)
  |flat h1 h2 h3=>simp only[aX,h1];exact .flat _ h2 h3 hw
  |lead h1 h2=>simp only[aX,h1];exact .lead _ h2 hw
  |wV h0 h1 h2 h3=>simp only[aX,h0,h1];exact .flat _ h2 h3 hw
  |wW h0 h1 h2=>simp only[aX,h0,h1];exact .lead _ h2 hw
 |iF hp hd hm ho =>
  rw[o7 hp];obtain ⟨dst,op,gd⟩:=g;simp only at hd;subst hd;rcases hm with hm | ⟨y,hm,ae,rfl⟩ <;>simp only at hm <;>subst hm
  ·simp only[aX,ho];exact hw
  ·simp only[aX,ho,ae,if_true];exact hw
 |aS hp hd hm =>
  rw[o7 hp];obtain ⟨dst,op,gd⟩:=g;simp only at hd;subst hd;obtain ⟨s,x,v,p,b,old,h1,h2,h3,h4,h5,rfl⟩:=hm;simp only at h1;subst h1;simp only[aX,h2,h3,h4,if_pos h5];exact hw
 |hJ hp hm =>
  rw[o7 hp,hm.2];exact hw
theorem kd.cR{A A':af}{op:bH}{v:I}(h:kd P A op v)(hu:en A A')(ha:eh A A' op.cO):kd P A' op v:=by
 cases h with
 |pure h=>exact .pure (G7 hu ha h)
 |flat h1 h2 h3=>exact .flat (by rw[lB ha];exact kP hu h1) h2 h3
 |lead h1 h2=>exact .lead (by rw[lB ha];exact kP hu h1) h2
 |wV h0 h1 h2 h3=>simp only[bH.cO] at ha;exact .wV (by rw[cZ ha.l];exact h0) (by rw[lB ha.r];exact kP hu h1) h2 h3
 |wW h0 h1 h2=>simp only[bH.cO] at ha;exact .wW (by rw[cZ ha.l];exact h0) (by rw[lB ha.r];exact kP hu h1) h2
theorem kd.kQ{A A':af}{op:bH}{v:I}(h:kd P A op v)(hc:op.hv=0)(ha:eh A A' op.cO):kd P A' op v:=by
 cases h with
 |pure h=>exact .pure (by rw[zR hc ha];exact h)
 |_=>simp[bH.hv] at hc
theorem oH{A A':af}{g:aF}(ha:eh A A' g.cO)(h:pass A g):pass A' g:=by
 unfold pass at *;cases hg:g.guard with
 |none=>trivial
 |some tb=>simp only[hg] at h ⊢;rw[ha tb.1 (by simp[aF.cO,hg])];exact h
theorem qY{A A':af}{g:aF}(ha:eh A A' g.cO)(h:gR A g):gR A' g:=by
 unfold gR at *;cases hg:g.guard with
 |none=>simp only[hg] at h
 |some tb=>simp only[hg] at h ⊢;rw[ha tb.1 (by simp[aF.cO,hg])];exact h
theorem aF.ku{A A':af}{g:aF}(ha:eh A A' g.cO):eh A A' g.op.cO:=fun k hk=>ha k (List.mem_append_left _ hk)
def l8(P:Program)(g:aF)(A:af)(v:I):Prop:=(gR A g∧v=.undef)∨(pass A g∧kd P A g.op v)
theorem l8.step{A:af}{g:aF}{v:I}(h:l8 P g A v):fx P g A (A.aR g.dst v):=by
 rcases h with ⟨h,rfl⟩ | ⟨h,k⟩
 ·exact .skip h
 ·exact .val h k
theorem l8.cR{A A':af}{g:aF}{v:I}(h:l8 P g A v)(hu:en A A')(ha:eh A A' g.cO):l8 P g A' v:=by
 rcases h with ⟨h,rfl⟩ | ⟨h,k⟩
 ·exact .inl ⟨qY ha h,rfl⟩
 ·exact .inr ⟨oH ha h,k.cR hu (aF.ku ha)⟩
theorem l8.kQ{A A':af}{g:aF}{v:I}(h:l8 P g A v)(hc:g.op.hv=0)(ha:eh A A' g.cO):l8 P g A' v:=by
 rcases h with ⟨h,rfl⟩ | ⟨h,k⟩
 ·exact .inl ⟨qY ha h,rfl⟩
 ·exact .inr ⟨oH ha h,k.kQ hc (aF.ku ha)⟩
theorem fx.jv{A B:af}{g:aF}(h:fx P g A B)(hc:g.op.hv≤2):∃ v,l8 P g A v∧B=A.aR g.dst v:=by
 cases h with
 |skip h=>exact ⟨_,.inl ⟨h,rfl⟩,rfl⟩
 |val h k=>exact ⟨_,.inr ⟨h,k⟩,rfl⟩
 |iF h1 h2 h3 h4=>rcases h3 with h3 | ⟨y,h3,_⟩ <;>(rw[h3] at hc;simp[bH.hv] at hc)
 |aS h1 h2 h3=>obtain ⟨s,x,v,p,b,old,h4,_⟩:=h3;rw[h4] at hc;simp[bH.hv] at hc
 |hJ h1 h3=>rw[h3.1] at hc;omega
theorem rm{A:af}{a b:Option Nat}{v u:I}(h:∀ d,a=some d→b≠some d):(A.aR a v).aR b u=(A.aR b u).aR a v:=by
 cases a with
 |none=>rfl
 |some d=>cases b with
  |none=>rfl
  |some e =>
   have hne:d≠e:=fun he=>h d rfl (by rw[he]);simp only[af.aR,af.put,af.mk.injEq,and_true]
   funext k
   by_cases h1:k=e <;>by_cases h2:k=d <;>simp_all
theorem iG{A:af}{d:Option Nat}{v:I} : (A.aR d v).o=A.o:=by cases d <;>rfl
theorem nB{A:af}{d:Option Nat}{v:I}{l:List Nat}(h:∀ k,d=some k→k∉l):eh A (A.aR d v) l:=by
 cases d with
 |none=>exact fun _ _=>rfl
 |some e =>
  intro k hk;have:k≠e:=fun he=>h e rfl (he▸hk);simp[af.aR,af.put,this]
theorem eh.symm{A A':af}{l:List Nat}(h:eh A A' l):eh A' A l:=fun k hk=>(h k hk).symm
theorem uf.same{A A':af}{op:bH}{x:I}(h:uf A op x)(ha:eh A A' op.cO):uf A' op x:=by
 rcases h with h | ⟨y,h1,h2,h3⟩
 ·exact .inl h
 ·subst h1;have:=cZ (x:=y) ha;exact .inr ⟨y,rfl,by rw[this];exact h2,by rw[this];exact h3⟩
theorem ug.same{A A':af}{op:bH}{n:Nat}{z:al}(h:ug A op n z)(ho:A'.o=A.o)(ha:eh A A' op.cO):ug A' op n z:=by
 obtain ⟨s,x,v,p,b,old,h1,h2,h3,h4,h5,h6⟩:=h;subst h1;simp only[bH.cO] at ha;have e1:=cZ ha.l;have e2:=cZ ha.r;exact ⟨s,x,v,p,b,old,rfl,by rw[e1];exact h2,by rw[ho];exact h3,h4,by rw[e2];exact h5,by rw[e2];exact h6⟩
theorem adm{g h:aF}(hi:ou g h=true):xN g.op.hv h.op.hv=true∧(∀ d,g.dst=some d→d∉h.cO)∧(∀ d,g.dst=some d→h.dst≠some d)∧(∀ d,h.dst=some d→d∉g.cO):=by
 simp only[ou,zz0] at hi;obtain ⟨⟨h1,h2⟩,h3⟩:=hi;refine ⟨h1,fun d hd =>?_,fun d hd =>?_,fun d hd =>?_⟩
 ·rw[hd] at h2;simp at h2;exact h2.1
 ·rw[hd] at h2;simp at h2;exact h2.2
 ·rw[hd] at h3;simpa using h3
theorem fx.tO{A B C:af}{g h:aF}(hi:ou g h=true)(h1:fx P g A B)(h2:fx P h B C):∃ B',fx P h A B'∧fx P g B' C:=by
 obtain ⟨hc,i1,i2,i3⟩:=adm hi;simp only[xN,Bool.or_eq_true,zz0,decide_eq_true_eq,beq_iff_eq] at hc;have hg2:g.op.hv≤2:=by rcases hc with hc | hc <;>omega
 obtain ⟨v,ae,rfl⟩:=h1.jv hg2;have ag:eh (A.aR g.dst v) A h.cO:=(nB i1).symm;have cR:en (A.aR g.dst v) A:=fun n x hx=>by rwa [iG] at hx
 cases h2 with
 |skip hn =>
  exact ⟨_,.skip (qY ag hn),by
   rw[rm i2];exact (ae.cR (by intro n x hx;rwa [iG]) (nB i3)).step⟩
 |val hp hu =>
  exact ⟨_,.val (oH ag hp) (hu.cR cR (aF.ku ag)),by
   rw[rm i2];exact (ae.cR (by intro n x hx;rwa [iG]) (nB i3)).step⟩
 |iF hp hd hm ho =>
  rename_i d x;rw[iG] at ho;refine ⟨_,.iF (oH ag hp) hd (hm.same (aF.ku ag)) ho,?_⟩;have e:((A.aR g.dst v).aM d (.box x)).put d (.ptr d [])=((A.aM d (.box x)).put d (.ptr d [])).aR g.dst v:=by
   cases hgd:g.dst with
   |none=>rfl
   |some e =>
    have hne:e≠d:=fun he=>i2 e hgd (by rw[hd,he]);simp only[af.aR,af.put,af.aM,af.mk.injEq,and_true]
    funext k
    by_cases h1:k=e <;>by_cases h2:k=d <;>simp_all
  rw[e];refine (ae.cR (fun n y hy =>?_) (fun k hk =>?_)).step
  ·have:n≠d:=fun he=>by rw[he,ho] at hy;cases hy
   simp only[af.put,af.aM,this,if_false];exact hy
  ·have:k≠d:=fun he=>i3 d hd (he▸hk);simp only[af.put,af.aM,this,if_false]
 |aS hp hd hm =>
  rename_i n z;have hc0:g.op.hv=0:=by
   obtain ⟨s,x,v,p,b,old,h4,_⟩:=hm;rcases hc with hc | hc
   ·rw[h4] at hc;exact absurd hc.2 (by simp[bH.hv])
   ·exact hc.1
  refine ⟨_,.aS (oH ag hp) hd (hm.same iG.symm (aF.ku ag)),?_⟩;have e:(A.aR g.dst v).aM n z=(A.aM n z).aR g.dst v:=by cases g.dst <;>rfl
  rw[e];exact (l8.kQ (A':=A.aM n z) ae hc0 (fun _ _=>rfl)).step
 |hJ hp hm =>
  exfalso
  rw[hm.1] at hc;omega
theorem aY.tO{A:af}{g h:aF}{rest:List aF}(hi:ou g h=true)(hw:aY P Y true K (au (g::h::rest) A)):aY P Y true K (au (h::g::rest) A):=by
 obtain ⟨B,h1,h2⟩:=fx.zt hw;obtain ⟨C,h3,h4⟩:=fx.zt h2;obtain ⟨B',h5,h6⟩:=fx.tO hi h1 h3;exact h5.AN (h6.AN h4)
theorem aY.jz{g:aF} : ∀ {l:List aF} {r:List aF} {A:af},(∀ j∈l,ou j g=true)→aY P Y true K (au (l++g::r) A)→aY P Y true K (au (g::(l++r)) A)
 | [],r,A,_,h=>h
 |j::l,r,A,hi,h=>by
  obtain ⟨B,h1,h2⟩:=fx.zt (g:=j) (rest:=l++g::r) h;have h3:=aY.jz (l:=l) (r:=r) (fun k hk=>hi k (by simp[hk])) h2;exact aY.tO (hi j (by simp)) (h1.AN h3)
end
def eR(o:Oper):List Nat:=(o.after.toList.filter fun e=>Region.binds .any e).map (·.on)
def p6(cl:List Nat):List Nat→Nat
 | []=>0
 |k::ks=>(2^k ||| cl.getD k 0) ||| p6 cl ks
def uN(on:List (List Nat))(gs:List aF)(cl:List Nat):Bool :=
 (List.range gs.length).all fun i=>(on.getD i []).all (fun k=>decide (k<i))&&Nat.beq (cl.getD i 0) (p6 cl (on.getD i [])) &&
  (List.range i).all fun j=>(cl.getD i 0).testBit j||ou (gs.getD j default) (gs.getD i default)
theorem AQ{cl:List Nat}{j:Nat} : ∀ {l:List Nat},(p6 cl l).testBit j=true→j∈l∨∃ k∈l,(cl.getD k 0).testBit j=true
 | [],h=>by simp[p6] at h
 |k::ks,h=>by
  simp only[p6,Nat.testBit_or,Bool.or_eq_true,Nat.testBit_two_pow,decide_eq_true_eq] at h;rcases h with (h | h) | h
  ·exact .inl (by simp[h])
  ·exact .inr ⟨k,by simp,h⟩
  ·rcases AQ h with h | ⟨m,h1,h2⟩
   ·exact .inl (by simp[h])
   ·exact .inr ⟨m,by simp[h1],h2⟩
structure w9 (l:List Oper) (gs:List aF):Prop where
 mY:∀ i o,l[i]?=some o→∀ k∈eR o,k<i
 yU:∀ (S:Nat→Prop),(∀ i o,l[i]?=some o→S i→∀ k∈eR o,S k)→∀ i o g j,l[i]?=some o→gs[i]?=some g→(∀ k∈eR o,S k)→j<i→¬ S j→ou (gs.getD j default) g=true
theorem R0{l:List Oper}{gs:List aF}{cl:List Nat}(hlen:gs.length=l.length)(h:uN (l.map eR) gs cl=true):w9 l gs:=by
 simp only[uN,zx1,List.mem_range] at h;have bw:∀ i o,l[i]?=some o→∃ g,gs[i]?=some g∧(∀ k∈eR o,k<i)∧(∀ j,(cl.getD i 0).testBit j=true→j∈eR o∨∃ k∈eR o,(cl.getD k 0).testBit j=true)∧∀ j,j<i→(cl.getD i 0).testBit j=true∨ou (gs.getD j default) g=true:=by
  intro i o ho;have hi:i<l.length:=(zy4.1 ho).1;have h1:=h i (by omega);have hon:(l.map eR).getD i []=eR o:=by simp[zz2,ho]
  have hgi:i<gs.length:=by omega
  have hg:gs[i]?=some gs[i]:=zz5 hgi;have hgd:gs.getD i default=gs[i]:=by simp[zz2,hg]
  rw[hon,hgd] at h1;simp only[zz0,zx1,decide_eq_true_eq,Bool.or_eq_true,List.mem_range] at h1;have hb:=Nat.eq_of_beq_eq_true h1.1.2;exact ⟨_,hg,h1.1.1,fun j hj=>AQ (by rw[←hb];exact hj),h1.2⟩
 refine ⟨fun i o ho=>(bw i o ho).choose_spec.2.1,?_⟩;intro S hS i o g j ho hg hon hj hnj;have key:∀ n i o,i≤n→l[i]?=some o→(∀ k∈eR o,S k)→∀ j,(cl.getD i 0).testBit j=true→S j:=by
  intro n
  induction n with
  |zero =>
   intro i o hi ho hon j hj;obtain ⟨g,_,h1,h2,_⟩:=bw i o ho;rcases h2 j hj with h | ⟨k,hk,_⟩
   ·exact hon j h
   ·have:=h1 k hk;omega
  |succ n ih =>
   intro i o hi ho hon j hj;obtain ⟨g,_,h1,h2,_⟩:=bw i o ho;rcases h2 j hj with h | ⟨k,hk,hjk⟩
   ·exact hon j h
   ·have hki:=h1 k hk;have hkl:k<l.length:=Nat.lt_trans hki (zy4.1 ho).1;obtain ⟨ok,hok⟩:∃ ok,l[k]?=some ok:=⟨l[k],zz5 hkl⟩
    exact ih k ok (by omega) hok (hS k ok hok (hon k hk)) j hjk
 obtain ⟨g',hg',_,_,h3⟩:=bw i o ho;rw[hg,v6] at hg';subst hg';rcases h3 j hj with h | h
 ·exact absurd (key i i o (zy1 _) ho hon j h) hnj
 ·exact h
def jK(listed:Array Bool)(n:Nat):List Nat:=(List.range n).filter fun i => !listed.getD i true
def pE(gs:List aF)(listed:Array Bool)(n:Nat):List aF:=(jK listed n).map fun i=>gs.getD i default
theorem Iy{i n:Nat}(h:i<n):List.range n=List.range i++i::(List.range (n-(i+1))).map (i+1 + ·):=by
 conv=>lhs;rw[show n=(i+1)+(n-(i+1)) by omega,List.range_add]
 rw[List.range_succ];simp
theorem agn{listed:Array Bool}{i n:Nat}(h:i<n)(hs:listed.size=n)(hu:listed.getD i true=false):∃ l1 l2,jK listed n=l1++i::l2∧jK (listed.setIfInBounds i true) n=l1++l2∧∀ j∈l1,j<i∧listed.getD j true=false:=by
 have same:∀ j,j≠i→(listed.setIfInBounds i true).getD j true=listed.getD j true:=fun j hj=>getD_set_ne true (Ne.symm hj);have lE:(listed.setIfInBounds i true).getD i true=true:=by simp[hs,h]
 refine ⟨(List.range i).filter fun j => !listed.getD j true,((List.range (n-(i+1))).map (i+1 + ·)).filter fun j => !listed.getD j true,?_,?_,?_⟩
 ·simp only[jK];rw[Iy h,List.filter_append,List.filter_cons];simp only[hu,Bool.not_false,if_true]
 ·simp only[jK];rw[Iy h,List.filter_append,List.filter_cons];simp only[lE,Bool.not_true,zy0,if_false]
  congr 1
  ·refine List.filter_congr fun j hj =>?_;rw[same j (by have:=List.mem_range.1 hj;omega)]
  ·refine List.filter_congr fun j hj =>?_;obtain ⟨k,_,rfl⟩:=zx4.1 hj;rw[same _ (by omega)]
 ·intro j hj;simp only[List.mem_filter,List.mem_range,Bool.not_eq_true'] at hj;exact hj
theorem IL{n:Nat} : jK (Array.replicate n false) n=List.range n:=by
 simp only[jK];refine List.filter_eq_self.2 fun i hi =>?_;have:=List.mem_range.1 hi;simp[this]
theorem aeh(gs:List aF):((List.range gs.length).map fun i=>gs.getD i default)=gs:=by
 apply List.ext_getElem
 ·simp
 ·intro i h1 h2;simp[zz2,h2]
section
variable {c:cP}
theorem oe{P:Program}{n:Nat}{br:Array Oper} : ∀ {l:List Oper} {gs:List aF},gy P n br l=some gs→gs.length=l.length∧∀ (i:Nat) (o:Oper),l[i]?=some o→∃ g,gs[i]?=some g∧na P n br o=some g
 | [],gs,h=>by simp only[gy,v6] at h;subst h;exact ⟨rfl,fun i o ho=>by simp at ho⟩
 |o::l,gs,h=>by
  simp only[gy] at h;split at h
  case h_2=>cases h
  rename_i g gs' hg hgs;simp only[v6] at h;subst h;obtain ⟨h1,h2⟩:=oe (l:=l) hgs;refine ⟨by simp[h1],fun i o' ho =>?_⟩;cases i with
  |zero=>simp only[List.getElem?_cons_zero,v6] at ho;subst ho;exact ⟨g,rfl,hg⟩
  |succ i=>simpa using h2 i o' (by simpa using ho)
theorem abW{K:af→Prop}{br:Array Oper}{Q:Exit→Act→World→Prop}{o:Oper}{g:aF}{rest:List aF}{A:af}{a:Act}{w:World}{Kw:Act→World→Prop}(hg:na c.P c.n br o=some g)(hwp:aY c.P c.Y true K (au (g::rest) A))(hs:bP c A a w)
  (hK:∀ B a' w',aY c.P c.Y true K (au rest B)→bP c B a' w'→Kw a' w'):if Region.wanted o (yielded br a.tmps) then o.wpIn c.bo 9 c.P a w Kw Q else (∀ f,o.about c.P w a.eval=some f→c.bo.fn f)∧Kw (a.put o.dst undef) w:=by
 obtain ⟨h1,h2,h3,h4⟩:=qo hg;have step:aY c.P c.Y true K (aX A g.dst g.op rest (au rest))→o.wpIn c.bo 9 c.P a w Kw Q:=fun h =>
  u6 h1 h2.symm (by rw[h2];exact h3) h hs (fun B a' w' hw hs'=>hK B a' w' hw hs')
 simp only[au] at hwp;rcases h4 with ⟨h5,h6⟩ | ⟨j,b,t,h5,h6,h7⟩
 ·rw[h6] at hwp;have hw:Region.wanted o (yielded br a.tmps)=true:=by simp[Region.wanted,h5]
  rw[hw,if_pos rfl];exact step hwp
 ·rw[h7] at hwp;simp only at hwp;split at hwp
  ·rename_i b' hb';rw[ve hs h5 h6 hb'];split at hwp
   ·rename_i hbb;subst hbb;simp only[BEq.rfl,if_true];exact step hwp
   ·rename_i hbb;have:(b'==b)=false:=by simpa using hbb
    rw[this];simp only[zy0,if_false];exact ⟨fun f _=>nj c f,hK _ _ _ hwp (by rw[h2];exact hs.oJ h3)⟩
  ·rename_i hb';rw[vf hs h5 h6 hb'];simp only[zy0,if_false];exact ⟨fun f _=>nj c f,hK _ _ _ hwp (by rw[h2];exact hs.oJ h3)⟩
  ·cases hwp
theorem K9{K:af→Prop}{br:Array Oper}{gs:List aF}{Q:Exit→Act→World→Prop}(hQ:∀ B a w,K B→bP c B a w→Q .normal a w)(hgs:gy c.P c.n br br.toList=some gs)(hd:w9 br.toList gs) :
  ∀ (fuel:Nat) (listed:Array Bool) (A:af) (a:Act) (w:World),listed.size=br.size→(∀ i o,br.toList[i]?=some o→listed.getD i false=true→∀ k∈eR o,listed.getD k false=true)→(jK listed br.size).length≤fuel →
   aY c.P c.Y true K (au (pE gs listed br.size) A)→bP c A a w→wpAnyIn c.bo 9 c.P .any br Q fuel listed a w:=by
 obtain ⟨hlen,hat⟩:=oe hgs;have onOf_mem:∀ (o:Oper) (e:Edge),e∈o.after→Region.binds .any e=true→e.on∈eR o:=fun o e he hb=>by
  simp only[eR,zx4,List.mem_filter];exact ⟨e,⟨by simpa using he,hb⟩,rfl⟩
 have of_onOf:∀ (o:Oper) (k:Nat),k∈eR o→∃ e∈o.after,Region.binds .any e=true∧e.on=k:=fun o k hk=>by
  simp only[eR,zx4,List.mem_filter] at hk;obtain ⟨e,⟨h1,h2⟩,h3⟩:=hk;exact ⟨e,by simpa using h1,h2,h3⟩
 have last:∀ (listed:Array Bool) (A:af) (a:Act) (w:World),listed.size=br.size→Region.ready .any br listed=[]→aY c.P c.Y true K (au (pE gs listed br.size) A)→bP c A a w→Q .normal a w:=by
  intro listed A a w hsz hr hwp hs;have hnone:jK listed br.size=[]:=by
   have all:∀ n,∀ i,i<n→i<br.size→listed.getD i true=true:=by
    intro n
    induction n with
    |zero=>intro i hi;omega
    |succ n ih =>
     intro i hi his;cases hb:listed.getD i true with
     |true=>rfl
     |false =>
      exfalso
      have ho:br[i]?=some br[i]:=zu2 his;have:i∈Region.ready .any br listed:=mem_ready.2 ⟨hb,br[i],ho,fun e he hbd=>by
       have hlt:=hd.mY i br[i] (by simp) e.on (onOf_mem _ e he hbd);have h1:=ih e.on (by omega) (by omega);have h2:e.on<listed.size:=by omega
       simpa[Array.getD_eq_getD_getElem?,h2] using h1⟩
      rw[hr] at this;cases this
   simp only[jK];refine List.filter_eq_nil_iff.2 fun i hi =>?_;have:=all (i+1) i (by omega) (List.mem_range.1 hi);simp only[this,Bool.not_true,zy0,not_false_eq_true]
  simp only[pE,hnone,zy9,au] at hwp;cases hwp with
  |done hk=>exact hQ A a w hk hs
 intro fuel
 induction fuel with
 |zero =>
  intro listed A a w hsz hcl hcnt hwp hs;have hnone:jK listed br.size=[]:=List.length_eq_zero_iff.1 (by omega);have hr:Region.ready .any br listed=[]:=by
   refine List.eq_nil_iff_forall_not_mem.2 fun i hi =>?_;obtain ⟨h1,o,ho,_⟩:=mem_ready.1 hi;have:i∈jK listed br.size:=by
    simp only[jK,List.mem_filter,List.mem_range,h1,Bool.not_false,and_true];exact (zy8.1 ho).1
   rw[hnone] at this;cases this
  exact ⟨hr,last listed A a w hsz hr hwp hs⟩
 |succ fuel ih =>
  intro listed A a w hsz hcl hcnt hwp hs;refine ⟨fun hr=>last listed A a w hsz hr hwp hs,fun i hi =>?_⟩;obtain ⟨hun,o,ho,hall⟩:=mem_ready.1 hi;have hin:i<br.size:=(zy8.1 ho).1;obtain ⟨l1,l2,e1,e2,hl1⟩:=agn hin hsz hun;have hol:br.toList[i]?=some o:=by simpa using ho
  obtain ⟨g,hgi,hcg⟩:=hat i o hol;have hon:∀ k∈eR o,listed.getD k false=true:=fun k hk=>by
   obtain ⟨e,h1,h2,h3⟩:=of_onOf o k hk;exact h3▸hall e h1 h2
  have hgd:gs.getD i default=g:=by simp[zz2,hgi]
  have hwp':aY c.P c.Y true K (au (g::pE gs (listed.setIfInBounds i true) br.size) A):=by
   simp only[pE,e1,zw3,zz9,hgd] at hwp;simp only[pE,e2,zw3];refine aY.jz (fun j hj =>?_) hwp;obtain ⟨k,hk,rfl⟩:=zx4.1 hj;obtain ⟨hk1,hk2⟩:=hl1 k hk;refine hd.yU (fun k=>listed.getD k false=true) hcl i o g k hol hgi hon hk1 ?_;have hks:k<listed.size:=by omega
   simp[Array.getD_eq_getD_getElem?,hks] at hk2 ⊢;exact hk2
  unfold wpOpIn;rw[ho];refine abW hcg hwp' hs fun B a' w' hw hs'=>ih _ B a' w' (by simpa using hsz) ?_ ?_ hw hs'
  ·intro m om hom hm k hk;by_cases hmi:m=i
   ·subst hmi;rw[hol,v6] at hom;subst hom;exact getD_set_true (hon k hk)
   ·rw[getD_set_ne false (Ne.symm hmi)] at hm;exact getD_set_true (hcl m om hom hm k hk)
  ·have:(jK listed br.size).length=(jK (listed.setIfInBounds i true) br.size).length+1:=by
    rw[e1,e2];simp;omega
   omega
theorem agm{K:af→Prop}{br:Array Oper}{gs:List aF}{Q:Exit→Act→World→Prop}{id:Nat}{A:af}{a:Act}{w:World}(hm:c.P.follows .mixedOrders=true)(hQ:∀ B a w,K B→bP c B a w→Q .normal a w)(hgs:gy c.P c.n br br.toList=some gs)(hd:w9 br.toList gs)
  (hwp:aY c.P c.Y true K (au gs A)) (hs:bP c A a w):(Code.region id br true).wpIn c.bo 9 c.P Q a w:=by
 refine wpIn_region_any hm (K9 hQ hgs hd br.size (Array.replicate br.size false) A a _ (by simp) ?_ ?_ ?_ ?_)
 ·intro i o _ h
  exfalso
  simp only[Array.getD_eq_getD_getElem?,Array.getElem?_replicate] at h;split at h <;>simp at h
 ·rw[IL];simp
 ·have hl:=(oe hgs).1;simp only[zw5] at hl;simp only[pE,IL];rw[←hl,aeh];exact hwp
 ·obtain ⟨D,E,hs⟩:=hs;exact ⟨D,E,hs.grow (w' := { w with drawn:=w.drawn+1 }) ⟨rfl,rfl,rfl,zy1 _,fun _ _=>rfl⟩ (fun _ _ h=>h) (fun _ _ h _=>h) (fun b o h=>hs.dy b o h)⟩
end
inductive bn where
 |b9 (on:Option (List (List Nat))) (gs:List aF)
 |seq (x y:bn)
 |cond (b:aJ) (x y:bn)
 |block (id:Nat) (x:bn)
 |loop (x:bn)
 |exit (id:Nat)
 |ret
 |skip
 |scope (x:bn)
 |label
 |sg
 |pM (f:aJ) (ps:List Nat) (x y:bn)
 deriving Inhabited
def eU(P:Program)(n:Nat):Code→Option bn
 | .region _ br draw=>match gy P n br br.toList with
  |some gs=>if (!draw||P.follows .mixedOrders)=true then some (.b9 (bif draw then some (br.toList.map eR) else none) gs) else none
  |none=>some .sg
 | .seq x y=>match eU P n x,eU P n y with
  |some x,some y=>some (.seq x y)
  |_,_=>none
 | .cond b x y=>match ba P 0 b,eU P n x,eU P n y with
  |some b,some x,some y=>some (.cond b x y)
  |_,_,_=>none
 | .block id x=>match eU P n x with
  |some x=>some (.block id x)
  |none=>none
 | .loop x=>match eU P n x with
  |some x=>some (.loop x)
  |none=>none
 | .exit id=>some (.exit id)
 | .ret=>some .ret
 | .skip=>some .skip
 | .scope x=>match eU P n x with
  |some x=>some (.scope x)
  |none=>none
 | .label _=>some .label
 | .rangeFunc f ps x y=>match ba P 0 f,eU P n x,eU P n y with
  |some f,some x,some y=>if (ps.toList.all fun p=>p<n)=true then some (.pM f ps.toList x y) else none
  |_,_,_=>none
 |_=>none
def vB(c:cP)(Q:Exit→af→Prop):Exit→Act→World→Prop:=fun e a w=>∃ A,Q e A∧bP c A a w
def ab(c:cP)(x:bn)(Q:Exit→af→Prop)(A:af):Prop :=
 ∀ code,eU c.P c.n code=some x→∀ a w,bP c A a w→code.wpIn c.bo 9 c.P (vB c Q) a w
def di(k:af→Prop)(Q:Exit→af→Prop):Exit→af→Prop
 | .normal,A=>k A
 |e,A=>Q e A
def mc(id:Nat)(Q:Exit→af→Prop):Exit→af→Prop
 | .exit id',A=>if id'=id then Q .normal A else Q (.exit id') A
 |e,A=>Q e A
section
variable {c:cP} {A:af} {Q:Exit→af→Prop}
def RB(d:Option (List (List Nat)))(gs:List aF)(cl:List Nat):Bool:=match d with
 |none=>true
 |some on=>uN on gs cl
theorem ab.b9{d:Option (List (List Nat))}{gs:List aF}{cl:List Nat}(hd:RB d gs cl=true)(h:∀ K:af→Prop,(∀ B,Q .normal B→K B)→aY c.P c.Y d.isSome K (au gs A)):ab c (.b9 d gs) Q A:=by
 intro code hc a w hs;cases code <;>simp only[eU] at hc <;>try (first | (cases hc;done) | ((repeat' split at hc) <;>cases hc;done))
 rename_i id br draw;split at hc
 ·rename_i gs' hgs;split at hc
  case isFalse=>cases hc
  rename_i hok;simp only[v6,bn.b9.injEq] at hc;obtain ⟨rfl,rfl⟩:=hc;cases draw with
  |false=>exact wpIn_region_list (vd (K:=Q .normal) (fun B a w hk hs=>⟨B,hk,hs⟩) br.toList gs' A a w hgs (h _ fun _ hb=>hb) hs)
  |true =>
   simp only[Bool.not_true,Bool.false_or] at hok;exact agm (K:=Q .normal) hok (fun B a w hk hs=>⟨B,hk,hs⟩) hgs (R0 (oe hgs).1 hd) (h _ fun _ hb=>hb) hs
 ·cases hc
theorem ab.seq{x y:bn}(h:ab c x (di (fun B=>ab c y Q B) Q) A):ab c (.seq x y) Q A:=by
 intro code hc a w hs;cases code <;>simp only[eU] at hc <;>try (first | (cases hc;done) | ((repeat' split at hc) <;>cases hc;done))
 rename_i cx cy;split at hc
 ·rename_i x' y' hx hy;simp only[v6,bn.seq.injEq] at hc;obtain ⟨rfl,rfl⟩:=hc;refine wpIn_seq (wpIn_mono (h cx hx a w hs) ?_);rintro e a' w' ⟨B,hq,hs'⟩;cases e <;>simp only[di,Exit.then] at * <;>first | exact hq cy hy a' w' hs' | exact ⟨B,hq,hs'⟩
 ·cases hc
theorem ab.cond{b:aJ}{x y:bn}{t:Bool}(hb:aj A b=.bool t)(h1:t=true→ab c x Q A)(h2:t=false→ab c y Q A):ab c (.cond b x y) Q A:=by
 intro code hc a w hs;cases code <;>simp only[eU] at hc <;>try (first | (cases hc;done) | ((repeat' split at hc) <;>cases hc;done))
 rename_i cb cx cy;split at hc
 ·rename_i b' x' y' hb' hx hy;simp only[v6,bn.cond.injEq] at hc;obtain ⟨rfl,rfl,rfl⟩:=hc;obtain ⟨D,E,hs'⟩:=hs;have ae:=bz hs' hb';rw[hb] at ae;exact wpIn_cond_split (mJ ae) (fun ht=>h1 ht cx hx a w ⟨D,E,hs'⟩) (fun ht=>h2 ht cy hy a w ⟨D,E,hs'⟩)
 ·cases hc
theorem ab.block{id:Nat}{x:bn}(h:ab c x (mc id Q) A):ab c (.block id x) Q A:=by
 intro code hc a w hs;cases code <;>simp only[eU] at hc <;>try (first | (cases hc;done) | ((repeat' split at hc) <;>cases hc;done))
 rename_i id' cx;split at hc
 ·rename_i x' hx;simp only[v6,bn.block.injEq] at hc;obtain ⟨rfl,rfl⟩:=hc;refine wpIn_block (wpIn_mono (h cx hx a w hs) ?_);rintro e a' w' ⟨B,hq,hs'⟩;cases e <;>simp only[mc,Exit.inBlock] at * <;>first
   |exact ⟨B,hq,hs'⟩
   |(split at hq
     ·rename_i he;rw[if_pos he];exact ⟨B,hq,hs'⟩
     ·rename_i he;rw[if_neg he];exact ⟨B,hq,hs'⟩)
 ·cases hc
theorem ab.exit{id:Nat}(h:Q (.exit id) A):ab c (.exit id) Q A:=by
 intro code hc a w hs;cases code <;>simp only[eU] at hc <;>try (first | (cases hc;done) | ((repeat' split at hc) <;>cases hc;done))
 simp only[v6,bn.exit.injEq] at hc;subst hc;exact wpIn_exit ⟨A,h,hs⟩
theorem ab.ret(h:Q .ret A):ab c .ret Q A:=by
 intro code hc a w hs;cases code <;>simp only[eU] at hc <;>try (first | (cases hc;done) | ((repeat' split at hc) <;>cases hc;done))
 exact wpIn_ret ⟨A,h,hs⟩
theorem ab.skip(h:Q .normal A):ab c .skip Q A:=by
 intro code hc a w hs;cases code <;>simp only[eU] at hc <;>try (first | (cases hc;done) | ((repeat' split at hc) <;>cases hc;done))
 exact wpIn_skip ⟨A,h,hs⟩
theorem Ed{p:Nat→Prop}(h:∃ n,p n):∃ n,p n∧∀ m,p m→n≤m:=by
 obtain ⟨n,hn⟩:=h
 induction n using Nat.strongRecOn with
 |_ n ih =>
  by_cases hm:∃ m,m<n∧p m
  ·obtain ⟨m,h1,h2⟩:=hm;exact ih m h1 h2
  ·exact ⟨n,hn,fun m hp=>Nat.le_of_not_lt fun hlt=>hm ⟨m,hlt,hp⟩⟩
open Classical in
noncomputable def least(p:Nat→Prop):Nat:=if h:∃ n,p n then (Ed h).choose else 0
theorem FO{p:Nat→Prop}(h:∃ n,p n):p (least p)∧∀ m,p m→least p≤m:=by
 simp only[least,dif_pos h];exact (Ed h).choose_spec
theorem ahI{bo:Fence}{N:Nat}{P:Program}{code:Code}{QQ:Exit→Act→World→Prop}(aW:Nat→Act→World→Prop)(round:∀ n a w,aW n a w→code.wpIn bo N P (Exit.then (fun a' w'=>∃ m,m<n∧aW m a' w') QQ) a w) :
  ∀ n a w,aW n a w→(Code.loop code).wpIn bo N P QQ a w:=by
 intro n a w h;refine wpIn_loop (fun a w=>∃ n,aW n a w) (fun a w=>least fun n=>aW n a w) ⟨n,h⟩ ?_;intro a w hI;have hm:=(FO hI).1;refine wpIn_mono (round _ a w hm) ?_;intro e a' w' hq;cases e <;>simp only[Exit.then] at hq ⊢ <;>try exact hq
 obtain ⟨m,h1,h2⟩:=hq;exact ⟨⟨m,h2⟩,Nat.lt_of_le_of_lt ((FO ⟨m,h2⟩).2 m h2) h1⟩
def bt(A B:af):Prop:=∀ (c:cP) (a:Act) (w:World),bP c A a w→bP c B a w
theorem bt.refl(A:af):bt A A:=fun _ _ _ h=>h
theorem bt.trans{A B C:af}(h:bt A B)(k:bt B C):bt A C:=fun c a w hs=>k c a w (h c a w hs)
theorem ab.sub{x:bn}{B:af}(hsub:bt A B)(h:ab c x Q B):ab c x Q A:=fun code hc a w hs=>h code hc a w (hsub c a w hs)
theorem ab.mono{x:bn}{Q':Exit→af→Prop}(h:ab c x Q A)(hq:∀ e B,Q e B→Q' e B):ab c x Q' A :=
 fun code hc a w hs=>wpIn_mono (h code hc a w hs) fun e a' w' ⟨B,h1,h2⟩=>⟨B,hq e B h1,h2⟩
theorem ab.loop{σ:Type}(S:σ→af)(C:σ→Prop)(m:σ→Nat)(s0:σ){x:bn}(h0:C s0)(hsub:bt A (S s0))
  (round:∀ s,C s→ab c x (di (fun B=>∃ s',C s'∧m s'<m s∧bt B (S s')) Q) (S s)):ab c (.loop x) Q A:=by
 intro code hc a w hs;cases code <;>simp only[eU] at hc <;>try (first | (cases hc;done) | ((repeat' split at hc) <;>cases hc;done))
 rename_i cx;split at hc
 ·rename_i x' hx;simp only[v6,bn.loop.injEq] at hc;subst hc;refine ahI (fun n a w=>∃ s,C s∧m s=n∧bP c (S s) a w) ?_ (m s0) a w ⟨s0,h0,rfl,hsub c a w hs⟩;rintro n a w ⟨s,hC,rfl,hs⟩;refine wpIn_mono (round s hC cx hx a w hs) ?_;rintro e a' w' ⟨B,hq,hs'⟩;cases e <;>simp only[di,Exit.then] at * <;>first
   |exact ⟨B,hq,hs'⟩
   |(obtain ⟨s',h1,h2,h3⟩:=hq;exact ⟨m s',h2,s',h1,rfl,h3 c a' w' hs'⟩)
 ·cases hc
end
inductive bu where
 |tmp (t:Nat)
 |cell (a:Nat) (s:Option Nat)
def iw(P:Program):List ResultVar→Option (List bu)
 | []=>some []
 | .tmp t::l=>(iw P l).map (.tmp t :: ·)
 | .cell a t::l=>match fZ P t,iw P l with
  |some s,some l=>some (.cell a s::l)
  |_,_=>none
def wA(A:af):bu→Option I
 | .tmp t=>bh true A (A.t t)
 | .cell a s=>match ct A (A.t a) with
  |some x=>if bS s x then bh true A x else none
  |none=>none
def fr(A:af):List bu→Option (List I)
 | []=>some []
 |r::rs=>match wA A r,fr A rs with
  |some x,some xs=>some (x::xs)
  |_,_=>none
def lP:List I→I
 | [x]=>x
 |xs=>.tuple xs
def oP(args:List I):af:=⟨fun t=>args.getD t .undef,fun _=>none⟩
def lR(rs:List bu)(r:I):Exit→af→Prop
 | .ret,A=>∃ xs,fr A rs=some xs∧lP xs=r
 | .normal,A=>∃ xs,fr A rs=some xs∧lP xs=r
 |_,_=>False
def pX(args:List I)(os:List (Nat×al)):af:=⟨fun t=>args.getD t .undef,aq os⟩
theorem AB{P:Program}{n:Nat}{w:World}{D:aO}{E:aU}{Y:Value→List I→List (Nat×al)→cv→Prop}{args:List I}{os:List (Nat×al)}{vs:List Value}(hD:∀ b o,D b o→b<w.heap.size)(ho:kG (fun _=>True) w D E (aq os))
  (ae:aD w D E args vs) (hn:vs.length≤n) (hos:∀ m,ay os m=true→n≤m∧1000000≤m) (hy:qj ⟨P,w,D,n,cu E,E,Y,none,none⟩) :
  aT ⟨P,w,D,n,cu E,E,Y,none,none⟩ (pX args os) { tmps:=vs.toArray++Array.replicate (n-vs.toArray.size) undef,defers:=[] } w D E:=by
 refine ⟨by simp;omega,⟨[],rfl,.nil,fun _ h=>by simp at h⟩,fun t =>?_,ft.refl _ _,fun _ _ h _=>h,hD,fun m =>?_,ho.cV,fun m e h=>.inr ⟨e,h,.refl e⟩,fun m hm =>?_,fun _ _ h=>h,hy,.refl _ _⟩
 ·have key:∀ (args:List I) (vs:List Value) (t:Nat),aD w D E args vs→aV w D E (args.getD t .undef) (vs.getD t undef):=by
   intro args
   induction args with
   |nil=>intro vs t h;simp only[aD] at h;subst h;simp[aV]
   |cons x xs ih =>
    intro vs t h;simp only[aD] at h;obtain ⟨v,rest,cs,rfl,h1,h2,h3⟩:=h;cases t with
    |zero=>simpa using gD h1 h2
    |succ t=>simpa using ih rest t h3
  have:=key args vs t ae;have e:(vs.toArray++Array.replicate (n-vs.toArray.size) undef).getD t undef=vs.getD t undef:=by
   simp only[Array.getD_eq_getD_getElem?,zz2];rcases Nat.lt_or_ge t vs.length with h | h
   ·rw[Array.getElem?_append_left (by simpa using h)];simp
   ·rw[Array.getElem?_append_right (by simpa using h),List.getElem?_eq_none h];simp only[Array.getElem?_replicate];split <;>rfl
  simp only[pX];rw[e];exact this
 ·have h:=ho.bG m;simp only[pX];cases hx:aq os m with
  |none=>rw[hx] at h;exact h
  |some x =>
   rw[hx] at h;cases x with
   |box x =>
    obtain ⟨b,cs,T,k1,_,k3⟩:=h;exact ⟨b,cs,T,k1,.inr ⟨m,_,k1,rfl⟩,k3⟩
   |b6 T sz es =>
    obtain ⟨aL,k1,k2,k3⟩:=h;refine ⟨aL,k1,k2,?_⟩;cases aL with
    |none=>exact k3
    |some bc =>
     obtain ⟨b,cap⟩:=bc;obtain ⟨cs,pre,rest,_,k4⟩:=k3;exact ⟨cs,pre,rest,.inr ⟨m,_,k1,rfl⟩,k4⟩
   |eN T xs =>
    obtain ⟨aL,k1,k2,k3⟩:=h;refine ⟨aL,k1,k2,?_⟩;cases aL with
    |none=>exact k3
    |some bc =>
     obtain ⟨b,cap⟩:=bc;obtain ⟨cs,rest,_,k4⟩:=k3;exact ⟨cs,rest,.inr ⟨m,_,k1,rfl⟩,k4⟩
   |dU x =>
    obtain ⟨b,k1,_,k3⟩:=h;exact ⟨b,k1,.inr ⟨m,_,k1,rfl⟩,k3⟩
   |cI ks vs =>
    obtain ⟨b,es,ck,k1,_,k3⟩:=h;exact ⟨b,es,ck,k1,.inr ⟨m,_,k1,rfl⟩,k3⟩
   |it ks vs left cur =>
    obtain ⟨r,b,es,ck,eM,se,la,k1,_,k3⟩:=h;exact ⟨r,b,es,ck,eM,se,la,k1,.inr ⟨m,_,k1,rfl⟩,k3⟩
 ·have h:=ho.bG m;refine hos m ?_;cases hx:aq os m with
  |none=>rw[hx] at h;exact absurd h hm
  |some x=>simp[ay,hx]
def tv(tmps:Array Value):ResultVar→Sem Value
 | .tmp t=>pure (tmps.getD t undef)
 | .cell a t=>do loadVar t (←asAddr (tmps.getD a undef))
theorem agz(fn:Func)(tmps:Array Value):results fn tmps=(do
  let vs ←fn.results.mapM (tv tmps)
  pure (if h:vs.size=1 then vs[0] else .tuple vs)):=by
 unfold results;rfl
def oK(A:af):bu→Option I
 | .tmp t=>some (A.t t)
 | .cell a s=>match ct A (A.t a) with
  |some x=>if bS s x then some x else none
  |none=>none
def nI(A A0:af)(os:List (Nat×al)):List bu→List I→Prop
 | [],[]=>True
 |r::rs,y::ys=>(∃ x,oK A r=some x∧((y=x∧x.cm=true∧x.only (ay os)=true)∨bh true A0 x=some y))∧nI A A0 os rs ys
 |_,_=>False
def af.lT(A:af)(os:List (Nat×al)):af:=⟨A.t,fun n=>if ay os n then none else A.o n⟩
def ke(rs:List bu)(post:cv)(A:af):Prop :=
 ∃ (os:List (Nat×al)) (xs:List I),(∀ n x,aq os n=some x→A.o n=some x∧x.only (ay os)=true∧x.fm=true)∧nI A (A.lT os) os rs xs∧post (lP xs) os
def pK(rs:List bu)(post:cv):Exit→af→Prop
 | .ret,A=>ke rs post A
 | .normal,A=>ke rs post A
 |_,_=>False
theorem z6{c:cP}{A:af}{a:Act}{w:World}{D:aO}{E:aU}(hs:aT c A a w D E){A0:af}(hu:en A0 A){os:List (Nat×al)}{D':aO}{E':aU}(hw:jh true A0 D E D')(aE:∀ n,ay os n=true→E' n=E n)(hE':∀ n,ay os n=false→E' n=none) :
  ∀ (rs:List ResultVar) (ls:List bu) (xs:List I),iw c.P rs=some ls→nI A A0 os ls xs→∃ vs:List Value,(rs.mapM (tv a.tmps)).run c.P w=.ok vs w∧aD w D' E' xs vs
 | [],ls,xs,hc,hr=>by
  simp only[iw,v6] at hc;subst hc;cases xs with
  |nil=>exact ⟨[],by simp,by simp[aD]⟩
  |cons x xs=>simp[nI] at hr
 |r::rs,ls,xs,hc,hr=>by
  have hl:ej w D E' w D' E':=⟨hw.df,fun _ _ _ _ h=>h,fun _ _ _ h=>h,fun _ aL l h=>⟨aL,l,h,zy1 _,fun _=>rfl⟩,fun _ _ h=>h,fun _ _ h=>h,fun _ _ _ _ h=>h⟩
  have fin1:∀ {x y:I} {v:Value},aV w D E x v→((y=x∧x.cm=true∧x.only (ay os)=true)∨bh true A0 x=some y)→∃ cs,bm y v cs∧ai w D' E' y cs:=by
   intro x y v ae hf;rcases hf with ⟨rfl,h1,h2⟩ | hf
   ·have h3:=aV.later hl (aV.eF aE h2 ae);cases y <;>simp only[aV] at h3 <;>first | (simp[I.cm] at h1;done) | exact h3
   ·have h1:aD w D E [x] [v]:=mM [x] [v] (.cons ae .nil) (by
     intro z hz;simp only[zy7] at hz;subst hz;cases z <;>simp_all[bh,I.cm])
    have h2:=ni (E':=E') hs hu hw [x] [y] [v] h1 (by simp[bO,hf]);simp only[aD] at h2;obtain ⟨v',rest,cs,e,k1,k2,_⟩:=h2;simp only[zx6] at e;obtain ⟨rfl,_⟩:=e;exact ⟨cs,k1,k2⟩
  cases r with
  |tmp t =>
   simp only[iw,t8] at hc;obtain ⟨ls',hl',rfl⟩:=hc;cases xs with
   |nil=>simp[nI] at hr
   |cons y ys =>
    simp only[nI] at hr;obtain ⟨⟨x,h1,h2⟩,h3⟩:=hr;simp only[oK,v6] at h1;subst h1;obtain ⟨vs,k1,k2⟩:=z6 hs hu hw aE hE' rs ls' ys hl' h3;obtain ⟨cs,k3,k4⟩:=fin1 (hs.eG t) h2;refine ⟨a.tmps.getD t undef::vs,?_,?_⟩
    ·simp only[List.mapM_cons,Sem.run_bind,tv,Sem.run_pure,Result.andThen_ok,k1]
    ·simp only[aD];exact ⟨_,vs,cs,rfl,k3,k4,k2⟩
  |cell ad t =>
   simp only[iw] at hc;split at hc
   ·rename_i s ls' hk hl';simp only[v6] at hc;subst hc;cases xs with
    |nil=>simp[nI] at hr
    |cons y ys =>
     simp only[nI] at hr;obtain ⟨⟨x,h1,h2⟩,h3⟩:=hr;obtain ⟨vs,k1,k2⟩:=z6 hs hu hw aE hE' rs ls' ys hl' h3;simp only[oK] at h1;split at h1
     ·rename_i z hz;split at h1
      ·rename_i hok;simp only[v6] at h1;subst h1;obtain ⟨b,off,cs,q1,q2,q3⟩:=hs.BT (hs.eG ad) hz;obtain ⟨v,q4,q5⟩:=IZ hk hok q2 q3;obtain ⟨cs',k3,k4⟩:=fin1 q5 h2;refine ⟨v::vs,?_,?_⟩
       ·have e:(tv a.tmps (.cell ad t)).run c.P w=.ok v w:=by
         simp only[tv,Sem.run_bind,q1,asAddr,Sem.run_pure,Result.andThen_ok,q4]
        simp only[List.mapM_cons,Sem.run_bind,Sem.run_pure,Result.andThen_ok,k1,e]
       ·simp only[aD];exact ⟨_,vs,cs',rfl,k3,k4,k2⟩
      ·cases h1
     ·cases h1
   ·cases hc
theorem aT.Dw{c:cP}{A:af}{a:Act}{w:World}{D:aO}{E:aU}(h:aT c A a w D E)(hb:c.er=none){B:Nat}{ds:List Deferred}(hd:a.defers = { target:=.collected B,args := #[] } :: ds) :
  w.heap[B]?=some (.deferred (some []))∧aT c A { a with defers:=ds } (w.putObj B (.deferred none)) D E:=by
 have hdf:=h.fg;rw[hb] at hdf;obtain ⟨Bs,h1,h2,h3⟩:=hdf;rw[hd] at h1;cases Bs with
 |nil=>cases h1
 |cons B' Bs =>
  simp only[zz9,zx6,Deferred.mk.injEq,Target.collected.injEq,and_true] at h1;obtain ⟨rfl,rfl⟩:=h1;have hB:=h3 B (by simp);have hlt:B<w.heap.size:=(zy8.1 hB.2).1;have hl:ej w D E (w.putObj B (.deferred none)) D E :=
   ⟨fun _ _ h=>h,fun b o v _ ae=>xL hB.2 rfl ae,fun _ _ _ h=>h,fun _ aL l h=>⟨aL,l,h,zy1 _,fun _=>rfl⟩,fun _ _ h=>h,fun _ _ h=>h,fun b es ck _ hm=>(World.putObj_heap_other (fun e=>by rw[e,hB.2] at hm;cases hm)).trans hm⟩
  have hne:∀ {b:Nat} {cs:Array Value} {T:TypeId},w.heap[b]?=some (.cells cs T (0,0))→(w.putObj B (.deferred none)).heap[b]?=w.heap[b]?:=fun {b cs T} hb =>
   World.putObj_heap_other (fun e=>by rw[e,hB.2] at hb;cases hb)
  refine ⟨hB.2,h.sz,by rw[hb];refine ⟨Bs,rfl,(List.nodup_cons.1 h2).2,fun B2 hB2=>⟨(h3 B2 (by simp[hB2])).1,?_⟩⟩;rw[World.putObj_heap_other (fun e=>(List.nodup_cons.1 h2).1 (by rw[←e];exact hB2))];exact (h3 B2 (by simp[hB2])).2,fun t=>aV.later hl (h.eG t),h.dX.trans ⟨rfl,rfl,rfl,by simp,fun k hk =>?_⟩,h.df,fun b o hd=>by have:=h.dy b o hd;simpa using this,fun n =>?_,h.cV,h.ev,h.fu,h.cR,h.fO,h.lV hl⟩
  ·exact World.putObj_heap_other (fun e=>hk (e▸.inl hB.1))
  ·refine (h.bG n).later hl rfl fun e b he hb=>⟨?_,fun _ h=>h⟩
   have hob:=h.bG n;unfold dc at hob;split at hob
   ·rw[hob] at he;cases he
   ·obtain ⟨b',cs,T,k1,_,k3,_⟩:=hob;rw[k1,v6] at he;subst he;simp only[bL.aL,v6] at hb;subst hb;exact World.putObj_heap_other (fun e=>k3.Gl (by rw[e];exact hB.2))
   ·obtain ⟨aL,k1,_,k3⟩:=hob;rw[k1,v6] at he;subst he;split at k3
    ·simp[bL.aL] at hb
    ·obtain ⟨cs,pre,rest,_,k5,_⟩:=k3;simp only[bL.aL,v6] at hb;subst hb;exact hne k5
   ·obtain ⟨b',k1,_,k3,k4,_⟩:=hob;rw[k1,v6] at he;subst he;simp only[bL.aL,v6] at hb;subst hb;exact World.putObj_heap_other (fun e=>by rw[e,hB.2] at k3;cases k3;cases k4)
   ·obtain ⟨b',es,ck,k1,_,k3,_⟩:=hob;rw[k1,v6] at he;subst he;cases hb;exact World.putObj_heap_other (fun e=>by rw[e,hB.2] at k3;cases k3)
   ·obtain ⟨r,b',es,ck,eM,se,la,k1,_,k3,_⟩:=hob;rw[k1,v6] at he;subst he;cases hb;exact World.putObj_heap_other (fun e=>by rw[e,hB.2] at k3;cases k3)
   ·obtain ⟨aL,k1,_,k3⟩:=hob;rw[k1,v6] at he;subst he;split at k3
    ·simp[bL.aL] at hb
    ·obtain ⟨cs,m,_,k5,_⟩:=k3;simp only[bL.aL,v6] at hb;subst hb;exact hne k5
def gH(w:World)(D:aO)(E:aU)(post:cv)(v:Value)(w':World):Prop :=
 ∃ D' E' r os',post r os'∧aV w' D' E' r v∧kG (fun b=>w.heap.size≤b∨cu E b) w' D' E' (aq os') ∧
  ft (fun b=>w.heap.size≤b∨cu E b) w w'∧(∀ b o,D b o→D' b o)∧(∀ b o,D' b o→b<w'.heap.size)∧(∀ b o,D' b o→b<w.heap.size→¬ cu E b→D b o) ∧
  (∀ n e,E n=some e→ay os' n=true→∃ e',E' n=some e'∧e.eE e')∧iu w D w'
theorem aT.zb{P:Program}{n:Nat}{w:World}{D:aO}{E:aU}{Y:Value→List I→List (Nat×al)→cv→Prop}{tw:Option Nat}{er:Option (List Deferred)}{A:af}{a:Act}{w':World}{D':aO}{E':aU}
  (hs:aT ⟨P,w,D,n,cu E,E,Y,tw,er⟩ A a w' D' E') {os:List (Nat×al)} (h1:∀ n x,aq os n=some x→A.o n=some x∧x.only (ay os)=true∧x.fm=true) :
  ∃ D2 E2,jh true (A.lT os) D' E' D2∧(∀ n,ay os n=true→E2 n=E' n)∧(∀ n,ay os n=false→E2 n=none)∧kG (fun b=>w.heap.size≤b∨cu E b) w' D2 E2 (aq os) ∧
   ft (fun b=>w.heap.size≤b∨cu E b) w w'∧(∀ b o,D b o→D2 b o)∧(∀ b o,D2 b o→b<w'.heap.size)∧(∀ b o,D2 b o→b<w.heap.size→¬ cu E b→D b o) ∧
   (∀ n e,E n=some e→ay os n=true→∃ e',E2 n=some e'∧e.eE e')∧iu w D w':=by
 obtain ⟨c,hc⟩:∃ c:cP,c=⟨P,w,D,n,cu E,E,Y,tw,er⟩:=⟨_,rfl⟩
 rw[←hc] at hs;have hM:c.fk=fun b=>w.heap.size≤b∨cu E b:=by rw[hc];rfl
 obtain ⟨E2,hE2⟩:∃ E2:aU,E2=fun n=>if ay os n then E' n else none:=⟨_,rfl⟩
 obtain ⟨D2,hD2⟩:∃ D2:aO,D2=fun b o=>b<w'.heap.size∧(D' b o∨(¬ cu E2 b∧c.fk b)):=⟨_,rfl⟩
 have e2:∀ n,ay os n=true→E2 n=E' n:=fun n hn=>by rw[hE2];simp only[hn,if_true]
 have mi:∀ n e,E2 n=some e→ay os n=true∧E' n=some e:=fun n e he=>by
  rw[hE2] at he;simp only at he;split at he
  ·exact ⟨by assumption,he⟩
  ·cases he
 have up2:∀ b o,D' b o→D2 b o:=fun b o hd=>by
  rw[hD2];exact ⟨hs.dy b o hd,.inl hd⟩
 have down:∀ b o,D2 b o→cu E2 b→D' b o:=fun b o hd hb=>by
  rw[hD2] at hd;rcases hd.2 with h | h
  ·exact h
  ·exact absurd hb h.1
 have hu:en (A.lT os) A:=fun n x hx=>by
  simp only[af.lT] at hx;split at hx
  ·cases hx
  ·exact hx
 have notOwn:∀ n e b,(A.lT os).o n≠none→E' n=some e→e.aL=some b→¬ cu E2 b:=fun n e b hn he hb ho=>by
  obtain ⟨m,e',k1,k3⟩:=ho;obtain ⟨k1,k2⟩:=mi m e' k1;have:=hs.cV n m e _ b he k2 hb k3;subst this;simp[af.lT,k1] at hn
 have hw:jh true (A.lT os) D' E' D2:=by
  refine ⟨up2,fun n T sz es b cap hn aE o _ =>?_,fun _ n x b aN hn aE o _ =>?_,fun _ n ks vs b hn aE =>?_⟩
  ·rw[hD2];refine ⟨hs.gl aE rfl,.inr ⟨notOwn n _ b (by rw[hn];simp) aE rfl,?_⟩⟩;obtain ⟨aL,k1,k2,k3⟩:=hs.b6 (hu n _ hn);rw[aE] at k1;simp only[v6,bL.rw.injEq,and_true] at k1;subst k1;obtain ⟨_,_,_,k4,_⟩:=k3;exact k4
  ·rw[hD2];refine ⟨hs.gl aE rfl,.inr ⟨notOwn n _ b (by rw[hn];simp) aE rfl,?_⟩⟩;obtain ⟨b',cs,T,k1,k2,_⟩:=hs.box (hu n _ hn);rw[k1] at aE;simp only[v6,bL.aG.injEq] at aE;obtain ⟨rfl,_⟩:=aE;exact k2
  ·rw[hD2];refine ⟨hs.gl aE rfl,.inr ⟨notOwn n _ b (by rw[hn];simp) aE rfl,?_⟩⟩;obtain ⟨b',es,ck,k1,k2,_⟩:=hs.map (hu n _ hn);rw[k1] at aE;cases aE;exact k2
 have hst:iu w D w':=by
  have:=hs.gq;rw[hc] at this;exact this
 refine ⟨D2,E2,hw,e2,fun n hn=>by rw[hE2];simp[hn],⟨fun m =>?_,fun m m' e e' b g1 g2 g3 g4 =>?_⟩,?_,fun b o hd=>up2 b o (hs.cR b o (by rw[hc];exact hd)),fun b o hd=>by rw[hD2] at hd;exact hd.1,fun b o hd hlt hno =>?_,fun m e hm hin =>?_,hst⟩
 ·cases hx:aq os m with
  |none=>simp only[dc];rw[hE2];simp[ay,hx]
  |some x =>
   have hm:ay os m=true:=by simp[ay,hx]
   obtain ⟨k1,k2,k3⟩:=h1 m x hx;have ho:=hs.bG m;rw[k1] at ho;have hl2:ej w' D' E2 w' D2 E2:=⟨up2,fun _ _ _ _ h=>h,fun _ _ _ h=>h,fun _ aL l h=>⟨aL,l,h,zy1 _,fun _=>rfl⟩,fun _ _ h=>h,fun _ _ h=>h,fun _ _ _ _ h=>h⟩
   have nD:∀ e b,E' m=some e→e.aL=some b→∀ o,D2 b o→D' b o:=fun e b he hb o hd=>down b o hd ⟨m,e,(e2 m hm).trans he,hb⟩;cases x with
   |b6 T sz es =>
    obtain ⟨aL,q1,q2,q3⟩:=ho;refine ⟨aL,(e2 m hm).trans q1,q2,?_⟩;cases aL with
    |none=>exact q3
    |some bc =>
     obtain ⟨b,cap⟩:=bc;obtain ⟨cs,pre,rest,g1,g2,g3,g4,g5,g6,g7,g8⟩:=q3;exact ⟨cs,pre,rest,by rw[←hM];exact g1,g2,g3,aK.later hl2 _ _ (aK.eF e2 _ _ (by simpa[al.only] using k2) g4),g5,g6,g7,fun o hd=>g8 o (nD _ b q1 rfl o hd)⟩
   |box y =>
    obtain ⟨b',cs,T,q1,q2,q3,q4,q5⟩:=ho;exact ⟨b',cs,T,(e2 m hm).trans q1,by rw[←hM];exact q2,q3,ai.later hl2 _ _ (ai.eF e2 _ _ (by simpa[al.only] using k2) q4),fun o hd=>q5 o (nD _ b' q1 rfl o hd)⟩
   |dU o =>
    obtain ⟨b',q1,q2,q3,q4,q5⟩:=ho;exact ⟨b',(e2 m hm).trans q1,by rw[←hM];exact q2,q3,q4,fun o hd=>q5 o (nD _ b' q1 rfl o hd)⟩
   |cI ks vs =>
    obtain ⟨b',es,ck,q1,q2,q3,q4,q5,q6,q7⟩:=ho;simp only[al.only,zz0] at k2;exact ⟨b',es,ck,(e2 m hm).trans q1,by rw[←hM];exact q2,q3,q4,aD.later hl2 _ _ (aD.eF e2 _ _ k2.1 q5),aD.later hl2 _ _ (aD.eF e2 _ _ k2.2 q6),fun o hd=>q7 o (nD _ b' q1 rfl o hd)⟩
   |it ks vs left cur=>cases k3
   |eN T xs =>
    obtain ⟨aL,q1,q2,q3⟩:=ho;refine ⟨aL,(e2 m hm).trans q1,q2,?_⟩;cases aL with
    |none=>exact q3
    |some bc =>
     obtain ⟨b,cap⟩:=bc;obtain ⟨cs,r,g1,g2,g3,g4,g5,g6,g7⟩:=q3;exact ⟨cs,r,by rw[←hM];exact g1,g2,g3,g4,g5,g6,fun o hd=>g7 o (nD _ b q1 rfl o hd)⟩
 ·exact hs.cV m m' e e' b (mi m e g1).2 (mi m' e' g2).2 g3 g4
 ·rw[←hM];have:=hs.dX;rw[hc] at this ⊢;exact this
 ·rw[hD2] at hd;have hnm:¬ c.fk b:=by
    rw[hM];rintro (h | h);· omega
    ·exact hno h
  rcases hd.2 with h | h
  ·have:=hs.df b o h hnm;rw[hc] at this;exact this
  ·exact absurd h.2 hnm
 ·rw[e2 m hin];have ho:A.o m≠none:=by
   cases hx:aq os m with
   |none=>simp[ay,hx] at hin
   |some x=>rw[(h1 m x hx).1];simp
  rcases hs.ev m e (by rw[hc];exact hm) with h | h
  ·have hob:=hs.bG m;cases hx:A.o m with
   |none=>exact absurd hx ho
   |some x=>rw[hx] at hob;exact absurd h (tf hob)
  ·exact h
theorem aT.vz{P:Program}{n:Nat}{w:World}{D:aO}{E:aU}{Y:Value→List I→List (Nat×al)→cv→Prop}{er:Option (List Deferred)}{rs:List bu}{post:cv}{fn:Func}{A:af}{a:Act}{w':World}{D':aO}{E':aU}
  (hs:aT ⟨P,w,D,n,cu E,E,Y,none,er⟩ A a w' D' E') (hrs:iw P fn.results.toList=some rs) (h:ke rs post A):∃ v,(results fn a.tmps).run P w'=.ok v w'∧gH w D E post v w':=by
 obtain ⟨os,xs,h1,h2,h3⟩:=h;obtain ⟨D2,E2,hw,e2,e2n,q1,q2,q3,q4,q5,q6⟩:=hs.zb h1;have hu:en (A.lT os) A:=fun n x hx=>by
  simp only[af.lT] at hx;split at hx
  ·cases hx
  ·exact hx
 obtain ⟨vs,k1,k2⟩:=z6 hs hu (os:=os) (E':=E2) hw e2 e2n fn.results.toList rs xs hrs h2;have hres:(results fn a.tmps).run P w'=.ok (if h:vs.toArray.size=1 then vs.toArray[0] else .tuple vs.toArray) w':=by
  rw[agz,Sem.run_bind,Array.mapM_eq_mapM_toList,Sem.run_map,k1];rfl
 refine ⟨_,hres,D2,E2,lP xs,os,h3,?_,q1,q2,q3,q4,q5,q6⟩
 match xs,vs,k2 with
 | [x],vs,k2 =>
  simp only[aD] at k2;obtain ⟨v,rest,cs,rfl,q1,q2,rfl⟩:=k2;simpa[lP] using gD q1 q2
 | [],vs,k2 =>
  simp only[aD] at k2;subst k2;simp[lP,aV,aD]
 |x::y::xs,vs,k2 =>
  have hl:vs.length≠1:=by
   simp only[aD] at k2;obtain ⟨v,rest,cs,rfl,_,_,v2,rest2,cs2,rfl,_⟩:=k2;simp
  simp only[lP,aV];exact ⟨vs,by simp[hl],k2⟩
theorem FP{P:Program}{n:Nat}{w:World}{D:aO}{E:aU}{Y:Value→List I→List (Nat×al)→cv→Prop}{rs:List bu}{post:cv}{fn:Func}{A:af}{D':aO}{E':aU}(hrs:iw P fn.results.toList=some rs)(h:ke rs post A) :
  ∀ (ds:List Deferred) (a:Act) (w':World),a.defers=ds→aT ⟨P,w,D,n,cu E,E,Y,none,none⟩ A a w' D' E'→LeavesInM Fence.wide 9 P fn a.tmps (fun e w'=>∃ v,e=.returned v∧gH w D E post v w') ds .returning w'
 | [],a,w',_,hs=>by
  obtain ⟨v,h1,h2⟩:=hs.vz hrs h;exact ⟨v,h1,v,rfl,h2⟩
 |d::ds,a,w',hd,hs=>by
  obtain ⟨Bs,h1,_⟩:=hs.fg;rw[hd] at h1;cases Bs with
  |nil=>cases h1
  |cons B Bs =>
   simp only[zz9,zx6] at h1;obtain ⟨rfl,rfl⟩:=h1;obtain ⟨k1,k2⟩:=hs.Dw rfl hd;exact ⟨by simp,.inl ⟨B,_,rfl,run_takeDeferred k1,FP hrs h _ { a with defers:=Bs.map _ } _ rfl k2⟩⟩
theorem tC{w:World}{D:aO}{E:aU} : ∀ {args:List I} {vs:List Value},aD w D E args vs→vs.length=args.length
 | [],vs,h=>by simp only[aD] at h;subst h;rfl
 |x::xs,vs,h=>by
  simp only[aD] at h;obtain ⟨v,rest,cs,rfl,_,_,h3⟩:=h;simp[tC h3]
def kF(P:Program)(f:FuncId)(Y:Value→List I→List (Nat×al)→cv→Prop)(args:List I)(os:List (Nat×al))(post:cv):Prop :=
 eV P f=true∧∀ (w:World) (D:aO) (E:aU) (vs:List Value),(∀ n,qj ⟨P,w,D,n,cu E,E,Y,none,none⟩)→(∀ b o,D b o→b<w.heap.size)→kG (fun _=>True) w D E (aq os)→aD w D E args vs →
  Calls P f vs.toArray w fun e w'=>∃ v,e=.returned v∧gH w D E post v w'
theorem kF.vW{P:Program}{f:FuncId}{fn:Func}{body:Code}{x:bn}{rs:List bu}{Y:Value→List I→List (Nat×al)→cv→Prop}{args:List I}{os:List (Nat×al)}{post:cv}(hf:P.funcs[f]?=some fn)(hb:fn.body=some body)(hcall:eV P f=true)(hc:eU P fn.ntmps body=some x)
  (hrs:iw P fn.results.toList=some rs) (hn:args.length≤fn.ntmps) (hos:∀ m,ay os m=true→fn.ntmps≤m∧1000000≤m) (h:∀ (w:World) (D:aO) (E:aU),ab ⟨P,w,D,fn.ntmps,cu E,E,Y,none,none⟩ x (pK rs post) (pX args os)):kF P f Y args os post:=by
 refine ⟨hcall,fun w D E vs hy hD ho ae =>?_⟩;have hlen:=tC ae;have hsim:=AB (P:=P) (n:=fn.ntmps) (Y:=Y) hD ho ae (by omega) hos (hy fn.ntmps);refine (callsIn_wide (n:=9)).1 (callsIn_of_wp_marks hf hb trivial ?_);refine wpIn_mono (h w D E body hc _ w ⟨D,E,hsim⟩) ?_;rintro e a w' ⟨A,hq,D',E',hs⟩;cases e <;>simp only[pK] at hq <;>first
  |exact FP hrs hq a.defers a w' rfl hs
  |cases hq
theorem rT{P:Program}{w:World}{D:aO}{E:aU}{n:Nat}{er:Option (List Deferred)}(hl:fw P w (cu E)):qj ⟨P,w,D,n,cu E,E,fS,none,er⟩:=⟨hl,fun _ _ _ _ h=>h.elim⟩
theorem ep.Gt{P:Program}{f:FuncId}{args:List I}{os:List (Nat×al)}{post:cv}(h:kF P f fS args os post):ep P f args os post :=
 ⟨h.1,fun w D E vs hl hD ho ae=>(h.2 w D E vs (fun _=>rT hl) hD ho ae).mono fun e w' ⟨v,he,D',E',r,os',k⟩=>⟨v,D',E',r,os',he,k⟩⟩
theorem aP.Gs{P:Program}{f:FuncId}{args:List I}{r:I}(h:ep P f args [] (fun r' os'=>r'=r∧os'=[])):aP P f args r:=by
 refine ⟨h.1,fun w D vs hl hD ae =>?_⟩;have hh:kG (fun _=>True) w D cq (aq []):=⟨fun n=>rfl,fun n m e e' b h=>by simp[cq] at h⟩
 refine (h.2 w D cq vs (hl.vA fun b ⟨n,e,h1,_⟩=>by simp[cq] at h1) hD hh ae).mono fun e w' hq =>?_;obtain ⟨v,D',E',r',os',he,⟨h1,h2⟩,k1,k2,k3,k4,k5,k6,_⟩:=hq;subst h1 h2;refine ⟨v,D',he,?_,?_,k5,fun b o hd hlt=>k6 b o hd hlt fun ⟨n,e,h,_⟩=>by simp[cq] at h⟩
 ·have:E'=cq:=by funext n;exact k2.bG n
  rw[←this];exact k1
 ·exact k3.LB fun k hk hm=>by
   rcases hm with hm | ⟨n,e,h,_⟩
   ·omega
   ·simp[cq] at h
theorem agV(A:af):A.lT []=A:=rfl
theorem IQ{A:af} : ∀ {rs:List bu} {xs:List I},fr A rs=some xs→nI A (A.lT []) [] rs xs
 | [],xs,h=>by simp only[fr,v6] at h;subst h;trivial
 |r::rs,xs,h=>by
  simp only[fr] at h;split at h
  ·rename_i x xs' h1 h2;simp only[v6] at h;subst h;refine ⟨?_,IQ h2⟩;rw[agV];cases r with
   |tmp t=>exact ⟨_,rfl,.inr h1⟩
   |cell a s =>
    simp only[wA,oK] at h1 ⊢;split at h1
    ·rename_i y hy;split at h1
     ·rename_i hok;exact ⟨y,by simp[hok],.inr h1⟩
     ·cases h1
    ·cases h1
  ·cases h
theorem agB{rs:List bu}{r:I}{e:Exit}{A:af}(h:lR rs r e A):pK rs (fun r' os'=>r'=r∧os'=[]) e A:=by
 cases e <;>simp only[lR] at h <;>first
  |exact h.elim
  |(obtain ⟨xs,h1,h2⟩:=h
    exact ⟨[],xs,fun n x hx=>by simp[aq] at hx,IQ h1,h2,rfl⟩)
theorem aP.vW{P:Program}{f:FuncId}{fn:Func}{body:Code}{x:bn}{rs:List bu}{args:List I}{r:I}(hf:P.funcs[f]?=some fn)(hb:fn.body=some body)(hcall:eV P f=true)(hc:eU P fn.ntmps body=some x)
  (hrs:iw P fn.results.toList=some rs) (hn:args.length≤fn.ntmps) (h:∀ (w:World) (D:aO) (E:aU),ab ⟨P,w,D,fn.ntmps,cu E,E,fS,none,none⟩ x (lR rs r) (oP args)):aP P f args r:=by
 refine aP.Gs (ep.Gt (kF.vW hf hb hcall hc hrs hn (fun m hm=>by simp[ay,aq] at hm) fun w D E =>?_));exact (h w D E).mono fun e B hq=>agB hq
end Go.Abs
