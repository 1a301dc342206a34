/-
  A part of the proof that the law MarchTexts returns true for every input; seven variables of Go's library start as the text lays them (the card ties them); conditions: none beyond the statement's own. (part 2 of 7)
-/
import Derived.Lib.AppendZerosOnto
import Derived.Maps.RangeRun
import Derived.Laws.MakeOwn
import Derived.Laws.BytesArg
import Derived.Orders
import Derived.OrdersIn
import Derived.Test.YthbdbocionnfgaaGreatDoorNga
set_option linter.unusedSimpArgs false
set_option linter.unusedVariables false
set_option maxHeartbeats 16000000
set_option maxRecDepth 100000
namespace Go.Abs
open Go Go.RowKit
section
variable {c:cV} {A:ai} {o:Oper} {x:I}
theorem mW{P:Program}{w:World}(k:IntKind)(n:Int)(y:Nat)(code:BoundsCode)(g1:0≤n)(g2:n≤y):(Instr.sliceBound (.int k n) y code).run P w=.ok n.toNat w:=by
 simp[Instr.sliceBound,asIntOf,g1,g2]
theorem aad{t e:TypeId}{y:Operand}{y':aM}{lo hi mx:Option Operand}{lo' hi' mx':Option aM}{i:TypeInfo}{fs:List I}{n:Nat}{p:List Nat}{sz l0 k:Nat}(ho:o.op=.slice t y lo hi mx)(hu:c.P.underlying t=some (.slice e))(hi0:c.P.info? e=some i)
  (hy:bq c.P 0 y=some y') (J:jh c.P lo=some lo') (U:jh c.P hi=some hi') (af:jh c.P mx=some mx') (hmh:mx'.isSome=true→hi'.isSome=true) (hsz:sz=c.P.cellsOf e)
  (h:aj A y'=.view n p sz l0 k) (ah:cM A (.ptr n p)=some (.agg fs)) (hx:nQ n p sz l0 k fs.length (lo'.map (aj A)) (hi'.map (aj A)) (mx'.map (aj A))=some x):dy c A o x :=
 .same fun a w D E ab=>by
  have opt:∀ {q:Option Operand} {q':Option aM},jh c.P q=some q'→iY w D E (q'.map (aj A)) (q.map a.eval):=by
   intro q q' hq;cases q with
   |none=>simp only[jh,v6] at hq;subst hq;simp[iY]
   |some z =>
    simp only[jh,t8] at hq;obtain ⟨z',hz,rfl⟩:=hq;simpa[iY] using bS ab hz
  have aR:=bS ab hy;rw[h] at aR;obtain ⟨yy,b,cs,T,off,c1,c2,c3,k1,k2,k3,k4,k5,k6,k7,k8,k9,k10,k11,k12,hval⟩:=ab.view aR ah;have hmh':(mx'.map (aj A)).isSome=true→(hi'.map (aj A)).isSome=true:=by simpa using hmh
  unfold nQ at hx;split at hx
  ·cases hx
  rename_i bz hbh;split at hx
  ·cases hx
  rename_i ll hbl;have d1:=r4 (opt J) hbl;have d2:=r4 (opt U) hbh;have o3:=opt af;split at hx
  ·rename_i hmx;split at hx
   case isFalse=>cases hx
   rename_i hb;obtain ⟨b1,b2,b3⟩:=hb;have hvmx:mx.map a.eval=none:=by
    rw[hmx] at o3;cases hq:mx.map a.eval with
    |none=>rfl
    |some v=>rw[hq] at o3;simp[iY] at o3
   have hsb:(Instr.sliceBounds true k (fs.length-l0) (lo.map a.eval) (hi.map a.eval) (mx.map a.eval)).run c.P w=.ok (ll.toNat,bz.toNat,fs.length-l0) w:=by
    rw[hvmx];rcases d2 with ⟨_,g2,hm2⟩ | ⟨_,q2,g2⟩ <;>rcases d1 with ⟨_,g1,hm1⟩ | ⟨_,q1,g1⟩ <;>rw[g1,g2]
    ·subst hm1 hm2;simp[Instr.sliceBounds]
    ·subst hm2;simp[Instr.sliceBounds,mW q1 ll k _ b1 (by omega)]
    ·subst hm1;simp[Instr.sliceBounds,mW q2 bz (fs.length-l0) _ (by omega) (by omega)]
    ·simp[Instr.sliceBounds,mW q2 bz (fs.length-l0) _ (by omega) (by omega),mW q1 ll bz.toNat _ b1 (by omega)]
   have hrun:(Instr.sliceAt t (a.eval y) (lo.map a.eval) (hi.map a.eval) (mx.map a.eval)).run c.P w =
     .ok (.slice (if fs.length-l0=ll.toNat then some ⟨b,off+l0*sz,none⟩ else some ⟨b,off+l0*sz+ll.toNat*c.P.cellsOf e,none⟩) (bz.toNat-ll.toNat) (fs.length-l0-ll.toNat)) w:=by
    rw[hval];simp only[Instr.sliceAt,Instr.slice,Sem.run_bind,run_underlying hu,Result.andThen_ok,hsb,jw hi0,Sem.run_pure,zz9,ni]
   refine ⟨_,by simp only[execOp,ho,Sem.run_bind,hrun];rfl,?_⟩;split at hx
   ·rename_i ao;simp only[v6] at hx;subst hx;have e1:fs.length-l0=ll.toNat:=by omega
    have e2:bz.toNat-ll.toNat=0:=by omega
    rw[if_pos e1,e2,e1,Nat.sub_self];exact ⟨_,by simp[bC,I.isAgg];rfl,by simp only[al];exact ⟨_,rfl⟩⟩
   ·rename_i ao;simp only[v6] at hx;subst hx;rw[if_neg (by omega)];refine ⟨_,by simp[bC,I.isAgg];rfl,?_⟩;simp only[al];refine ⟨b,yy.bg,off,I.de fs,k2,k5,mX p yy _ k4,?_,?_,?_,?_⟩
    ·rw[I.dG,zz6,Nat.add_mul,Nat.add_assoc,hsz,Nat.sub_sub]
    ·rw[I.dG,zz6];exact k12
    ·rw[I.dG,zz6];omega
    ·rw[I.dG];intro s hs';obtain ⟨f,hf,rfl⟩:=zy9.1 hs';rw[I.l8];exact k10 f hf
  ·rename_i kk m hmx;split at hx
   case isFalse=>cases hx
   rename_i hb;obtain ⟨b1,b2,b3,b4⟩:=hb;simp only[v6] at hx;subst hx;obtain ⟨vmx,hvmx,hvm⟩:∃ v,mx.map a.eval=some v∧v=.int kk m:=by
    rw[hmx] at o3;cases hq:mx.map a.eval with
    |none=>rw[hq] at o3;simp[iY] at o3
    |some v=>rw[hq] at o3;simp only[iY] at o3;exact ⟨v,rfl,(eJ o3).1⟩
   subst hvm;have hsb:∃ r,(Instr.sliceBounds true k (fs.length-l0) (lo.map a.eval) (hi.map a.eval) (mx.map a.eval)).run c.P w=.ok r w:=by
    rw[hvmx];rcases d2 with ⟨g0,g2,hm2⟩ | ⟨_,q2,g2⟩
    ·rw[hmx,g0] at hmh';simp at hmh'
    ·rcases d1 with ⟨_,g1,hm1⟩ | ⟨_,q1,g1⟩ <;>rw[g1,g2]
     ·exact ⟨_,by simp[Instr.sliceBounds,mW kk m (fs.length-l0) _ (by omega) b4,mW q2 bz m.toNat _ (by omega) (by omega)];rfl⟩
     ·exact ⟨_,by simp[Instr.sliceBounds,mW kk m (fs.length-l0) _ (by omega) b4,mW q2 bz m.toNat _ (by omega) (by omega),mW q1 ll bz.toNat _ b1 (by omega)];rfl⟩
   obtain ⟨⟨r1,nK,uS⟩,hsb⟩:=hsb;have hrun:∃ v,(Instr.sliceAt t (a.eval y) (lo.map a.eval) (hi.map a.eval) (mx.map a.eval)).run c.P w=.ok v w:=by
    rw[hval];exact ⟨_,by simp only[Instr.sliceAt,Instr.slice,Sem.run_bind,run_underlying hu,Result.andThen_ok,hsb,jw hi0,Sem.run_pure,zz9];rfl⟩
   obtain ⟨v,hrun⟩:=hrun;exact ⟨v,by simp only[execOp,ho,Sem.run_bind,hrun];rfl,by simp[a8]⟩
  ·cases hx
theorem Z0{t e:TypeId}{y z:Operand}{y' z':aM}{i:TypeInfo}{fs:List I}{n:Nat}{p:List Nat}{sz lo k:Nat}{kk:IntKind}{j:Int}(ho:o.op=.indexAddr t y z)(hu:c.P.underlying t=some (.slice e))(hi:c.P.info? e=some i)
  (hy:bq c.P 0 y=some y') (hz:bq c.P 0 z=some z') (hsz:sz=c.P.cellsOf e) (h:aj A y'=.view n p sz lo k) (ah:cM A (.ptr n p)=some (.agg fs)) (h':aj A z'=.int kk j) (hj:0≤j∧j<k):dy c A o (.ptr n (p++[lo+j.toNat])) :=
 .same fun a w D E ab=>by
  have aR:=bS ab hy;rw[h] at aR;have h1':=bS ab hz;rw[h'] at h1';obtain ⟨yy,b,cs,T,off,c1,c2,c3,k1,k2,k3,k4,k5,k6,k7,k8,k9,k10,k11,k12,hval⟩:=ab.view aR ah;refine ⟨.pointer (some ⟨b,off+lo*sz+j.toNat*c.P.cellsOf e,none⟩),by simp only[execOp,ho,hval,(eJ h1').1,Sem.run_bind,zk hu hi hj];rfl,?_⟩;refine ⟨_,by simp[bC,I.isAgg];rfl,?_⟩;simp only[al];refine ⟨b,yy.bg,off+(lo+j.toNat)*sz,k2,?_,by rw[Nat.add_mul,←Nat.add_assoc,hsz]⟩;have ao:lo+j.toNat<fs.length:=by omega
  rw[cW.uE p yy.bg off (lo+j.toNat) _ k5 (mX p yy _ k4) (by rw[I.dG];simpa using ao),I.dG,←List.map_take,←I.dG,I.mY,o6 fs _ k10 (by omega)]
theorem xL{ty:TypeId}{y:Operand}{y':aM}{n:Nat}{e:TypeId}(ho:o.op=.call { callee:=.builtin .cap,args := #[y],argTypes := #[ty] })(hu:c.P.underlying ty=some (.slice e))
  (hy:bq c.P ty y=some y') (h:∀ a w D E,aX c A a w D E→∀ v,a8 w D E (aj A y') v→n≤maxLen∧∃ ad l,v=.slice ad l n):dy c A o (.int .i64 n) :=
 .same fun a w D E ab=>by
  obtain ⟨aR,ad,l,hv⟩:=h a w D E ab _ (bS ab hy);exact ⟨.int .i64 n,by simp[execOp,ho,resolve,invoke,builtin,Builtin.cap_,run_underlying hu,hv,goInt],j2 (x9 aR)⟩
theorem ZN{t e:TypeId}{i:TypeInfo}(ho:o.op=.buildSlice t 0 #[])(hu:c.P.underlying t=some (.slice e))(hi:c.P.info? e=some i):dy c A o (.c0 (c.P.cellsOf e)):=by
 intro a w D E ab;have hs':=ab.newRow (.cells #[] e);refine ⟨.slice (some ⟨w.heap.size,0,none⟩) 0 0,_,_,?_,hs',⟨_,by simp[bC,I.isAgg];rfl,by simp only[al];exact ⟨_,rfl⟩⟩⟩;simp[execOp,ho,Instr.buildSlice,run_underlying hu,jw hi,newRow,Instr.fill,show (Array.range 0) = #[] from rfl]
theorem abx{neg:Bool}{t e:TypeId}{y z:Operand}{y':aM}{yt:TypeId}{s:Nat}(ho:o.op=.binOp (if neg then .neq else .eql) t y z yt)(hu:c.P.underlying t=some (.slice e))(hy:bq c.P 0 y=some y')(hz:bq c.P 0 z=some (.c (.nils s)))
  (h:∃ sz,aj A y'=.slice sz []∨aj A y'=.c0 sz) {a:Act} {w:World} {D:aS} {E:bf} (ab:aX c A a w D E):∃ b,(execOp a.eval o).run c.P w=.ok (.value (.bool b)) w:=by
 have aR:=bS ab hy;have J:a8 w D E (.nils s) (a.eval z):=bS ab hz;have hv:∃ ad cp,a.eval y=.slice ad 0 cp:=by
  obtain ⟨sz,h | h⟩:=h <;>rw[h] at aR
  ·obtain ⟨ad,cap,e1,_⟩:=nP aR;exact ⟨ad,cap,by simpa using e1⟩
  ·obtain ⟨cs,q1,q2⟩:=aR;simp only[al] at q2;obtain ⟨ad,q2⟩:=q2;exact ⟨ad,0,by simpa[bC,I.isAgg,q2] using q1.symm⟩
 obtain ⟨ad,cp,hyv⟩:=hv;have hv:a.eval z=.slice none 0 0:=by
  obtain ⟨cs,q1,q2⟩:=J;simp only[al] at q2;simpa[bC,I.isAgg,q2] using q1.symm
 have he:∀ d,(Op.equalIn (d+1) t (.slice ad 0 cp) (.slice none 0 0)).run c.P w=.ok ad.isNone w:=fun d=>by
  cases ad <;>simp[Op.equalIn,run_underlying hu]
 refine ⟨if neg then !ad.isNone else ad.isNone,?_⟩;cases neg <;>simp only[execOp,ho,hyv,hv,if_true,zz2,if_false,Sem.run_bind,eqGuard] <;>simp[binOp,Op.equal,Op.maxDepth,he]
def jQ(y:I)(p:List Nat)(j:Nat)(fs ys:List I):I:=y.ev p (.agg (fs.take j++(ys++fs.drop (j+ys.length))))
theorem Pa{t e:TypeId}{y:Operand}{y':aM}{z:I}{n:Nat}{p:List Nat}{lo k:Nat}{b:I}{fs:List I}(ho:o.op=.call { callee:=.builtin .clear,args := #[y],argTypes := #[t] })(hu:c.P.underlying t=some (.slice e))(hy:bq c.P t y=some y')
  (hz:gF c.P e=some z) (hv:aj A y'=.view n p (c.P.cellsOf e) lo k) (hn:A.o n=some (.box b)) (hat:b.at p=some (.agg fs)) (hsh:I.de (List.replicate k z)=I.de ((fs.drop lo).take k)) (ah:o.dst=none) :
  iO c A o (A.aT n (.box (jQ b p lo fs (List.replicate k z)))):=by
 intro a w D E ab;obtain ⟨i,zv,hi,hzv,hzr⟩:=me hz;have aR:=bS ab hy;rw[hv] at aR;have hx:cM A (.ptr n p)=some (.agg fs):=by simp only[cM,hn,hat]
 obtain ⟨yy,bk,cs,T,off,c1,c2,c3,k1,k2,k3,k4,k5,k6,k7,k8,k9,k10,k11,k12,hval⟩:=ab.view aR hx;rw[hn] at k1;simp only[v6,aq.box.injEq] at k1;subst k1;have hr:aN w D E (List.replicate k z) (Builtin.zeroCells zv.cells k).toList:=by
  rw[vB];exact sd (hzr w D E) k
 obtain ⟨w',J,U⟩:=ab.jQ (j:=lo) (ys:=List.replicate k z) hn k2 k3 k4 k5 k6 k7 k8 k9 k10 hr (by simpa using k11) (by simpa using hsh) c.P;cases k with
 |zero =>
  refine ⟨w,.inl ⟨.tuple #[],?_,D,E,?_⟩⟩
  ·simp[execOp,ho,resolve,invoke,builtin,Builtin.clear_,run_underlying hu,hval]
  ·rw[ah];have:jQ b p lo fs (List.replicate 0 z)=b.ev p (.agg fs):=by simp[jQ]
   have hw:w'=w:=by
    simp[Builtin.zeroCells,storeCells] at J;exact J.symm
   rw[hw] at U;exact U
 |succ k =>
  refine ⟨w',.inl ⟨.tuple #[],?_,D,E,?_⟩⟩
  ·simp[execOp,ho,resolve,invoke,builtin,Builtin.clear_,run_underlying hu,hval,zeroValue,typeInfo,hi,hzv,J]
  ·rw[ah];exact U
theorem Pb{t e:TypeId}{y x:Operand}{y' x':aM}{n:Nat}{p:List Nat}{lo k m:Nat}{b:I}{fs ys:List I}(ho:o.op=.call { callee:=.builtin .copy,args := #[y,x],argTypes := #[t,t] })(hu:c.P.underlying t=some (.slice e))(hi:(c.P.info? e).isSome=true)
  (hy:bq c.P t y=some y') (hx:bq c.P t x=some x') (hv:aj A y'=.view n p (c.P.cellsOf e) lo k) (hn:A.o n=some (.box b)) (hat:b.at p=some (.agg fs)) (ab:dX A (c.P.cellsOf e) (aj A x')=some ys) (hm:m=min ys.length k)
  (hsh:I.de (ys.take m)=I.de ((fs.drop lo).take m)) (hdn:∀ k,o.dst=some k→k<c.n) :
  iO c A o ((A.aT n (.box (jQ b p lo fs (ys.take m)))).aW o.dst (.int .i64 m)):=by
 intro a w D E hsim;obtain ⟨i,hi⟩:=zx0.1 hi;have aR:=bS hsim hy;rw[hv] at aR;have hxx:cM A (.ptr n p)=some (.agg fs):=by simp only[cM,hn,hat]
 obtain ⟨yy,bk,cs,T,off,c1,c2,c3,k1,k2,k3,k4,k5,k6,k7,k8,k9,k10,k11,k12,hval⟩:=hsim.view aR hxx;rw[hn] at k1;simp only[v6,aq.box.injEq] at k1;subst k1;obtain ⟨ad,cp,news,s1,s2,s3,s4,s5,s6⟩:=hsim.na (bS hsim hx) ab;have hmy:m≤ys.length:=by omega
 have hci:c.P.cellsOf e=i.size:=by simp[Program.cellsOf,hi]
 obtain ⟨d1,d2,d3,e1,e2,e3,e4⟩:=uX s4 s5 0 m (by omega);simp only[Nat.zero_mul,List.drop_zero] at e2 e3;have e2':d1=[]:=List.eq_nil_of_length_eq_zero e2;subst e2';simp only[List.nil_append] at e1;have hlen:(ys.take m).length=m:=by rw[zx2];omega
 have hd2:d2.length=m*i.size:=by rw[aN.length _ _ e3,I.iM (sz:=c.P.cellsOf e) _ (fun y hy=>s5 y (List.mem_of_mem_take hy)),hlen,hci]
 obtain ⟨w',J,U⟩:=hsim.jQ (j:=lo) (ys:=ys.take m) hn k2 k3 k4 k5 k6 k7 k8 k9 k10 e3 (by rw[hlen];omega) (by rw[hlen];exact hsh) c.P;have hf:(Builtin.firstCells i.size m (.slice ad ys.length cp)).run c.P w=.ok d2.toArray w:=by
  by_cases hm0:m=0
  ·have:d2=[]:=List.eq_nil_of_length_eq_zero (by rw[hd2,hm0];simp);subst this;cases ad with
   |none=>exact run_firstCells_none _ _ _ _ _
   |some ad=>exact run_firstCells_some w i.size m ad ys.length cp [] (by simp[hm0]) (by simp)
  ·obtain ⟨b2,o2,rfl,hr⟩:=s6 (fun h=>by rw[h] at hmy;simp at hmy;omega);refine run_firstCells_some w i.size m _ ys.length cp d2 hd2 fun j v hj =>?_;rw[Addr.add_lit];refine hr j v ?_;rw[e1,zy6 (zz7.1 hj).1];exact hj
 have h63:m≤maxLen:=by omega
 refine ⟨w',.inl ⟨.int .i64 m,?_,D,E,U.aW hdn (j2 (x9 h63))⟩⟩;have hmin:Nat.min ys.length k=m:=hm.symm;rw[←hci] at hf;simp only[execOp,ho,resolve,invoke,builtin,Sem.run_bind,Sem.run_pure,Result.andThen_ok,List.map_toArray,zz5,zx7,hval,s1];simp[Builtin.copy_,run_underlying hu,Builtin.lenOf,hmin,jw hi,hf,J,goInt]
theorem pz{a:Act}{w:World}{D:aS}{E:bf}(ab:aX c A a w D E){sz:Nat}{x:I}{v:Value}{es:List I}(hv:a8 w D E x v)(he:dX A sz x=some es) :
  ∃ ad cp olds,v=.slice ad es.length cp∧es.length≤cp∧cp≤maxLen∧aN w D E es olds∧(∀ y∈es,y.size=sz)∧∀ (P:Program) (w':World),(∀ p u,w.cell? p=some u→w'.cell? p=some u)→(Builtin.firstCells sz es.length v).run P w'=.ok olds.toArray w':=by
 obtain ⟨ad,cp,news,s1,s2,s3,s4,s5,s6⟩:=ab.na hv he;refine ⟨ad,cp,news,s1,s2,s3,s4,s5,fun P w' hw =>?_⟩;have ao:news.length=es.length*sz:=by rw[aN.length _ _ s4,I.iM _ s5]
 rw[s1];by_cases aR:es=[]
 ·subst aR;have:news=[]:=List.eq_nil_of_length_eq_zero (by rw[ao];simp);subst this;cases ad with
  |none=>exact run_firstCells_none _ _ _ _ _
  |some ad=>exact run_firstCells_some w' sz _ ad _ cp [] (by simp) (by simp)
 ·obtain ⟨b,o',rfl,hr⟩:=s6 aR;exact run_firstCells_some w' sz _ _ _ cp news ao fun j v hj=>by rw[Addr.add_lit];exact hw _ _ (hr j v hj)
theorem JY{t e:TypeId}{s x:Operand}{s' x':aM}{es ys:List I}{z:I}{d:Nat}(ho:o.op=.call { callee:=.builtin .append,args := #[s,x],argTypes := #[t,t] })(hu:c.P.underlying t=some (.slice e))(hs':bq c.P t s=some s')(hx':bq c.P t x=some x')
  (hz:gF c.P e=some z) (hzs:z.size=c.P.cellsOf e) (hse:dX A (c.P.cellsOf e) (aj A s')=some es) (hsx:dX A (c.P.cellsOf e) (aj A x')=some ys) (hby:(es.length+ys.length)*c.P.bytesOf e≤140737488355328)
  (ah:o.dst=some d) (hdn:d<c.n) (hf:A.o d=none) (hne:ys≠[]) {a:Act} {w:World} {D:aS} {E:bf} (hsim:aX c A a w D E) (hfull:∀ ad l cp,a.eval s=.slice ad l cp→cp<l+ys.length) (hml:es.length+ys.length≤maxLen) :
  ∃ v w' m,(execOp a.eval o).run c.P w=.ok (.value v) w'∧es.length+ys.length+m≤maxLen ∧
   cd c ((A.aT d (.box (.agg (es++(ys++List.replicate m z))))).aW o.dst (.view d [] (c.P.cellsOf e) 0 (es.length+ys.length))) (a.put o.dst v) w':=by
 obtain ⟨i,zv,hi,hzv,hzr⟩:=me hz;have hci:c.P.cellsOf e=i.size:=by simp[Program.cellsOf,hi]
 have hbi:c.P.bytesOf e=i.bytes:=by simp[Program.bytesOf,hi]
 obtain ⟨ad1,cp1,olds,s1,s2,s3,s4,s5,s6⟩:=pz hsim (bS hsim hs') hse;obtain ⟨ad2,cp2,news,t1,t2,t3,t4,t5,t6⟩:=pz hsim (bS hsim hx') hsx;have hlt:=hfull _ _ _ s1;obtain ⟨m,hm⟩:∃ m,m=grownCap w (es.length+ys.length) cp1 e-(es.length+ys.length):=⟨_,rfl⟩
 have hge:=grownCap_ge w (es.length+ys.length) cp1 e;have hle:=grownCap_le_maxLen w (es.length+ys.length) cp1 e hml;obtain ⟨cells,hcells⟩:∃ cells:Array Value,cells=olds.toArray++news.toArray++Builtin.zeroCells zv.cells m:=⟨_,rfl⟩
 have hrun:(Builtin.append_ #[t,t] o.type #[a.eval s,a.eval x]).run c.P w=.ok (.slice (some ⟨w.heap.size,0,none⟩) (es.length+ys.length) (grownCap w (es.length+ys.length) cp1 e)) (w.drew.alloc (.cells cells e)):=by
  have hn:¬ (es.length+ys.length≤cp1):=by omega
  have h63:¬ (9223372036854775807<((es.length:Int)+(ys.length:Int))):=by simp only[maxLen] at hml;omega
  have h48:¬ (281474976710656<Builtin.nextslicecap (es.length+ys.length) cp1*i.bytes):=by
   have af:(es.length+ys.length)*i.bytes≤140737488355328:=by rw[←hbi];exact hby
   have:=growslice_fits hlt af;omega
  have g1:=s6 c.P w.drew (fun _ _ h=>h);have g2:=t6 c.P w.drew (fun _ _ h=>h);rw[s1,hci] at g1;rw[t1,hci] at g2;rw[s1,t1,hcells,hm];simp[Builtin.append_,run_underlying hu,sizeOf,typeInfo,zeroValue,hi,hzv,Builtin.lenOf,hn,h63,h48,Question.forced,g1,g2,newRow,grownCap]
  congr 2
  apply Array.ext';simp[zy3]
 have hcl:cells.toList=olds++(news++(List.replicate m zv.cells.toList).flatten):=by
  rw[hcells];simp[vB]
 have hrc:al w D E (.agg (es++(ys++List.replicate m z))) cells.toList:=by
  rw[hcl];simp only[al];exact kD _ _ _ _ s4 (kD _ _ _ _ t4 (sd (hzr w D E) m))
 have hsim':aX c A a w.drew D E:=hsim.grow ⟨rfl,rfl,rfl,zz3 _,fun _ _=>rfl⟩ (fun _ _ h=>h) (fun _ _ h _=>h) (fun b o h=>hsim.aU b o h);have hrc':al w.drew D E (.agg (es++(ys++List.replicate m z))) cells.toList:=al.later (w:=w) (w':=w.drew) (D:=D) (E:=E) ⟨fun _ _ h=>h,fun _ _ _ _ h=>h,fun _ _ _ h=>h,fun _ aK l h=>⟨aK,l,h,zz3 _,fun _=>rfl⟩,fun _ _ h=>h,fun _ _ h=>h,fun _ _ _ _ h=>h⟩ _ _ hrc;have J:=hsim'.rX (T:=e) (.inl hdn) hf hrc';have hall:∀ y∈es++(ys++List.replicate m z),y.size=c.P.cellsOf e:=by
  intro y hy;rcases zw0.1 hy with hy | hy
  ·exact s5 y hy
  ·rcases zw0.1 hy with hy | hy
   ·exact t5 y hy
   ·rw[List.eq_of_mem_replicate hy];exact hzs
 have hlen:(es++(ys++List.replicate m z)).length=es.length+ys.length+m:=by simp[Nat.add_assoc]
 have U:=J.put (d:=d) (x:=.view d [] (c.P.cellsOf e) 0 (es.length+ys.length)) (v:=.slice (some ⟨w.heap.size,0,none⟩) (es.length+ys.length) (grownCap w (es.length+ys.length) cp1 e)) hdn ⟨_,by simp[bC,I.isAgg];rfl,by
  simp only[al,if_true];refine ⟨w.heap.size,(I.agg (es++(ys++List.replicate m z))).bg,0,I.de (es++(ys++List.replicate m z)),rfl,by cases (I.agg (es++(ys++List.replicate m z))).bg <;>simp[cW.off],by simp only[I.bg,cW.part],?_,?_,?_,?_⟩
  ·rw[I.dG,zz6,hlen,hm];simp;omega
  ·rw[I.dG,zz6,hlen];omega
  ·rw[I.dG,zz6,hlen];omega
  ·rw[I.dG];intro s ab;obtain ⟨f,hf,rfl⟩:=zy9.1 ab;rw[I.l8];exact hall f hf⟩
 refine ⟨.slice (some ⟨w.heap.size,0,none⟩) (es.length+ys.length) (grownCap w (es.length+ys.length) cp1 e),w.drew.alloc (.cells cells e),m,?_,by omega,?_⟩
 ·unfold execOp;simp only[ho,resolve,invoke,builtin,Sem.run_bind,Sem.run_pure,Result.andThen_ok,List.map_toArray,zz5,zx7,hrun]
 ·rw[ah];exact ⟨D,_,U⟩
theorem JZ{t t' e:TypeId}{s x:Operand}{s' x':aM}{es:List I}{k:Nat}{kx kt:IntKind}{bN:Int}{z:I}{d:Nat}(ho:o.op=.call { callee:=.builtin .append,args := #[s,x],argTypes := #[t,t'] })(hu:c.P.underlying t=some (.slice e))(hs':bq c.P t s=some s')(hx':bq c.P t' x=some x')(ht':c.P.underlying t'=some (.int kt))(hvx:aj A x'=.int kx bN)(hk:bN.toNat=k)(hk0:0<k)(hpos:0<c.P.cellsOf e)
  (hz:gF c.P e=some z) (hzs:z.size=c.P.cellsOf e) (hse:dX A (c.P.cellsOf e) (aj A s')=some es) (hby:(es.length+k)*c.P.bytesOf e≤140737488355328)
  (ah:o.dst=some d) (hdn:d<c.n) (hf:A.o d=none) {a:Act} {w:World} {D:aS} {E:bf} (hsim:aX c A a w D E) (hfull:∀ ad l cp,a.eval s=.slice ad l cp→cp<l+k) (hml:es.length+k≤maxLen) :
  ∃ v w' m,(execOp a.eval o).run c.P w=.ok (.value v) w'∧es.length+k+m≤maxLen ∧
   cd c ((A.aT d (.box (.agg (es++(List.replicate k z++List.replicate m z))))).aW o.dst (.view d [] (c.P.cellsOf e) 0 (es.length+k))) (a.put o.dst v) w':=by
 obtain ⟨i,zv,hi,hzv,hzr⟩:=me hz;have hci:c.P.cellsOf e=i.size:=by simp[Program.cellsOf,hi]
 have hbi:c.P.bytesOf e=i.bytes:=by simp[Program.bytesOf,hi]
 obtain ⟨ad1,cp1,olds,s1,s2,s3,s4,s5,s6⟩:=pz hsim (bS hsim hs') hse;have v2:=bS hsim hx';rw[hvx] at v2;have t1:a.eval x=.int kx ((k:Nat):Int):=by rw[(eJ v2).1];congr 1;omega
 have t4:aN w D E (List.replicate k z) (List.replicate k zv.cells.toList).flatten:=sd (hzr w D E) k;have t5:∀ y∈List.replicate k z,y.size=c.P.cellsOf e:=fun y hy=>by rw[List.eq_of_mem_replicate hy];exact hzs
 have hlt:=hfull _ _ _ s1;obtain ⟨m,hm⟩:∃ m,m=grownCap w (es.length+k) cp1 e-(es.length+k):=⟨_,rfl⟩
 have hge:=grownCap_ge w (es.length+k) cp1 e;have hle:=grownCap_le_maxLen w (es.length+k) cp1 e hml;obtain ⟨cells,hcells⟩:∃ cells:Array Value,cells=olds.toArray++Builtin.zeroCells zv.cells k++Builtin.zeroCells zv.cells m:=⟨_,rfl⟩
 have hrun:(Builtin.append_ #[t,t'] o.type #[a.eval s,a.eval x]).run c.P w=.ok (.slice (some ⟨w.heap.size,0,none⟩) (es.length+k) (grownCap w (es.length+k) cp1 e)) (w.drew.alloc (.cells cells e)):=by
  have af:(es.length+k)*i.bytes≤140737488355328:=by rw[←hbi];exact hby
  have g1:=s6 c.P w.drew (fun _ _ h=>h);rw[s1,hci] at g1;have hfit:=growslice_fits hlt af;have hkb:k*i.bytes≤(es.length+k)*i.bytes:=Nat.mul_le_mul_right _ (by omega);rw[s1,t1,hcells,hm];exact Lib.run_append_grow_zeros w t t' o.type e i zv kx kt hu ht' hi hzv ad1 es.length cp1 olds g1 k hk0 (by rw[←hci];exact hpos) hlt (by simp only[maxLen] at hml;omega) (by omega) (by omega)
 have hcl:cells.toList=olds++((List.replicate k zv.cells.toList).flatten++(List.replicate m zv.cells.toList).flatten):=by
  rw[hcells];simp[vB]
 have hrc:al w D E (.agg (es++(List.replicate k z++List.replicate m z))) cells.toList:=by
  rw[hcl];simp only[al];exact kD _ _ _ _ s4 (kD _ _ _ _ t4 (sd (hzr w D E) m))
 have hsim':aX c A a w.drew D E:=hsim.grow ⟨rfl,rfl,rfl,zz3 _,fun _ _=>rfl⟩ (fun _ _ h=>h) (fun _ _ h _=>h) (fun b o h=>hsim.aU b o h);have hrc':al w.drew D E (.agg (es++(List.replicate k z++List.replicate m z))) cells.toList:=al.later (w:=w) (w':=w.drew) (D:=D) (E:=E) ⟨fun _ _ h=>h,fun _ _ _ _ h=>h,fun _ _ _ h=>h,fun _ aK l h=>⟨aK,l,h,zz3 _,fun _=>rfl⟩,fun _ _ h=>h,fun _ _ h=>h,fun _ _ _ _ h=>h⟩ _ _ hrc;have J:=hsim'.rX (T:=e) (.inl hdn) hf hrc';have hall:∀ y∈es++(List.replicate k z++List.replicate m z),y.size=c.P.cellsOf e:=by
  intro y hy;rcases zw0.1 hy with hy | hy
  ·exact s5 y hy
  ·rcases zw0.1 hy with hy | hy
   ·exact t5 y hy
   ·rw[List.eq_of_mem_replicate hy];exact hzs
 have hlen:(es++(List.replicate k z++List.replicate m z)).length=es.length+k+m:=by simp[Nat.add_assoc]
 have U:=J.put (d:=d) (x:=.view d [] (c.P.cellsOf e) 0 (es.length+k)) (v:=.slice (some ⟨w.heap.size,0,none⟩) (es.length+k) (grownCap w (es.length+k) cp1 e)) hdn ⟨_,by simp[bC,I.isAgg];rfl,by
  simp only[al,if_true];refine ⟨w.heap.size,(I.agg (es++(List.replicate k z++List.replicate m z))).bg,0,I.de (es++(List.replicate k z++List.replicate m z)),rfl,by cases (I.agg (es++(List.replicate k z++List.replicate m z))).bg <;>simp[cW.off],by simp only[I.bg,cW.part],?_,?_,?_,?_⟩
  ·rw[I.dG,zz6,hlen,hm];simp;omega
  ·rw[I.dG,zz6,hlen];omega
  ·rw[I.dG,zz6,hlen];omega
  ·rw[I.dG];intro s ab;obtain ⟨f,hf,rfl⟩:=zy9.1 ab;rw[I.l8];exact hall f hf⟩
 refine ⟨.slice (some ⟨w.heap.size,0,none⟩) (es.length+k) (grownCap w (es.length+k) cp1 e),w.drew.alloc (.cells cells e),m,?_,by omega,?_⟩
 ·unfold execOp;simp only[ho,resolve,invoke,builtin,Sem.run_bind,Sem.run_pure,Result.andThen_ok,List.map_toArray,zz5,zx7,hrun]
 ·rw[ah];exact ⟨D,_,U⟩
theorem O7{t e:TypeId}{s x:Operand}{s' x':aM}{ys:List I}{n:Nat}{p:List Nat}{lo k:Nat}{b:I}{fs:List I}(ho:o.op=.call { callee:=.builtin .append,args := #[s,x],argTypes := #[t,t] })(hu:c.P.underlying t=some (.slice e))(hi:(c.P.info? e).isSome=true)
  (hs':bq c.P t s=some s') (hx':bq c.P t x=some x') (hv:aj A s'=.view n p (c.P.cellsOf e) lo k) (hn:A.o n=some (.box b)) (hat:b.at p=some (.agg fs)) (hsx:dX A (c.P.cellsOf e) (aj A x')=some ys) (hroom:lo+k+ys.length≤fs.length)
  (hsh:I.de ys=I.de ((fs.drop (lo+k)).take ys.length)) (hdn:∀ k,o.dst=some k→k<c.n) :
  iO c A o ((A.aT n (.box (jQ b p (lo+k) fs ys))).aW o.dst (.view n p (c.P.cellsOf e) lo (k+ys.length))):=by
 intro a w D E hsim;obtain ⟨i,hi⟩:=zx0.1 hi;have hci:c.P.cellsOf e=i.size:=by simp[Program.cellsOf,hi]
 have aR:=bS hsim hs';rw[hv] at aR;have hxx:cM A (.ptr n p)=some (.agg fs):=by simp only[cM,hn,hat]
 obtain ⟨yy,bk,cs,T,off,c1,c2,c3,k1,k2,k3,k4,k5,k6,k7,k8,k9,k10,k11,k12,hval⟩:=hsim.view aR hxx;rw[hn] at k1;simp only[v6,aq.box.injEq] at k1;subst k1;obtain ⟨ad2,cp2,news,t1,t2,t3,t4,t5,t6⟩:=pz hsim (bS hsim hx') hsx;obtain ⟨w',J,U⟩:=hsim.jQ (j:=lo+k) (ys:=ys) hn k2 k3 k4 k5 k6 k7 k8 k9 k10 t4 hroom hsh c.P;have g2:=t6 c.P w (fun _ _ h=>h);rw[t1,hci] at g2;have hr:k+ys.length≤fs.length-lo:=by omega
 refine ⟨w',.inl ⟨.slice (some ⟨bk,off+lo*c.P.cellsOf e,none⟩) (k+ys.length) (fs.length-lo),?_,D,E,U.aW hdn ?_⟩⟩
 ·have e1:off+lo*i.size+k*i.size=off+(lo+k)*c.P.cellsOf e:=by rw[hci,Nat.add_mul];omega
  unfold execOp;simp only[ho,resolve,invoke,builtin,Sem.run_bind,Sem.run_pure,Result.andThen_ok,List.map_toArray,zz5,zx7,hval,t1];simp[Builtin.append_,run_underlying hu,sizeOf,typeInfo,hi,Builtin.lenOf,hr,g2,Addr.add_lit,hci,e1];rw[hci] at J;simp[J]
 ·refine ⟨_,by simp[bC,I.isAgg];rfl,?_⟩;simp only[al];refine ⟨bk,b.bg,off,I.de fs,k2,k5,mX p b _ k4,?_,?_,?_,?_⟩
  ·rw[I.dG,zz6]
  ·rw[I.dG,zz6];exact k12
  ·rw[I.dG,zz6];omega
  ·rw[I.dG];intro s ab;obtain ⟨f,hf,rfl⟩:=zy9.1 ab;rw[I.l8];exact k10 f hf
theorem O8{t e:TypeId}{s x:Operand}{s' x':aM}{es:List I}(ho:o.op=.call { callee:=.builtin .append,args := #[s,x],argTypes := #[t,t] })(hu:c.P.underlying t=some (.slice e))(hi:(c.P.info? e).isSome=true)(hs':bq c.P t s=some s')(hx':bq c.P t x=some x')
  (hse:dX A (c.P.cellsOf e) (aj A s')=some es) (hsx:dX A (c.P.cellsOf e) (aj A x')=some []):dy c A o (aj A s') :=
 .same fun a w D E hsim=>by
  obtain ⟨i,hi⟩:=zx0.1 hi;have hci:c.P.cellsOf e=i.size:=by simp[Program.cellsOf,hi]
  obtain ⟨ad1,cp1,olds,s1,s2,s3,s4,s5,s6⟩:=pz hsim (bS hsim hs') hse;obtain ⟨ad2,cp2,news,t1,t2,t3,t4,t5,t6⟩:=pz hsim (bS hsim hx') hsx;have g2:=t6 c.P w (fun _ _ h=>h);rw[t1,hci] at g2;simp only[aN] at t4;subst t4;refine ⟨a.eval s,?_,bS hsim hs'⟩;simp only[List.length_nil] at g2 t1;unfold execOp;simp only[ho,resolve,invoke,builtin,Sem.run_bind,Sem.run_pure,Result.andThen_ok,List.map_toArray,zz5,zx7,s1,t1];cases ad1 <;>simp[Builtin.append_,run_underlying hu,sizeOf,typeInfo,hi,Builtin.lenOf,s2,g2,storeCells]
end
theorem CO{w:World}{D:aS}{E:bf} : ∀ (l:List cK) (xs ys:List I) (cs ds:List Value),l.all xQ=true→iD l xs ys=some true→aN w D E xs cs→aN w D E ys ds→xs=ys∧cs=ds∧∀ v∈cs,∃ k n,v=.int k n
 | [],xs,ys,cs,ds,_,h,hx,hy=>by
  simp only[iD] at h;split at h
  ·simp only[aN] at hx hy;subst hx hy;exact ⟨rfl,rfl,fun v hv=>by simp at hv⟩
  ·cases h
 |t::ts,xs,ys,cs,ds,ha,h,hx,hy=>by
  simp only[List.all_cons,zz0] at ha;simp only[iD] at h;split at h
  case h_2=>cases h
  rename_i f fs g gs;unfold jE at h;split at h
  case h_2=>cases h
  rename_i a b J U;simp only[v6,zz0] at h;obtain ⟨rfl,rfl⟩:=h;simp only[aN] at hx hy;obtain ⟨c1,c2,rfl,p1,p2⟩:=hx;obtain ⟨d1,d2,rfl,q1,q2⟩:=hy;obtain ⟨rfl,rfl,k3⟩:=CO ts fs gs c2 d2 ha.2 U p2 q2;cases t with
  |i k =>
   simp only[cj] at J;split at J
   case h_2=>cases J
   rename_i k1 a k2 b;split at J
   case isFalse=>cases J
   rename_i hk;simp only[v6,beq_iff_eq] at J;subst J;obtain ⟨rfl,rfl⟩:=hk;simp only[al] at p1 q1;obtain ⟨rfl,_⟩:=p1;obtain ⟨rfl,_⟩:=q1;refine ⟨rfl,rfl,fun v hv =>?_⟩;rcases zw0.1 hv with hv | hv
   ·simp at hv;exact ⟨_,_,hv⟩
   ·exact k3 v hv
  |b | s | bh _ | qS _ _=>simp[xQ] at ha
theorem HL:∀ (cs:List Value) (n:Nat),(∀ v∈cs,∃ k m,v=.int k m)→((cs.zip cs).all fun (x,y)=>Instr.sameBits n x y)=true
 | [],_,_=>rfl
 |v::cs,n,h=>by
  obtain ⟨k,m,rfl⟩:=h v (by simp);simp only[List.zip_cons_cons,List.all_cons,zz0];exact ⟨by cases n <;>simp[Instr.sameBits],HL cs n fun v hv=>h v (by simp[hv])⟩
theorem aaJ{P:Program}{t:TypeId}{ty:cK}{w:World}{D:aS}{E:bf}{x y:I}{u v:Value}(hk:kq P t=some ty)(h:cj ty x y=some true)(hx:a8 w D E x u)(hy:a8 w D E y v):x=y∧u=v∧Instr.sameBits 10000 u v=true:=by
 unfold kq at hk;split at hk
 ·rename_i k hu;simp only[v6] at hk;subst hk;simp only[cj] at h;split at h
  case h_2=>cases h
  split at h
  case isFalse=>cases h
  rename_i hk;simp only[v6,beq_iff_eq] at h;subst h;obtain ⟨rfl,rfl⟩:=hk;rw[(eJ hx).1,(eJ hy).1];exact ⟨rfl,rfl,by simp[Instr.sameBits]⟩
 ·rename_i fs hu;split at hk
  case h_2=>cases hk
  rename_i l ao;split at hk
  case isFalse=>cases hk
  rename_i hc;simp only[v6] at hk;subst hk;simp only[cj] at h;split at h
  case h_2=>cases h
  rename_i xs ys;obtain ⟨cs,rfl,hc1⟩:=jP hx;obtain ⟨ds,rfl,hd1⟩:=jP hy;obtain ⟨rfl,rfl,af⟩:=CO l xs ys cs ds hc.1 h hc1 hd1;refine ⟨rfl,rfl,?_⟩;simp only[Instr.sameBits,beq_self_eq_true,Bool.true_and];exact HL cs _ af
 ·cases hk
section
variable {P:Program} {w:World} {D:aS} {E:bf}
theorem wL{t:TypeId}{ty:cK}{em:Bool}{x y:I}{v:Value}{r:Bool}(hk:kq P t=some ty)(hx:a8 w D E x v)(h:cj ty x y=some r)(n:Nat):(Instr.checkKey em (n+2) t v).run P w=.ok () w:=by
 unfold kq at hk;split at hk
 ·rename_i k hu;simp only[v6] at hk;subst hk;simp only[cj] at h;split at h
  case h_2=>cases h
  rename_i k1 a k2 b;split at h
  case isFalse=>cases h
  rename_i hq;rw[(eJ hx).1,hq.1];exact MapKept.run_checkKey hu (by simp[MapKept.IsKey]) em (n+1)
 ·rename_i fs hu;split at hk
  case h_2=>cases hk
  rename_i l ao;split at hk
  case isFalse=>cases hk
  rename_i hc;simp only[v6] at hk;subst hk;simp only[cj] at h;split at h
  case h_2=>cases h
  rename_i xs ys;obtain ⟨cs,rfl,hc1⟩:=jP hx;obtain ⟨d,ah⟩:∃ d,d=11:=⟨_,rfl⟩
  rw[show (12:Nat)=d+1 from by omega] at ao;simp only[hd,hu] at ao;split at ao
  case isFalse=>cases ao
  rename_i hc2;simp only[t8,cK.bh.injEq] at ao;obtain ⟨l',ao,rfl⟩:=ao;rw[show n+2=(n+1)+1 from rfl,Instr.checkKey];simp only[Sem.run_bind,run_underlying hu,Result.andThen_ok];rw[←Array.forIn_toList];have key:∀ (L:List Field) (l:List cK) (xs ys:List I) (r:Bool) (c1 c2:List Value),
    (L.mapM fun f=>match hd P d f.type with
     |some ty=>if ty.size=P.cellsOf f.type then some ty else none
     | none => none) = some l → (∀ f ∈ L, f.name ≠ "_" ∧ rG (P.underlying f.type) = true) → qj P c1.length L = true → aN w D E xs c2 → iD l xs ys = some r → c1 ++ c2 = cs →
    Sem.run P (forIn L PUnit.unit (fun (f : Field) (_ : PUnit) => (if f.name ≠ "_" then (do
     let x ←part f.type cs.toArray f.offset
     Instr.checkKey em (n+1) f.type x
     pure (ForInStep.yield PUnit.unit)) else pure (ForInStep.yield PUnit.unit):Sem (ForInStep PUnit)))) w=.ok PUnit.unit w:=by
   intro L
   induction L with
   |nil=>intros;simp
   |cons f L ih =>
    intro l xs ys r c1 c2 hm hn ho hx h htot;simp only[List.mapM_cons,Option.bind_eq_bind,Option.pure_def,zv6,v6] at hm;obtain ⟨ty,hty,tys,htys,rfl⟩:=hm;split at hty
    case h_2=>cases hty
    rename_i ty' hd';split at hty
    case isFalse=>cases hty
    rename_i hsz;simp only[v6] at hty;subst hty;simp only[iD] at h;split at h
    case h_2=>cases h
    rename_i x xs y ys;unfold jE at h;split at h
    case h_2=>cases h
    rename_i ra rb J U;simp only[aN] at hx;obtain ⟨e1,e2,rfl,k1,k2⟩:=hx;obtain ⟨s,q1,q2,q3⟩:=wZ hd' hsz J;obtain ⟨u,p1,p2⟩:=oY (P:=P) (w:=w) (c1:=c1) (c3:=e2) q1 q2 k1;simp only[qj,zz0,beq_iff_eq] at ho;have hsx:=pJ ty' x y ra J;have hle:e1.length=P.cellsOf f.type:=by rw[al.length _ _ k1,hsx.1,hsz]
    have ih':=ih tys xs ys rb (c1++e1) e2 htys (fun g hg=>hn g (by simp[hg])) (by simp only[zz8,hle];exact ho.2) k2 U (by rw[←htot];simp);rw[zy3,htot,←ho.1] at p1;obtain ⟨hnm,hint⟩:=hn f (by simp);have hck:(Instr.checkKey em (n+1) f.type u).run P w=.ok () w:=by
     cases hu:P.underlying f.type with
     |none=>simp[hu,rG] at hint
     |some dd =>
      cases dd <;>simp[hu,rG] at hint
      rename_i q;have hti:ty'=.i q:=by
       rw[show d=10+1 from by omega] at hd';unfold hd at hd';simp only[hu,v6] at hd';exact hd'.symm
      subst hti;simp only[cj] at J;split at J
      case h_2=>cases J
      split at J
      case isFalse=>cases J
      rename_i hq;rw[(eJ p2).1,hq.1];exact MapKept.run_checkKey hu (by simp[MapKept.IsKey]) em n
    simp only[List.forIn_cons,Sem.run_bind,hnm,ne_eq,not_false_eq_true,if_true,p1,Result.andThen_ok,hck,Sem.run_pure];exact ih'
  rw[key fs.toList l' xs ys r [] cs ao (fun f hf=>⟨by simpa using zx5.1 hc2.2.1 f hf,Array.all_eq_true_iff_forall_mem.1 hc.2 f (Array.mem_toList_iff.1 hf)⟩) hc2.2.2 hc1 h rfl];simp
 ·cases hk
theorem zn{x:I}{xs:List I}{vs:List Value}(h:aH w D E (x::xs) vs):∃ v rest,vs=v::rest∧a8 w D E x v∧aH w D E xs rest:=by
 simp only[aH] at h;obtain ⟨v,rest,cs,rfl,J,U,af⟩:=h;exact ⟨v,rest,rfl,gL J U,af⟩
def po(r:Option Nat)(es:List MapEntry)(i:Nat)(q:Option (Nat×Value)):Prop :=
 (r=none∧q=none)∨∃ j e,r=some (i+j)∧es[j]?=some e∧q=some (i+j,e.val)
theorem po.step{r:Option Nat}{es:List MapEntry}{e:MapEntry}{i:Nat}{q:Option (Nat×Value)}(h:po r es (i+1) q):po r (e::es) i q:=by
 rcases h with h | ⟨j,e',J,U,af⟩
 ·exact .inl h
 ·exact .inr ⟨j+1,e',by rw[J];congr 1;omega,by simpa using U,by rw[af];congr 2;omega⟩
theorem C8{q:IntKind}{k:I}{v:Value}(hv:a8 w D E k v):∀ (ks:List I) (es:List MapEntry) (i:Nat) (r:Option Nat),aH w D E ks (es.map (·.key))→eT (.i q) k ks i=some r →
  ∃ x,Instr.findNow (.int q) v es i=some x∧po r es i x
 | [],es,i,r,hk,h=>by
  simp only[eT,v6] at h;simp only[aH,List.map_eq_nil_iff] at hk;subst h hk;exact ⟨none,rfl,.inl ⟨rfl,rfl⟩⟩
 |x::ks,es,i,r,hk,h=>by
  obtain ⟨u,rest,e1,hu,hr⟩:=zn hk;cases es with
  |nil=>cases e1
  |cons e es =>
   simp only[zz5,zw3] at e1;obtain ⟨rfl,rfl⟩:=e1;simp only[eT] at h;have same:∀ b,cj (.i q) k x=some b→Instr.sameNow (.int q) v e.key=some b:=fun b hb=>by
    simp only[cj] at hb;split at hb
    case h_2=>cases hb
    split at hb
    case isFalse=>cases hb
    rename_i hq;simp only[v6] at hb;subst hb;rw[(eJ hv).1,(eJ hu).1];simp[Instr.sameNow,hq.1,hq.2]
   split at h
   ·rename_i hb;simp only[v6] at h;subst h;exact ⟨some (i,e.val),by simp[Instr.findNow,same _ hb],.inr ⟨0,e,rfl,rfl,rfl⟩⟩
   ·rename_i hb;obtain ⟨y,J,U⟩:=C8 hv ks es (i+1) r hr h;exact ⟨y,by simp[Instr.findNow,same _ hb,J],U.step⟩
   ·cases h
theorem C6{t:TypeId}{ty:cK}(hty:hd P 12 t=some ty){k:I}{v:Value}(hv:a8 w D E k v):∀ (ks:List I) (es:List MapEntry) (i:Nat) (r:Option Nat),aH w D E ks (es.map (·.key))→eT ty k ks i=some r →
  ∃ x,(Instr.findAsking t v es i).run P w=.ok x w∧po r es i x
 | [],es,i,r,hk,h=>by
  simp only[eT,v6] at h;simp only[aH,List.map_eq_nil_iff] at hk;subst h hk;exact ⟨none,rfl,.inl ⟨rfl,rfl⟩⟩
 |x::ks,es,i,r,hk,h=>by
  obtain ⟨u,rest,e1,hu,hr⟩:=zn hk;cases es with
  |nil=>cases e1
  |cons e es =>
   simp only[zz5,zw3] at e1;obtain ⟨rfl,rfl⟩:=e1;simp only[eT] at h;have same:∀ b,cj ty k x=some b→(Op.equal t v e.key).run P w=.ok b w:=fun b hb=>tJ 12 t ty hty k x v e.key b hv hu hb _ (by simp[Op.maxDepth]);split at h
   ·rename_i hb;simp only[v6] at h;subst h;exact ⟨some (i,e.val),by simp[Instr.findAsking,same _ hb],.inr ⟨0,e,rfl,rfl,rfl⟩⟩
   ·rename_i hb;obtain ⟨y,J,U⟩:=C6 hty hv ks es (i+1) r hr h;exact ⟨y,by simp[Instr.findAsking,same _ hb,J],U.step⟩
   ·cases h
theorem pQ{t:TypeId}{ty:cK}(hk:kq P t=some ty){k:I}{v:Value}(hv:a8 w D E k v){ks:List I}{es:List MapEntry}{r:Option Nat}(hks:aH w D E ks (es.map (·.key)))(h:eT ty k ks 0=some r) :
  ∃ x,(Instr.findKey t v es).run P w=.ok x w∧po r es 0 x:=by
 have hk0:=hk;unfold kq at hk;split at hk
 ·rename_i q hu;simp only[v6] at hk;subst hk;obtain ⟨x,J,U⟩:=C8 hv ks es 0 r hks h;exact ⟨x,by simp[Instr.findKey,run_underlying hu,J],U⟩
 ·rename_i fs hu;split at hk
  case h_2=>cases hk
  rename_i l ao;split at hk
  case isFalse=>cases hk
  simp only[v6] at hk;subst hk;cases es with
  |nil =>
   cases ks with
   |nil =>
    simp only[eT,v6] at h;subst h;exact ⟨none,by simp[Instr.findKey,run_underlying hu,Instr.findNow],.inl ⟨rfl,rfl⟩⟩
   |cons x xs=>simp[aH] at hks
  |cons e es =>
   obtain ⟨x,J,U⟩:=C6 ao hv ks (e::es) 0 r hks h;exact ⟨x,by simp[Instr.findKey,run_underlying hu,Instr.findNow,Instr.sameNow,J],U⟩
 ·cases hk
theorem mU:∀ {xs:List I} {vs:List Value} {j:Nat} {v:Value},aH w D E xs vs→vs[j]?=some v→∃ x,xs[j]?=some x∧a8 w D E x v
 | [],vs,j,v,h,hj=>by simp only[aH] at h;subst h;simp at hj
 |x::xs,vs,j,v,h,hj=>by
  obtain ⟨u,rest,rfl,J,U⟩:=zn h;cases j with
  |zero=>simp only[List.getElem?_cons_zero,v6] at hj;subst hj;exact ⟨x,rfl,J⟩
  |succ j=>exact mU (xs:=xs) U (by simpa using hj)
end
section
variable {c:cV} {A:ai} {o:Oper} {x:I}
theorem abc{a:Act}{w:World}{D:aS}{E:bf}(ab:aX c A a w D E){m:I}{v:Value}{ks vs:List I}(hv:a8 w D E m v)(hm:gy A m=some (ks,vs)) :
  (v=.map none∧ks=[]∧vs=[])∨∃ b es clock,v=.map (some b)∧w.heap[b]?=some (.map es clock)∧aH w D E ks (es.toList.map (·.key))∧aH w D E vs (es.toList.map (·.val)):=by
 unfold gy at hm;split at hm
 ·simp only[v6,Prod.mk.injEq] at hm;obtain ⟨rfl,rfl⟩:=hm;obtain ⟨cs,q1,q2⟩:=hv;simp only[al] at q2;obtain ⟨b,es,ck,q3,q4,q5,q6⟩:=q2;exact .inr ⟨b,es,ck,by simpa[bC,I.isAgg,q3] using q1.symm,q4.1,q5,q6⟩
 ·rename_i n;split at hm
  case h_2=>cases hm
  rename_i ks' vs' hn;simp only[v6,Prod.mk.injEq] at hm;obtain ⟨rfl,rfl⟩:=hm;obtain ⟨cs,q1,q2⟩:=hv;simp only[al] at q2;obtain ⟨b,q3,q4⟩:=q2;obtain ⟨b',es,ck,k1,k2,k3,k4,k5,k6,k7⟩:=ab.map hn;rw[k1] at q3;cases q3;exact .inr ⟨_,es,ck,by simpa[bC,I.isAgg,q4] using q1.symm,k3,k5,k6⟩
 ·simp only[v6,Prod.mk.injEq] at hm;obtain ⟨rfl,rfl⟩:=hm;obtain ⟨cs,q1,q2⟩:=hv;simp only[al] at q2;exact .inl ⟨by simpa[bC,I.isAgg,q2.1] using q1.symm,rfl,rfl⟩
 ·cases hm
theorem pk{w:World}{D:aS}{E:bf}{y:I}{v:Value}(hv:y.bX=true)(h:a8 w D E y v):∃ cs,bC y v cs∧al w D E y cs:=by
 cases y <;>simp[I.bX] at hv <;>exact h
theorem qB{w:World}{D:aS}{E:bf} : ∀ {xs:List I} {vs:List Value} {j:Nat} {x:I},aH w D E xs vs→xs[j]?=some x→x.bX=true
 | [],_,j,x,_,h=>by simp at h
 |y::ys,vs,j,x,hr,h=>by
  simp only[aH] at hr;obtain ⟨v,rest,cs,rfl,J,U,af⟩:=hr;cases j with
  |zero =>
   simp only[List.getElem?_cons_zero,v6] at h;subst h;cases y <;>simp only[al] at U <;>rfl
  |succ j=>exact qB (xs:=ys) af (by simpa using h)
theorem aev{x:I}{cs r:List Value}(h:nc x cs=some r):x.bX=true:=by
 cases x <;>first | rfl | (cases cs <;>simp[nc] at h)
theorem aew{P:Program}{t:TypeId}{z:I}(hz:gF P t=some z)(hp:vA P t z=true):∃ zv,(∀ w,(zeroValue t).run P w=.ok zv w)∧z.bX=true∧∀ w D E,a8 w D E z zv:=by
 have hz0:=hz;obtain ⟨i,zv,hi,hzz,hzr⟩:=me hz;have hv:z.bX=true:=by
  unfold gF at hz;split at hz
  ·split at hz
   ·rename_i hk;simp only[v6] at hz;subst hz;exact aev hk
   ·cases hz
  ·cases hz
 refine ⟨zv,fun w=>by simp[zeroValue,typeInfo,hi,hzz],hv,fun w D E =>?_⟩;have J:=hzr w D E;simp only[vA,hi,zv9,hzz] at hp;refine gL (cs:=zv.cells.toList) ?_ J;cases zv <;>simp only[bC] at hp ⊢ <;>first
  |(rw[if_pos hp];simp[Value.cells])
  |(have hp':z.isAgg=false:=by simpa using hp
    rw[hp'];simp[Value.cells])
theorem Z3{t kt et:TypeId}{m k:Operand}{m' k':aM}{ok:Bool}{ty:cK}{z v:I}{ks vs:List I}{there:Bool}(ho:o.op=.lookup t m k ok)(hu:c.P.underlying t=some (.map kt et))(hk:kq c.P kt=some ty)(hz:gF c.P et=some z)(hzp:vA c.P et z=true)
  (hm:bq c.P 0 m=some m') (hk':bq c.P 0 k=some k') (hmm:gy A (aj A m')=some (ks,vs)) (ao:fJ ty z (aj A k') ks vs=some (v,there)):dy c A o (if ok then .tuple [v,.bool there] else v) :=
 .same fun a w D E ab=>by
  have J:=bS ab hm;have U:=bS ab hk';obtain ⟨zv,hzrun,hzv,hzrv⟩:=aew hz hzp;unfold fJ at ao;split at ao
  case isFalse=>cases ao
  rename_i hkk;obtain ⟨rk,hrk⟩:=zx0.1 hkk;have hchk:=fun em=>wL (P:=c.P) (w:=w) (em:=em) hk U hrk 9998;have br:∀ u there,v.bX=true→a8 w D E v u→a8 w D E (if ok then .tuple [v,.bool there] else v) (if ok then Value.tuple #[u,.bool there] else u):=fun u there hval hu'=>by
   cases ok
   ·exact hu'
   ·obtain ⟨cs,q1,q2⟩:=pk hval hu';simp only[if_true,a8,aH];exact ⟨[u,.bool there],rfl,u,[.bool there],cs,rfl,q1,q2,.bool there,[],[.bool there],rfl,by simp[bC,I.isAgg],by simp[al],rfl⟩
  have main:∀ (es:Array MapEntry),aH w D E ks (es.toList.map (·.key))→aH w D E vs (es.toList.map (·.val))→∃ u,v.bX=true∧a8 w D E v u ∧
    ((∃ i,(Instr.findKey kt (a.eval k) es.toList).run c.P w=.ok (some (i,u)) w∧there=true)∨((Instr.findKey kt (a.eval k) es.toList).run c.P w=.ok none w∧u=zv∧there=false)):=fun es hks hvs=>by
   split at ao
   ·rename_i i hfi;simp only[t8,Prod.mk.injEq] at ao;obtain ⟨v',hv',rfl,rfl⟩:=ao;obtain ⟨q,q1,q2⟩:=pQ hk U hks hfi;rcases q2 with ⟨e,_⟩ | ⟨j,e,e1,e2,rfl⟩
    ·cases e
    ·simp only[zz4,v6] at e1;subst e1;obtain ⟨x,k1,k2⟩:=mU (j:=i) (v:=e.val) hvs (by simp only[zx4,e2,zz9]);rw[hv',v6] at k1;subst k1;exact ⟨e.val,qB hvs hv',k2,.inl ⟨_,q1,rfl⟩⟩
   ·rename_i hfi;simp only[v6,Prod.mk.injEq] at ao;obtain ⟨rfl,rfl⟩:=ao;obtain ⟨q,q1,q2⟩:=pQ hk U hks hfi;rcases q2 with ⟨_,rfl⟩ | ⟨j,e,e1,_⟩
    ·exact ⟨zv,hzv,hzrv w D E,.inr ⟨q1,rfl,rfl⟩⟩
    ·cases e1
   ·cases ao
  rcases abc ab J hmm with ⟨e1,rfl,rfl⟩ | ⟨b,es,ck,e1,e2,e3,e4⟩
  ·obtain ⟨u,hval,hu',hrun⟩:=main #[] (by simp[aH]) (by simp[aH]);refine ⟨_,?_,br u there hval hu'⟩;rcases hrun with ⟨i,q1,rfl⟩ | ⟨q1,rfl,rfl⟩ <;>
    simp only[execOp,ho,Instr.lookup,e1,Sem.run_bind,run_underlying hu,Result.andThen_ok,Sem.run_pure,hchk,q1,hzrun]
  ·obtain ⟨u,hval,hu',hrun⟩:=main es e3 e4;refine ⟨_,?_,br u there hval hu'⟩;rcases hrun with ⟨i,q1,rfl⟩ | ⟨q1,rfl,rfl⟩ <;>
    simp only[execOp,ho,Instr.lookup,e1,Sem.run_bind,run_underlying hu,Result.andThen_ok,MapKept.run_getObj_map e2,Sem.run_pure,hchk,q1,hzrun]
theorem DX{y:Operand}{y':aM}(ho:o.op=.nilCheck y)(hy:bq c.P 0 y=some y')(h:(∃ n p,aj A y'=.ptr n p)∨∃ z,aj A y'=.ref z):dy c A o (aj A y') :=
 .same fun a w D E ab=>by
  have J:=bS ab hy;rcases h with ⟨n,p,h⟩ | ⟨z,h⟩
  ·rw[h] at J ⊢;obtain ⟨b,bg,off,_,_,e⟩:=l5 J;exact ⟨a.eval y,by simp only[execOp,ho,e,Sem.run_pure],J⟩
  ·rw[h] at J ⊢;obtain ⟨b,off,cs,e,_⟩:=qA J;exact ⟨a.eval y,by simp only[execOp,ho,e,Sem.run_pure],J⟩
theorem Em{w:World}{D:aS}{E:bf}{x:I}{v:Value}{b:Bool}(h:jm x=some b)(hv:a8 w D E x v):∃ ad,v=.pointer ad∧ad.isNone=b:=by
 cases x <;>simp only[jm,v6] at h <;>try (cases h;done)
 case nilp =>
  subst h;obtain ⟨cs,q1,q2⟩:=hv;simp only[al] at q2;exact ⟨none,by simpa[bC,I.isAgg,q2] using q1.symm,rfl⟩
 case ptr n p =>
  subst h;obtain ⟨b,bg,off,_,_,e⟩:=l5 hv;exact ⟨_,e,rfl⟩
 case ref z =>
  subst h;obtain ⟨b,off,cs,e,_⟩:=qA hv;exact ⟨_,e,rfl⟩
theorem Z6{x y:Operand}{x' y':aM}{tys:Array TypeId}{v:I}(ho:o.op=.call { callee:=.builtin .max,args := #[x,y],argTypes:=tys })(hx:bq c.P 0 x=some x')(hy:bq c.P 0 y=some y')(h:rW (aj A x') (aj A y')=some v):dy c A o v :=
 .same fun a w D E ab=>by
  have J:=bS ab hx;have U:=bS ab hy;unfold rW at h;split at h
  case h_2=>cases h
  rename_i k n k2 m e1 e2;split at h
  case isFalse=>cases h
  rename_i hk;subst hk;simp only[v6] at h;subst h;rw[e1] at J;rw[e2] at U;obtain ⟨v1,r1⟩:=eJ J;obtain ⟨v2,nK⟩:=eJ U;refine ⟨.int k (if m>n then m else n),by simp[execOp,ho,resolve,invoke,builtin,Builtin.max_,Builtin.max2,v1,v2],j2 ?_⟩;split
  ·exact nK
  ·exact r1
theorem aab{neg:Bool}{t yt e:TypeId}{y z:Operand}{y' z':aM}{b1 b2:Bool}(ho:o.op=.binOp (if neg then .neq else .eql) t y z yt)(hu:c.P.underlying t=some (.pointer e))(hy:bq c.P 0 y=some y')(hz:bq c.P 0 z=some z')
  (J:jm (aj A y')=some b1) (U:jm (aj A z')=some b2) (h:b1=true∨b2=true):dy c A o (.bool (if neg then !(b1&&b2) else (b1&&b2))) :=
 .same fun a w D E ab=>by
  obtain ⟨p,e1,k1⟩:=Em J (bS ab hy);obtain ⟨q,e2,k2⟩:=Em U (bS ab hz);have he:∀ d,(Op.equalIn (d+1) t (.pointer p) (.pointer q)).run c.P w=.ok (b1&&b2) w:=fun d=>by
   subst k1 k2;cases p <;>cases q <;>simp at h <;>simp[Op.equalIn,run_underlying hu]
  refine ⟨.bool (if neg then !(b1&&b2) else (b1&&b2)),?_,mF _⟩;cases neg <;>simp only[execOp,ho,e1,e2,if_true,zz2,if_false,Sem.run_bind,eqGuard] <;>simp[binOp,Op.equal,Op.maxDepth,he]
end
section
variable {c:cV} {A:ai} {o:Oper} {x:I}
theorem Pd{t:TypeId}{d:Nat}(ho:o.op=.makeMap t none)(ah:o.dst=some d)(hn:d<c.n)(hf:A.o d=none):iO c A o ((A.aT d (.bD [] [])).put d (.mref d)):=by
 intro a w D E ab;have J:=ab.abv (.inl hn) hf;have U:=J.put (x:=.mref d) (v:=.map (some w.heap.size)) hn ⟨_,by simp[bC,I.isAgg];rfl,by
  simp only[al,if_true];exact ⟨w.heap.size,rfl,rfl⟩⟩
 exact ⟨w.alloc (.map #[] 0),.inl ⟨.map (some w.heap.size),by simp[execOp,ho,Instr.makeMap],D,_,by rw[ah];exact U⟩⟩
theorem zm{w:World}{D:aS}{E:bf} : ∀ {xs ys:List I} {us vs:List Value},aH w D E xs us→aH w D E ys vs→aH w D E (xs++ys) (us++vs)
 | [],ys,us,vs,h,k=>by simp only[aH] at h;subst h;simpa using k
 |x::xs,ys,us,vs,h,k=>by
  simp only[aH,zy1] at *;obtain ⟨v,rest,cs,rfl,J,U,af⟩:=h;exact ⟨v,rest++vs,cs,rfl,J,U,zm af k⟩
theorem HD{w:World}{D:aS}{E:bf} : ∀ {xs:List I} {us:List Value} {i:Nat} {y:I} {v:Value} {cs:List Value},aH w D E xs us→bC y v cs→al w D E y cs→aH w D E (xs.set i y) (us.set i v)
 | [],us,i,y,v,cs,h,_,_=>by simp only[aH] at h;subst h;simp[aH]
 |x::xs,us,i,y,v,cs,h,k1,k2=>by
  simp only[aH] at h;obtain ⟨u,rest,ds,rfl,J,U,af⟩:=h;cases i with
  |zero=>simp only[List.set_cons_zero,aH];exact ⟨v,rest,cs,rfl,k1,k2,af⟩
  |succ i=>simp only[List.set_cons_succ,aH];exact ⟨u,_,ds,rfl,J,U,HD af k1 k2⟩
theorem HC{w:World}{D:aS}{E:bf}{y:I}{v:Value}{cs:List Value}(J:bC y v cs)(U:al w D E y cs):aH w D E [y] [v]:=by
 simp only[aH];exact ⟨v,[],cs,rfl,J,U,rfl⟩
theorem C7{ty:cK}{k:I} : ∀ {ks:List I} {i j:Nat},eT ty k ks i=some (some j)→∃ x,ks[j-i]?=some x∧i≤j∧cj ty k x=some true
 | [],i,j,h=>by simp[eT] at h
 |x::xs,i,j,h=>by
  simp only[eT] at h;split at h
  ·rename_i hb;simp only[v6] at h;subst h;exact ⟨x,by simp,zz3 _,hb⟩
  ·obtain ⟨y,J,U,af⟩:=C7 h;refine ⟨y,?_,by omega,af⟩;rw[show j-i=(j-(i+1))+1 from by omega];simpa using J
  ·cases h
theorem CG{t kt et:TypeId}{m k v:Operand}{m' k' v':aM}{ty:cK}{n:Nat}{ks vs ks' vs':List I}(ho:o.op=.mapUpdate t m k v∨o.op=.insert t m k v)(hu:c.P.underlying t=some (.map kt et))(hk:kq c.P kt=some ty)
  (hm:bq c.P 0 m=some m') (hk':bq c.P 0 k=some k') (hv':bq c.P et v=some v') (hmm:aj A m'=.mref n) (hn:A.o n=some (.bD ks vs)) (ao:fL ty (aj A k') (aj A v') ks vs=some (ks',vs')) (ah:o.dst=none) :
  iO c A o (A.aT n (.bD ks' vs')):=by
 intro a w D E ab;have J:=bS ab hm;have U:=bS ab hk';have af:=bS ab hv';rw[hmm] at J;unfold fL at ao;split at ao
 case isFalse=>cases ao
 rename_i hc;obtain ⟨hkk,hkv,hvv⟩:=hc;obtain ⟨rk,hrk⟩:=zx0.1 hkk;have hchk:=fun em=>wL (P:=c.P) (w:=w) (em:=em) hk U hrk 9998;obtain ⟨kcs,kp1,kp2⟩:=pk hkv U;obtain ⟨vcs,vp1,vp2⟩:=pk hvv af;obtain ⟨b,es,ck,k1,k2,k3,k4,k5,k6,k7⟩:=ab.map hn;have hmv:a.eval m=.map (some b):=by
  obtain ⟨cs,q1,q2⟩:=J;simp only[al] at q2;obtain ⟨b',q3,q4⟩:=q2;rw[k1] at q3;cases q3;simpa[bC,I.isAgg,q4] using q1.symm
 -- the new entries
 have step:∀ (es':Array MapEntry) (ck':Nat),(Instr.mapUpdate t (.map (some b)) (a.eval k) (a.eval v)).run c.P w=.ok () (w.putObj b (.map es' ck'))→o9 es' ck'→aH w D E ks' (es'.toList.map (·.key))→aH w D E vs' (es'.toList.map (·.val)) →
   ∃ w',((∃ u,(execOp a.eval o).run c.P w=.ok (.value u) w'∧cd c (A.aT n (.bD ks' vs')) (a.put o.dst u) w')∨((execOp a.eval o).run c.P w=.ok .skip w'∧cd c (A.aT n (.bD ks' vs')) (a.put o.dst undef) w')):=fun es' ck' hrun hst hks hvs=>by
  refine ⟨w.putObj b (.map es' ck'),.inr ⟨?_,?_⟩⟩
  ·rcases ho with ho | ho <;>simp only[execOp,ho,hmv,Sem.run_bind,hrun,Result.andThen_ok,Sem.run_pure]
  ·rw[ah];have:=ab.zy (o':=.map es' ck') (x:=.bD ks' vs') k1 rfl rfl k3 rfl (fun q=>by simp) k2 (fun hl' bz hno=>⟨b,es',ck',k1,k2,bz,hst,aH.later hl' _ _ hks,aH.later hl' _ _ hvs,hno⟩);exact ⟨D,E,this⟩
 split at ao
 ·rename_i i hfi;simp only[v6,Prod.mk.injEq] at ao;obtain ⟨rfl,rfl⟩:=ao;obtain ⟨q,q1,q2⟩:=pQ hk U k5 hfi;rcases q2 with ⟨e,_⟩ | ⟨j,e,e1,e2,rfl⟩
  ·cases e
  simp only[zz4,v6] at e1;subst e1;obtain ⟨y,y1,_,y2⟩:=C7 hfi;simp only[Nat.sub_zero] at y1;obtain ⟨y',y3,y4⟩:=mU (j:=i) (v:=e.key) k5 (by simp only[zx4,e2,zz9]);rw[y1,v6] at y3;subst y3;obtain ⟨_,kk2,kk3⟩:=aaJ hk y2 U y4;have hes:es[i]?=some e:=by rw[←zw8];exact e2
  have hlen:i<es.size:=(zy4.1 hes).1;refine step (es.modify i fun e => { e with key:=a.eval k,val:=a.eval v }) ck ?_ ?_ ?_ ?_
  ·have hsb:Instr.sameBits 10000 (((es[i]?).map (·.key)).getD (a.eval k)) (a.eval k)=true:=by
    rw[hes];simp only[zz9,Option.getD_some];rw[←kk2];rw[←kk2] at kk3;exact kk3
   simp only[Instr.mapUpdate,Sem.run_bind,run_underlying hu,Result.andThen_ok,MapKept.run_getObj_map k3,hchk,q1,zz4,Instr.keyThatStays,hsb,if_true,Sem.run_pure,MapKept.run_setObj_map _ k3];rfl
  all_goals
   have em:(es.modify i fun e => { e with key:=a.eval k,val:=a.eval v }).toList=es.toList.set i { e with key:=a.eval k,val:=a.eval v } :=by
    rw[Array.toList_modify];apply List.ext_getElem?;intro j;rw[List.getElem?_modify,List.getElem?_set];by_cases hij:i=j
    ·subst hij;have hge:es[i]'hlen=e:=(zy4.1 hes).2;simp[hlen,hge]
    ·simp[hij]
  ·refine ⟨fun x hx =>?_,?_⟩
   ·rw[em] at hx;rcases List.mem_or_eq_of_mem_set hx with hx | rfl
    ·exact k4.1 x hx
    ·exact k4.1 e (List.mem_of_getElem? e2)
   ·rw[em];have:(es.toList.set i { e with key:=a.eval k,val:=a.eval v }).map (·.born)=es.toList.map (·.born):=by
     rw[List.map_set];apply List.ext_getElem?;intro j;rw[List.getElem?_set];split
     ·rename_i hij;subst hij;simp[e2];exact hlen
     ·rfl
    rw[this];exact k4.2
  ·rw[em,List.map_set];have:(es.toList.map (·.key)).set i (a.eval k)=es.toList.map (·.key):=by
    apply List.ext_getElem?;intro j;rw[List.getElem?_set];split
    ·rename_i hij;subst hij;simp[e2,kk2];exact hlen
    ·rfl
   simp only[this];exact k5
  ·rw[em,List.map_set];exact HD k6 vp1 vp2
 ·rename_i hfi;simp only[v6,Prod.mk.injEq] at ao;obtain ⟨rfl,rfl⟩:=ao;obtain ⟨q,q1,q2⟩:=pQ hk U k5 hfi;rcases q2 with ⟨_,rfl⟩ | ⟨j,e,e1,_⟩
  case inr=>cases e1
  refine step (es.push { key:=a.eval k,val:=a.eval v,born:=ck }) (ck+1) ?_ ⟨fun x hx =>?_,?_⟩ ?_ ?_
  ·simp only[Instr.mapUpdate,Sem.run_bind,run_underlying hu,Result.andThen_ok,MapKept.run_getObj_map k3,hchk,q1,MapKept.run_setObj_map _ k3];rfl
  ·simp only[Array.toList_push,zw0,zx1] at hx;rcases hx with hx | rfl
   ·have:=k4.1 x hx;omega
   ·simp
  ·simp only[Array.toList_push,zy5,zz5,zx7];refine List.nodup_append.2 ⟨k4.2,by simp,fun x hx y hy =>?_⟩;simp only[zx1] at hy;subst hy;obtain ⟨e,he,rfl⟩:=zy9.1 hx;exact Nat.ne_of_lt (k4.1 e he)
  ·simp only[Array.toList_push,zy5,zz5,zx7];exact zm k5 (HC kp1 kp2)
  ·simp only[Array.toList_push,zy5,zz5,zx7];exact zm k6 (HC vp1 vp2)
 ·cases ao
theorem ur{α β:Type}(f:α→β):∀ (l:List α) (i:Nat),(l.eraseIdx i).map f=(l.map f).eraseIdx i
 | [],_=>rfl
 |x::xs,0=>rfl
 |x::xs,i+1=>by simp only[List.eraseIdx_cons_succ,zz5,ur f xs i]
theorem zo{w:World}{D:aS}{E:bf} : ∀ {xs:List I} {us:List Value} (i:Nat),aH w D E xs us→aH w D E (xs.eraseIdx i) (us.eraseIdx i)
 | [],us,i,h=>by simp only[aH] at h;subst h;simp[aH]
 |x::xs,us,i,h=>by
  simp only[aH] at h;obtain ⟨v,rest,cs,rfl,J,U,af⟩:=h;cases i with
  |zero=>exact af
  |succ i=>simp only[List.eraseIdx_cons_succ,aH];exact ⟨v,_,cs,rfl,J,U,zo i af⟩
theorem Pc{t kt et t':TypeId}{m k:Operand}{m' k':aM}{ty:cK}{n:Nat}{ks vs ks' vs':List I}(ho:o.op=.call { callee:=.builtin .delete,args := #[m,k],argTypes := #[t,t'] })(hu:c.P.underlying t=some (.map kt et))(hk:kq c.P kt=some ty)
  (hm:bq c.P 0 m=some m') (hk':bq c.P 0 k=some k') (hmm:aj A m'=.mref n) (hn:A.o n=some (.bD ks vs)) (ao:mE ty (aj A k') ks vs=some (ks',vs')) (ah:o.dst=none) :
  iO c A o (A.aT n (.bD ks' vs')):=by
 intro a w D E ab;have J:=bS ab hm;have U:=bS ab hk';rw[hmm] at J;unfold mE at ao;split at ao
 case isFalse=>cases ao
 rename_i hkk;obtain ⟨rk,hrk⟩:=zx0.1 hkk;have hchk:=fun em=>wL (P:=c.P) (w:=w) (em:=em) hk U hrk 9998;obtain ⟨b,es,ck,k1,k2,k3,k4,k5,k6,k7⟩:=ab.map hn;have hmv:a.eval m=.map (some b):=by
  obtain ⟨cs,q1,q2⟩:=J;simp only[al] at q2;obtain ⟨b',q3,q4⟩:=q2;rw[k1] at q3;cases q3;simpa[bC,I.isAgg,q4] using q1.symm
 have step:∀ (es':Array MapEntry),(Builtin.delete_ #[t,t'] o.type #[.map (some b),a.eval k]).run c.P w=.ok (.tuple #[]) (w.putObj b (.map es' ck))→o9 es' ck→aH w D E ks' (es'.toList.map (·.key))→aH w D E vs' (es'.toList.map (·.val)) →
   ∃ w',((∃ u,(execOp a.eval o).run c.P w=.ok (.value u) w'∧cd c (A.aT n (.bD ks' vs')) (a.put o.dst u) w')∨((execOp a.eval o).run c.P w=.ok .skip w'∧cd c (A.aT n (.bD ks' vs')) (a.put o.dst undef) w')):=fun es' hrun hst hks hvs=>by
  refine ⟨w.putObj b (.map es' ck),.inl ⟨.tuple #[],?_,?_⟩⟩
  ·simp[execOp,ho,resolve,invoke,builtin,hmv,hrun]
  ·rw[ah];have:=ab.zy (o':=.map es' ck) (x:=.bD ks' vs') k1 rfl rfl k3 rfl (fun q=>by simp) k2 (fun hl' bz hno=>⟨b,es',ck,k1,k2,bz,hst,aH.later hl' _ _ hks,aH.later hl' _ _ hvs,hno⟩);exact ⟨D,E,this⟩
 split at ao
 ·rename_i i hfi;simp only[v6,Prod.mk.injEq] at ao;obtain ⟨rfl,rfl⟩:=ao;obtain ⟨q,q1,q2⟩:=pQ hk U k5 hfi;rcases q2 with ⟨e,_⟩ | ⟨j,e,e1,e2,rfl⟩
  ·cases e
  simp only[zz4,v6] at e1;subst e1;have hes:es[i]?=some e:=by rw[←zw8];exact e2
  have hlen:i<es.size:=(zy4.1 hes).1;have em:(es.eraseIdxIfInBounds i).toList=es.toList.eraseIdx i:=by
   simp[Array.eraseIdxIfInBounds,hlen]
  refine step (es.eraseIdxIfInBounds i) ?_ ⟨fun x hx =>?_,?_⟩ ?_ ?_
  ·simp[Builtin.delete_,run_underlying hu,MapKept.run_getObj_map k3,hchk,q1,MapKept.run_setObj_map _ k3];rfl
  ·rw[em] at hx;exact k4.1 x (List.mem_of_mem_eraseIdx hx)
  ·rw[em,ur];exact k4.2.sublist (List.eraseIdx_sublist _ _)
  ·rw[em,ur];exact zo i k5
  ·rw[em,ur];exact zo i k6
 ·rename_i hfi;simp only[v6,Prod.mk.injEq] at ao;obtain ⟨rfl,rfl⟩:=ao;obtain ⟨q,q1,q2⟩:=pQ hk U k5 hfi;rcases q2 with ⟨_,rfl⟩ | ⟨j,e,e1,_⟩
  case inr=>cases e1
  refine step es ?_ k4 k5 k6;simp[Builtin.delete_,run_underlying hu,MapKept.run_getObj_map k3,hchk,q1,MapKept.run_setObj_map _ k3];rfl
 ·cases ao
theorem Pf{t kt et:TypeId}{y:Operand}{y':aM}{ks vs:List I}{d:Nat}(ho:o.op=.range t y)(hu:c.P.underlying t=some (.map kt et))(hy:bq c.P 0 y=some y')(h:aj A y'=.dx ks vs)(ah:o.dst=some d)(hn:d<c.n)(hf:A.o d=none) :
  iO c A o ((A.aT d (.it ks vs (List.range ks.length) none)).put d (.dC d)):=by
 intro a w D E ab;have J:=bS ab hy;rw[h] at J;obtain ⟨cs,q1,q2⟩:=J;simp only[al] at q2;obtain ⟨b,es,ck,q3,q4,q5,q6⟩:=q2;have hv:a.eval y=.map (some b):=by simpa[bC,I.isAgg,q3] using q1.symm
 have U:=ab.abu (.inl hn) hf q4 q5 q6;have af:=U.put (x:=.dC d) (v:=.pointer (some ⟨w.heap.size,0,none⟩)) hn ⟨_,by simp[bC,I.isAgg];rfl,by
  simp only[al,if_true];exact ⟨w.heap.size,rfl,rfl⟩⟩
 refine ⟨w.alloc (.mapIter (some b) ck #[] ck),.inl ⟨.pointer (some ⟨w.heap.size,0,none⟩),?_,D,_,by rw[ah];exact af⟩⟩;simp only[execOp,ho,hv,Sem.run_bind,run_range_map w t kt et b es ck hu q4.1,Result.andThen_ok,Sem.run_pure]
theorem EC{es:Array MapEntry}{bA:Array Nat}{i:Nat} : i∈oC es bA↔∃ e,es[i]?=some e∧bA.contains e.born=false:=by
 unfold oC;simp only[zv2,zv8];constructor
 ·rintro ⟨J,U⟩;rw[zv7 J] at U ⊢;exact ⟨_,rfl,by simpa using U⟩
 ·rintro ⟨e,J,U⟩;exact ⟨(zy4.1 J).1,by rw[J];simpa using U⟩
theorem ad6{es:Array MapEntry}{ck:Nat}(hst:o9 es ck){i j:Nat}{e f:MapEntry}(hi:es[i]?=some e)(hj:es[j]?=some f)(h:e.born=f.born):i=j:=by
 have hn:=hst.2;rw[←zw8] at hi hj;have J:(es.toList.map (·.born))[i]?=some e.born:=by rw[zx4,hi];rfl
 have U:(es.toList.map (·.born))[j]?=some e.born:=by rw[zx4,hj,h];rfl
 have hil:i<(es.toList.map (·.born)).length:=(zz7.1 J).1;have hjl:j<(es.toList.map (·.born)).length:=(zz7.1 U).1;exact (List.getElem?_inj hil hn).1 (J.trans U.symm)
theorem aa0{es:Array MapEntry}{bA:Array Nat}{ck i:Nat}{e:MapEntry}(hst:o9 es ck)(hi:es[i]?=some e):oC es (bA.push e.born)=(oC es bA).filter (· != i):=by
 unfold oC;rw[List.filter_filter];refine List.filter_congr fun j hj =>?_;have hjl:j<es.size:=by simpa using hj
 rw[zv7 hjl];simp only[Array.contains_push];by_cases hij:j=i
 ·subst hij;rw[zv7 hjl,v6] at hi;simp[hi]
 ·have:(es[j].born==e.born)=false:=by
   simp only[beq_eq_false_iff_ne,ne_eq];exact fun h=>hij (ad6 hst (zv7 hjl) hi h)
  have U:(j != i)=true:=by simpa using hij
  simp[this,U]
theorem abw{y:Operand}{y':aM}{ks vs:List I}{left:List Nat}{cur:Option Nat}{n:Nat}(ho:o.op=.next y false)(hy:bq c.P 0 y=some y')(h:aj A y'=.dC n)(hn:A.o n=some (.it ks vs left cur))(hdn:∀ k,o.dst=some k→k<c.n){a:Act}{w:World}{D:aS}{E:bf}(ab:aX c A a w D E) :
  ∃ w' v,(execOp a.eval o).run c.P w=.ok (.value v) w'∧((left=[]∧cd c (A.aW o.dst (.tuple [.bool false])) (a.put o.dst v) w') ∨
   ∃ i k x,i∈left∧ks[i]?=some k∧vs[i]?=some x∧cd c ((A.aT n (.it ks vs (left.filter (· != i)) (some i))).aW o.dst (.tuple [.bool true,k,x])) (a.put o.dst v) w'):=by
 have J:=bS ab hy;rw[h] at J;obtain ⟨cs,q1,q2⟩:=J;simp only[al] at q2;obtain ⟨r,q3,q4⟩:=q2;have hv:a.eval y=.pointer (some ⟨r,0,none⟩):=by simpa[bC,I.isAgg,q4] using q1.symm
 have hob:=ab.bU n;rw[hn] at hob;obtain ⟨r',b,es,ck,since,bA,last,k1,k2,k3,k4,k5,k6,k7,k8,k9,k9',k10⟩:=hob;rw[k1] at q3;cases q3;rcases run_next_at (P:=c.P) w o.type r b since last bA es ck k3 k4.1 k7 k8.1 with ⟨aR,hrun⟩ | ⟨e,he,w1,hal,hrun⟩
 ·refine ⟨w,.tuple #[.bool false],by simp only[execOp,ho,hv,Sem.run_bind,hrun,Result.andThen_ok,Sem.run_pure],.inl ⟨?_,D,E,ab.aW hdn ?_⟩⟩
  ·rw[k9];refine List.eq_nil_iff_forall_not_mem.2 fun i hi =>?_;obtain ⟨e,J,U⟩:=EC.1 hi;have hm:e∈leftOf es bA:=by
    unfold leftOf;simp only[Array.mem_filter];exact ⟨Array.mem_of_getElem? J,by simpa using U⟩
   rw[Array.eq_empty_of_size_eq_zero aR] at hm;simp at hm
  ·simp only[a8,aH];exact ⟨[.bool false],rfl,.bool false,[],[.bool false],rfl,by simp[bC,I.isAgg],by simp[al],rfl⟩
 ·have hmem:e∈es.toList∧bA.contains e.born=false:=by
   unfold leftOf at he;simp only[Array.toList_filter,zv2] at he;exact ⟨he.1,by simpa using he.2⟩
  obtain ⟨i,hi⟩:=List.getElem?_of_mem hmem.1;have hie:es[i]?=some e:=by rw[←zw8];exact hi
  obtain ⟨k,hk1,hk2⟩:=mU (j:=i) (v:=e.key) k5 (by simp only[zx4,hi,zz9]);obtain ⟨x,hx1,hx2⟩:=mU (j:=i) (v:=e.val) k6 (by simp only[zx4,hi,zz9]);have hsw:aX c A a w1 D E:=by
   rcases hal with rfl | rfl
   ·exact ab
   ·exact ab.grow (w':=w.drew) (D':=D) ⟨rfl,rfl,rfl,zz3 _,fun _ _=>rfl⟩ (fun _ _ h=>h) (fun _ _ h _=>h) (fun b o ah=>ab.aU b o ah)
  have hw1:w1.heap=w.heap:=by rcases hal with rfl | rfl <;>rfl
  have k3':w1.heap[r]?=some (.mapIter (some b) since bA last):=by rw[hw1];exact k3
  have hset:=hsw.zy (x:=.it ks vs (left.filter (· != i)) (some i)) (o':=.mapIter (some b) since (bA.push e.born) ck) k1 rfl rfl k3' rfl (fun q=>by simp) k2
   (fun ao bz hno=>by
    have hm:oG w1 D b es ck:=⟨by rw[hw1];exact k4.1,k4.2.1,k4.2.2⟩
    have hob:=hsw.bU n;rw[hn] at hob;refine ⟨r,b,es,ck,since,bA.push e.born,ck,k1,k2,bz,hm.later ao,aH.later ao _ _ ?_,aH.later ao _ _ ?_,k7,?_,?_,fun j hj =>?_,hno⟩
    ·obtain ⟨nK,b2,es2,ck2,si2,se2,la2,g1,g2,g3,g4,g5,g6,_⟩:=hob;rw[k1] at g1;cases g1;rw[k3'] at g3;cases g3;have:=g4.1;rw[hw1,k4.1] at this;cases this;exact g5
    ·obtain ⟨nK,b2,es2,ck2,si2,se2,la2,g1,g2,g3,g4,g5,g6,_⟩:=hob;rw[k1] at g1;cases g1;rw[k3'] at g3;cases g3;have:=g4.1;rw[hw1,k4.1] at this;cases this;exact g6
    ·exact ⟨k8.2,k8.2⟩
    ·rw[k9,aa0 k4.2.2 hie]
    ·cases hj;exact ⟨e,hie,by simp,rfl⟩)
  have hset':aX c (A.aT n (.it ks vs (left.filter (· != i)) (some i))) a (ChangeMaps.setBlock w1 r (.mapIter (some b) since (bA.push e.born) ck)) D E:=hset;refine ⟨_,.tuple #[.bool true,e.key,e.val],by simp only[execOp,ho,hv,Sem.run_bind,hrun,Result.andThen_ok,Sem.run_pure],.inr ⟨i,k,x,?_,hk1,hx1,D,E,hset'.aW hdn ?_⟩⟩
  ·rw[k9];exact EC.2 ⟨e,hie,hmem.2⟩
  ·have hob2:=hset'.bU n;simp only[ai.aT,if_true] at hob2;obtain ⟨nK,b2,es2,ck2,si2,se2,la2,g1,g2,g3,g4,g5,g6,_⟩:=hob2;rw[k1] at g1;cases g1;have hr2:(ChangeMaps.setBlock w1 r (.mapIter (some b) since (bA.push e.born) ck)).heap[r]?=some (.mapIter (some b) since (bA.push e.born) ck):=World.putObj_heap_same (w:=w1) (fX k3');rw[hr2] at g3;cases g3;have hb2:(ChangeMaps.setBlock w1 r (.mapIter (some b) since (bA.push e.born) ck)).heap[b]?=some (.map es ck):=by
    have:b≠r:=fun e=>by rw[e] at k4;rw[k4.1] at k3;cases k3
    refine (World.putObj_heap_other (w:=w1) this).trans ?_;rw[hw1];exact k4.1
   have:=g4.1;rw[hb2] at this;cases this;obtain ⟨kk,a1,a2⟩:=mU (j:=i) (v:=e.key) g5 (by simp only[zx4,hi,zz9]);rw[hk1] at a1;cases a1;obtain ⟨xx,b1,b2⟩:=mU (j:=i) (v:=e.val) g6 (by simp only[zx4,hi,zz9]);rw[hx1] at b1;cases b1;obtain ⟨c1,c2,c3⟩:=pk (qB k5 hk1) a2;obtain ⟨d1,d2,d3⟩:=pk (qB k6 hx1) b2;simp only[a8,aH];exact ⟨[.bool true,e.key,e.val],rfl,.bool true,_,[.bool true],rfl,by simp[bC,I.isAgg],by simp[al],e.key,_,c1,rfl,c2,c3,e.val,[],d1,rfl,d2,d3,rfl⟩
theorem ZQ{y:Operand}{y':aM}{ks vs:List I}{left:List Nat}{i n:Nat}{k x:I}(ho:o.op=.entry y)(hy:bq c.P 0 y=some y')(h:aj A y'=.dC n)(hn:A.o n=some (.it ks vs left (some i)))(hk:ks[i]?=some k)(hx:vs[i]?=some x):dy c A o (.tuple [k,x]) :=
 .same fun a w D E ab=>by
  have J:=bS ab hy;rw[h] at J;obtain ⟨cs,q1,q2⟩:=J;simp only[al] at q2;obtain ⟨r,q3,q4⟩:=q2;have hv:a.eval y=.pointer (some ⟨r,0,none⟩):=by simpa[bC,I.isAgg,q4] using q1.symm
  have hob:=ab.bU n;rw[hn] at hob;obtain ⟨r',b,es,ck,since,bA,last,k1,k2,k3,k4,k5,k6,k7,k8,k9,k9',k10⟩:=hob;rw[k1] at q3;cases q3;obtain ⟨e,e1,e2,rfl⟩:=k9' i rfl;have hi:es.toList[i]?=some e:=by rw[zw8];exact e1
  obtain ⟨kk,a1,a2⟩:=mU (j:=i) (v:=e.key) k5 (by simp only[zx4,hi,zz9]);rw[hk] at a1;cases a1;obtain ⟨xx,b1,b2⟩:=mU (j:=i) (v:=e.val) k6 (by simp only[zx4,hi,zz9]);rw[hx] at b1;cases b1;obtain ⟨c1,c2,c3⟩:=pk (qB k5 hk) a2;obtain ⟨d1,d2,d3⟩:=pk (qB k6 hx) b2;have hf:es.find? (·.born==e.born)=some e:=by rw[←Array.find?_toList];exact find_born e es.toList k4.2.2.2 (List.mem_of_getElem? hi)
  refine ⟨.tuple #[e.key,e.val],?_,?_⟩
  ·have hr:(Instr.entry (.pointer (some ⟨r,0,none⟩))).run c.P w=.ok (.tuple #[e.key,e.val]) w:=by
    simp only[Instr.entry,getObj,Sem.run_bind,Sem.run,k3,k4.1,Result.andThen,e2,bne_self_eq_false,zz2,if_false,hf];rfl
   simp only[execOp,ho,hv,Sem.run_bind,hr,Result.andThen_ok,Sem.run_pure]
  ·simp only[a8,aH];exact ⟨[e.key,e.val],rfl,e.key,_,c1,rfl,c2,c3,e.val,[],d1,rfl,d2,d3,rfl⟩
theorem G4{w:World}{D:aS}{E:bf}{z:I}{v:Value}(h:al w D E z [v]):∀ n:Nat,aN w D E (List.replicate n z) (List.replicate n v)
 |0=>by simp[aN]
 |n+1=>by simp only[List.replicate_succ,aN];exact ⟨[v],_,rfl,h,G4 h n⟩
theorem Pe{t e:TypeId}{l l':Operand}{n':aM}{z:I}{n d:Nat}{k:IntKind}(ho:o.op=.makeSlice t l l')(hll:l'=l)(hu:c.P.underlying t=some (.slice e))(ao:bq c.P 0 l=some n')(h:aj A n'=.int k n)(hz:gF c.P e=some z)(hz1:z.size=1)
  (hc1:c.P.cellsOf e=1) (hby:n*c.P.bytesOf e≤281474976710656) (hmax:n≤maxLen) (ah:o.dst=some d) (hn:d<c.n) (hf:A.o d=none):iO c A o ((A.aT d (.box (.agg (List.replicate n z)))).put d (.view d [] 1 0 n)):=by
 subst hll;intro a w D E ab;have J:=bS ab ao;rw[h] at J;obtain ⟨e1,_⟩:=eJ J;obtain ⟨i,zv,hi,hzz,hzr⟩:=me hz;have hzc:=al.length _ _ (hzr w D E);rw[hz1] at hzc;obtain ⟨u,hu1⟩:∃ u,zv.cells = #[u]:=by
  have:zv.cells.size=1:=by simpa using hzc
  obtain ⟨u,hu⟩:=Array.size_eq_one_iff.1 this;exact ⟨u,hu⟩
 have hsz:i.size=1:=by have:=hc1;simp only[Program.cellsOf,hi,zz9,Option.getD_some] at this;exact this
 have hbytes:(i.bytes:Int)*(n:Int)≤281474976710656:=by
  have:c.P.bytesOf e=i.bytes:=by simp[Program.bytesOf,hi]
  rw[this] at hby;have U:((i.bytes*n:Nat):Int)≤281474976710656:=by rw[Nat.mul_comm] at hby;omega
  rwa [Int.natCast_mul] at U
 have hrun:=run_make (P:=c.P) w t e i zv hu hi hzz k k n n (by omega) (Int.le_refl _) hbytes (by have h9:=hmax;unfold maxLen at h9;omega);simp only[Int.toNat_natCast,hsz,Nat.mul_one] at hrun;have hmc:(madeCells zv.cells n).toList=List.replicate n u:=by
  rw[hu1];simp only[madeCells];apply List.ext_getElem?;intro j;simp[List.getElem?_replicate];split <;>simp_all[Nat.mod_one]
 have hcells:al w D E (.agg (List.replicate n z)) (madeCells zv.cells n).toList:=by
  rw[hmc];simp only[al];refine G4 ?_ n;have:=hzr w D E;rw[hu1] at this;simpa using this
 have U:=ab.rX (T:=e) (.inl hn) hf hcells;have af:=U.put (x:=.view d [] 1 0 n) (v:=.slice (some ⟨w.heap.size,0,none⟩) n n) hn ⟨_,by simp[bC,I.isAgg];rfl,by
  simp only[al,if_true];refine ⟨w.heap.size,_,0,I.de (List.replicate n z),rfl,by simp[cW.off],by simp[I.bg,cW.part],by simp[I.dG],by simpa[I.dG] using hmax,by simp[I.dG],fun s ab =>?_⟩;rw[I.dG] at ab;obtain ⟨y,hy,rfl⟩:=zy9.1 ab;rw[I.l8,(List.mem_replicate.1 hy).2,hz1]⟩
 refine ⟨_,.inl ⟨_,?_,D,_,by rw[ah];exact af⟩⟩;simp only[execOp,ho,e1,Sem.run_bind,hrun,Result.andThen_ok,Sem.run_pure]
end
section
variable {c:cV} {A:ai} {o:Oper} {x:I}
theorem ux{w:World}{D:aS}{E:bf}{s:ByteArray}(h:s.size≤maxLen):a8 w D E (.bm s) (.string s):=⟨[.string s],by simp[bC,I.isAgg],by simp only[al,true_and];exact h⟩
theorem aac{t:TypeId}{y z:Operand}{y' z':aM}(ho:o.op=.index t y z)(hu:c.P.underlying t=some .string)(hy:bq c.P 0 y=some y')(hz:bq c.P 0 z=some z')(h:iv .eZ [aj A y',aj A z']=some x):dy c A o x :=
 .same fun a w D E ab=>by
  have J:=bS ab hy;have U:=bS ab hz;generalize aj A y'=u at *;generalize aj A z'=v at *;unfold iv at h;split at h <;>try (rename_i e _;cases e;done)
  all_goals try (rename_i e1 e2;cases e1;done)
  all_goals try (cases h;done)
  rename_i s k i _ e;simp only[zw3,and_true] at e;obtain ⟨rfl,rfl⟩:=e;split at h
  case isFalse=>cases h
  rename_i hi;simp only[t8] at h;obtain ⟨b,hb,rfl⟩:=h;obtain ⟨e1,hs1⟩:=iw J;obtain ⟨e2,nK⟩:=eJ U;obtain ⟨hlt,hbe⟩:=zz7.1 hb;have hlt':i.toNat<s.size:=by simpa using hlt
  have hget:s[i.toNat]?=some b:=by
   rw[getElem?_pos s i.toNat hlt']
   congr 1
  refine ⟨.int .u8 b.toNat,?_,j2 ⟨?_,?_⟩⟩
  ·simp only[execOp,ho,e1,e2];simp[Instr.index,run_underlying hu,asIntOf,hi,hget]
  ·simp[IntKind.min,IntKind.signed]
  ·have:=b.toNat_lt;simp[IntKind.max,IntKind.bits,IntKind.signed];omega
theorem yR{P:Program}{w:World}{lo hi:Bool}{xs:List I}(h:iv (.ss lo hi) xs=some x) :
  ∃ s:ByteArray,xs.head?=some (.bm s)∧∀ (t:TypeId),P.underlying t=some .string→∃ l r:Nat,l≤r∧r≤s.size∧x=.bm (s.extract l r) ∧
   ((lo=true∧hi=true∧∃ k k',xs=[.bm s,.int k l,.int k' r]∧(Instr.sliceAt t (.string s) (some (.int k l)) (some (.int k' r)) none).run P w=.ok (.string (s.extract l r)) w) ∨
    (lo=true∧hi=false∧∃ k,xs=[.bm s,.int k l]∧(Instr.sliceAt t (.string s) (some (.int k l)) none none).run P w=.ok (.string (s.extract l r)) w) ∨
    (lo=false∧hi=true∧∃ k,xs=[.bm s,.int k r]∧(Instr.sliceAt t (.string s) none (some (.int k r)) none).run P w=.ok (.string (s.extract l r)) w)):=by
 unfold iv at h;split at h <;>(try (rename_i e _;cases e;done)) <;>(try (cases h;done)) <;>(try (rename_i e;cases e))
 ·rename_i s k i;split at h
  case isFalse=>cases h
  rename_i hi;simp only[v6] at h;subst h;obtain ⟨n,rfl⟩:=zx9 hi.1;refine ⟨s,rfl,fun t hu=>⟨0,n,zw1 _,by omega,rfl,.inr (.inr ⟨rfl,rfl,k,rfl,?_⟩)⟩⟩;have:n≤s.size:=by omega
  simp[Instr.sliceAt,Instr.slice,run_underlying hu,Instr.sliceBounds,Instr.sliceBound,asIntOf,this]
 ·rename_i s k i;split at h
  case isFalse=>cases h
  rename_i hi;simp only[v6] at h;subst h;obtain ⟨n,rfl⟩:=zx9 hi.1;refine ⟨s,rfl,fun t hu=>⟨n,s.size,by omega,zz3 _,rfl,.inr (.inl ⟨rfl,rfl,k,rfl,?_⟩)⟩⟩;have:n≤s.size:=by omega
  simp[Instr.sliceAt,Instr.slice,run_underlying hu,Instr.sliceBounds,Instr.sliceBound,asIntOf,this]
 ·rename_i s k i k' j;split at h
  case isFalse=>cases h
  rename_i hi;simp only[v6] at h;subst h;obtain ⟨n,rfl⟩:=zx9 hi.1;obtain ⟨m,rfl⟩:=zx9 (Int.le_trans hi.1 hi.2.1);refine ⟨s,rfl,fun t hu=>⟨n,m,by omega,by omega,rfl,.inl ⟨rfl,rfl,k,k',rfl,?_⟩⟩⟩;have J:n≤m:=by omega
  have U:m≤s.size:=by omega
  simp[Instr.sliceAt,Instr.slice,run_underlying hu,Instr.sliceBounds,Instr.sliceBound,asIntOf,J,U]
theorem xg{s:ByteArray}{l r:Nat}(h:s.size≤maxLen):(s.extract l r).size≤maxLen:=by
 rw[ByteArray.size_extract];omega
theorem aaf{t:TypeId}{y z:Operand}{y' z':aM}(ho:o.op=.slice t y none (some z) none)(hu:c.P.underlying t=some .string)(hy:bq c.P 0 y=some y')(hz:bq c.P 0 z=some z')(h:iv (.ss false true) [aj A y',aj A z']=some x):dy c A o x :=
 .same fun a w D E ab=>by
  have J:=bS ab hy;have U:=bS ab hz;obtain ⟨s,e1,bz⟩:=yR (P:=c.P) (w:=w) h;obtain ⟨l,r,_,_,rfl,hc⟩:=bz t hu;simp only[List.head?_cons,v6] at e1;rcases hc with ⟨hc,_⟩ | ⟨hc,_⟩ | ⟨_,_,k,e,hr⟩
  ·cases hc
  ·cases hc
  simp only[zw3,and_true] at e;rw[e.1] at J;rw[e.2] at U;obtain ⟨v1,s1⟩:=iw J;refine ⟨_,?_,ux (xg s1)⟩;simp only[execOp,ho,zz9,zw5,v1,(eJ U).1,Sem.run_bind,hr];rfl
theorem aag{t:TypeId}{y z:Operand}{y' z':aM}(ho:o.op=.slice t y (some z) none none)(hu:c.P.underlying t=some .string)(hy:bq c.P 0 y=some y')(hz:bq c.P 0 z=some z')(h:iv (.ss true false) [aj A y',aj A z']=some x):dy c A o x :=
 .same fun a w D E ab=>by
  have J:=bS ab hy;have U:=bS ab hz;obtain ⟨s,e1,bz⟩:=yR (P:=c.P) (w:=w) h;obtain ⟨l,r,_,_,rfl,hc⟩:=bz t hu;simp only[List.head?_cons,v6] at e1;rcases hc with ⟨_,hc,_⟩ | ⟨_,_,k,e,hr⟩ | ⟨hc,_⟩
  ·cases hc
  ·simp only[zw3,and_true] at e;rw[e.1] at J;rw[e.2] at U;obtain ⟨v1,s1⟩:=iw J;refine ⟨_,?_,ux (xg s1)⟩;simp only[execOp,ho,zz9,zw5,v1,(eJ U).1,Sem.run_bind,hr];rfl
  ·cases hc
theorem aae{t:TypeId}{y z q:Operand}{y' z' q':aM}(ho:o.op=.slice t y (some z) (some q) none)(hu:c.P.underlying t=some .string)(hy:bq c.P 0 y=some y')(hz:bq c.P 0 z=some z')(hq:bq c.P 0 q=some q')(h:iv (.ss true true) [aj A y',aj A z',aj A q']=some x):dy c A o x :=
 .same fun a w D E ab=>by
  have J:=bS ab hy;have U:=bS ab hz;have af:=bS ab hq;obtain ⟨s,e1,bz⟩:=yR (P:=c.P) (w:=w) h;obtain ⟨l,r,_,_,rfl,hc⟩:=bz t hu;simp only[List.head?_cons,v6] at e1;rcases hc with ⟨_,_,k,k',e,hr⟩ | ⟨_,hc,_⟩ | ⟨hc,_⟩
  ·simp only[zw3,and_true] at e;rw[e.1] at J;rw[e.2.1] at U;rw[e.2.2] at af;obtain ⟨v1,s1⟩:=iw J;refine ⟨_,?_,ux (xg s1)⟩;simp only[execOp,ho,zz9,zw5,v1,(eJ U).1,(eJ af).1,Sem.run_bind,hr];rfl
  ·cases hc
  ·cases hc
theorem Z8{neg:Bool}{t yt:TypeId}{y z:Operand}{y':aM}{ms:Array (String×TypeId)}(ho:o.op=.binOp (if neg then .neq else .eql) t y z yt)(hu:c.P.underlying t=some (.interface ms))(hy:bq c.P 0 y=some y')(hz:bq c.P 0 z=some (.c .dL))(h:iv (.oI neg) [aj A y']=some x):dy c A o x :=
 .same fun a w D E ab=>by
  have J:=bS ab hy;have hz':z=.const .nilIface:=by
   cases z with
   |tmp n=>simp[bq] at hz
   |const v =>
    simp only[bq,t8,aM.c.injEq] at hz;obtain ⟨u,hu,rfl⟩:=hz;unfold tu at hu
    (repeat' split at hu) <;>first | (cases hu;done) | rfl
   |global g=>simp[bq] at hz
   |func f=>simp only[bq] at hz;split at hz <;>simp at hz
  subst hz';have he:∀ d v,(∃ tt u,v=Value.iface tt u)→(Op.equalIn (d+1) t v .nilIface).run c.P w=.ok false w:=fun d v hv=>by
   obtain ⟨tt,u,rfl⟩:=hv;simp[Op.equalIn,run_underlying hu]
  have hk:a.eval (.const .nilIface)=.nilIface:=rfl;have he':∀ d,(Op.equalIn (d+1) t .nilIface .nilIface).run c.P w=.ok true w:=fun d=>by simp[Op.equalIn,run_underlying hu]
  unfold iv at h;split at h <;>(try (rename_i e _;cases e;done)) <;>(try (cases h;done)) <;>(try (rename_i e1 e2;cases e1;done))
  ·rename_i ng e1 e;cases e1;simp only[zw3,and_true] at e;simp only[v6] at h;subst h;rw[e] at J;obtain ⟨cs,q1,q2⟩:=J;simp only[al] at q2;have hv:a.eval y=.nilIface:=by simpa[bC,I.isAgg,q2] using q1.symm
   refine ⟨.bool (!neg),?_,mF _⟩;cases neg <;>simp only[execOp,ho,hv,hk,if_true,zz2,if_false,Sem.run_bind,eqGuard] <;>simp[binOp,Op.equal,Op.maxDepth,he']
  ·rename_i ng tt u e1 e;cases e1;simp only[zw3,and_true] at e;simp only[v6] at h;subst h;rw[e] at J;obtain ⟨cs,q1,q2⟩:=J;simp only[al] at q2;obtain ⟨u',cs',q3,q4,q5⟩:=q2;have hv:a.eval y=.iface tt u':=by simpa[bC,I.isAgg,q3] using q1.symm
   refine ⟨.bool neg,?_,mF _⟩;cases neg <;>simp only[execOp,ho,hv,hk,if_true,zz2,if_false,Sem.run_bind,eqGuard] <;>simp[binOp,Op.equal,Op.maxDepth,he _ _ ⟨tt,u',rfl⟩]
theorem AP{w:World}{D:aS}{E:bf} : ∀ {es:List I} {cs:List Value} {l:List UInt8},qW es=some l→aN w D E es cs→cs=l.map fun b=>Value.int .u8 b.toNat
 | [],cs,l,h,hr=>by
  simp only[qW,v6] at h;subst h;simpa[aN] using hr
 |x::xs,cs,l,h,hr=>by
  simp only[qW] at h;split at h
  case h_2=>cases h
  rename_i n l' ao;simp only[v6] at h;subst h;simp only[aN] at hr;obtain ⟨c1,c2,rfl,J,U⟩:=hr;rw[AP ao U];simp only[al] at J;obtain ⟨rfl,af,ar⟩:=J;simp only[IntKind.min,IntKind.max,IntKind.bits,IntKind.signed] at af ar;obtain ⟨m,rfl⟩:=zx9 (show 0≤n by simpa using af);have:m<256:=by simp at ar;omega
  simp only[zz5,List.singleton_append,zw3,and_true,Value.int.injEq,true_and,Int.toNat_natCast];have e:(UInt8.ofNat m).toNat=m:=by simp;omega
  rw[e]
theorem ZL{t t' e:TypeId}{y:Operand}{y':aM}(ho:o.op=.convert t t' y)(hu:c.P.underlying t=some (.slice e))(he:c.P.underlying e=some (.int .u8))(ah:c.P.underlying t'=some .string)(hy:bq c.P 0 y=some y')(h:oc (dX A 1 (aj A y'))=some x):dy c A o x :=
 .same fun a w D E ab=>by
  unfold oc at h;split at h
  case h_2=>cases h
  rename_i es hes;simp only[t8] at h;obtain ⟨l,ao,rfl⟩:=h;obtain ⟨ad,cp,news,hv,J,U,af,ar,h5⟩:=ab.na (bS ab hy) hes;have hc:=AP ao af;have hlen:es.length=l.length:=by
   have:=aN.length _ _ af;rw[hc,I.iM _ ar] at this;simpa using this.symm
  refine ⟨.string ⟨l.toArray⟩,?_,ux ?_⟩
  ·simp only[execOp,ho,hv];rcases Nat.eq_zero_or_pos es.length with aR | aR
   ·obtain rfl:l=[]:=List.eq_nil_of_length_eq_zero (by omega);rw[aR];cases ad with
    |none =>
     simp only[Sem.run_bind,run_convert_bytes_nil w t e hu he 0 cp t' ah];rfl
    |some ad =>
     simp only[Sem.run_bind,run_convert_bytes_string w t t' e (some ad) 0 cp hu he ah,run_bytesToString w ad 0 cp [] (by simp[loadCells,loadCellsFrom])];rfl
   ·obtain ⟨b,off,rfl,h6⟩:=h5 (by intro e0;rw[e0] at aR;cases aR);rw[hlen];have key:=run_convert_bytes_arg (P:=c.P) w t e hu he b off l.length cp (l.map fun b=>(b.toNat:Int)) (by simp) (fun i hi=>by
     refine h6 i _ ?_;rw[hc];simp[zy2 hi,List.getD]) t' ah
    simp only[Sem.run_bind,key];have:strOfNums (l.map fun b=>(b.toNat:Int))=⟨l.toArray⟩:=by
     unfold strOfNums
     congr 1
     simp[Function.comp_def]
    rw[this];rfl
  ·show l.toArray.size≤maxLen
   simp;omega
end
end Go.Abs
namespace Go.Abs
open Go Go.RowKit
mutual
/-- Values that lead to no memory. -/
def I.flat:I→Bool
 | .agg fs | .tuple fs=>I.ou fs
 | .bool _ | .int _ _ | .bm _ | .nilp | .dK | .dL | .any | .raw _ | .undef | .dF=>true
 |_=>false
def I.ou:List I→Bool
 | []=>true
 |x::xs=>x.flat&&I.ou xs
end
mutual
theorem al.flat{w w':World}{D D':aS}{E E':bf} : ∀ (x:I) (cs:List Value),x.flat=true→al w D E x cs→al w' D' E' x cs
 | .agg fs,cs,hf,hr=>by simp only[al,I.flat] at *;exact aN.flat fs cs hf hr
 | .bool b,cs,_,hr=>by simpa only[al] using hr
 | .int k n,cs,_,hr=>by simpa only[al] using hr
 | .bm s,cs,_,hr=>by simpa only[al] using hr
 | .nilp,cs,_,hr=>by simpa only[al] using hr
 | .dK,cs,_,hr=>by simpa only[al] using hr
 | .dL,cs,_,hr | .any,cs,_,hr=>by simpa only[al] using hr
 | .raw _,cs,_,hr=>by simpa only[al] using hr
 | .undef,_,_,hr=>by simp only[al] at hr
 | .dF,_,_,hr=>by simp only[al] at hr
 | .tuple _,_,_,hr=>by simp only[al] at hr
 | .nils _,_,hf,_ | .c0 _,_,hf,_ | .slice _ _,_,hf,_ | .ref _,_,hf,_ | .func _ _,_,hf,_ | .iface _ _,_,hf,_ | .ptr _ _,_,hf,_ | .own _ _,_,hf,_ | .view _ _ _ _ _,_,hf,_ | .mref _,_,hf,_ | .dC _,_,hf,_ | .dx _ _,_,hf,_=>by simp[I.flat] at hf
theorem aN.flat{w w':World}{D D':aS}{E E':bf} : ∀ (xs:List I) (cs:List Value),I.ou xs=true→aN w D E xs cs→aN w' D' E' xs cs
 | [],cs,_,hr=>by simpa only[aN] using hr
 |x::xs,cs,hf,hr=>by
  simp only[aN,I.ou,zz0] at *;obtain ⟨c1,c2,J,U,af⟩:=hr;exact ⟨c1,c2,J,al.flat x c1 hf.1 U,aN.flat xs c2 hf.2 af⟩
end
theorem aH.flat{w w':World}{D D':aS}{E E':bf} : ∀ (xs:List I) (vs:List Value),I.ou xs=true→aH w D E xs vs→aH w' D' E' xs vs
 | [],vs,_,hr=>by simpa only[aH] using hr
 |x::xs,vs,hf,hr=>by
  simp only[aH,I.ou,zz0] at *;obtain ⟨v,rest,cs,J,U,af,ar⟩:=hr;exact ⟨v,rest,cs,J,U,al.flat x cs hf.1 af,aH.flat xs rest hf.2 ar⟩
theorem a8.flat{w w':World}{D D':aS}{E E':bf}{x:I}{v:Value}(hf:x.flat=true)(hr:a8 w D E x v):a8 w' D' E' x v:=by
 cases x <;>simp only[a8] at * <;>first
  |exact hr
  |(obtain ⟨vs,J,U⟩:=hr;exact ⟨vs,J,aH.flat _ _ (by simpa[I.flat] using hf) U⟩)
  |(obtain ⟨cs,J,U⟩:=hr;exact ⟨cs,J,al.flat _ _ hf U⟩)
def cP:bf:=fun _=>none
def bd(P:Program)(f:FuncId)(args:List I)(r:I):Prop :=
 fy P f=true∧∀ (w:World) (D:aS) (vs:List Value),gb P w (fun _=>False)→(∀ b o,D b o→b<w.heap.size)→aH w D cP args vs →
  Calls P f vs.toArray w fun e w'=>∃ v D',e=.returned v∧a8 w' D' cP r v∧Below w.heap.size w w'∧(∀ b o,D' b o→b<w'.heap.size)∧∀ b o,D' b o→b<w.heap.size→D b o
def cY(P:Program)(f:FuncId)(args:List I)(os:List (Nat×aq))(post:cL):Prop :=
 fy P f=true∧nY (Calls P f) (fun w _ E=>gb P w (cN E)) args os post
def ct(p:Nat→Bool):List (Nat×aq)→Prop
 | []=>True
 |(_,v)::r=>v.only p=true∧ct p r
def e7(ns:List Nat)(os:List (Nat×aq)):List (Nat×aq):=os.filter fun q => !ns.contains q.1
def mr(ns:List Nat)(ts:List (Nat×I)):List (Nat×I):=ts.map fun q=>(q.1,if q.2.only (fun n => !ns.contains n) then q.2 else .dF)
def nx(ns:List Nat)(os:List (Nat×aq)):List (Nat×aq):=os.filter fun q=>ns.contains q.1
def jq(ρ:List (Nat×Nat))(os:List (Nat×aq)):List Nat:=os.map fun q=>bP ρ q.1
def h1(aP:Bool)(A0:ai)(ρ:List (Nat×Nat))(os:List (Nat×aq)):List I→List I→Prop
 | [],[]=>True
 |x::xs,c::cs=>((x=c.bu (bP ρ)∧c.only (ay os)=true∧c.bX=true)∨br aP A0 x=some c)∧h1 aP A0 ρ os xs cs
 |_,_=>False
structure aJ where
 dst:Option Nat
 op:bW
 guard:Option (Nat×Bool)
 deriving Inhabited
inductive cS where
 |done (A:ai)
 |fail
 |call (f:FuncId) (avs:List I) (a1 a2:Option (List I)) (dst:Option Nat) (rest:List aJ) (A:ai)
 |lG (v:Value) (avs:List I) (dst:Option Nat) (rest:List aJ) (A:ai)
 |kJ (f:FuncId) (avs:List I) (dst:Option Nat) (rest:List aJ) (A:ai)
 |any (p:Nat→Prop) (k:Nat→cS)
def cT(x:Option I)(k:I→cS):cS:=match x with
 |some v=>k v
 |none=>.fail
def yF(s:Option Nat)(v old:I):Prop:=v.bX=true∧ca s v=true∧v.bg=old.bg
def yD(e esz bytes l sz:Nat)(ys:List I)(T sz':Nat)(es:List I):Prop:=l=es.length∧sz=esz∧T=e∧sz'=esz∧ys≠[]∧es.length+ys.length≤maxLen∧(es.length+ys.length)*bytes≤140737488355328
def rE(ys:List I):List Int:=ys.filterMap fun y=>match y with | .int .i64 i=>some i | _=>none
def yE(e esz bytes l:Nat)(ys:List I)(T:Nat)(xs:List Int)(z:I):Prop:=l=xs.length∧esz=1∧T=e∧z=.int .i64 0∧ys=(rE ys).map (.int .i64)∧ys≠[]∧xs.length+ys.length≤maxLen∧(xs.length+ys.length)*bytes≤140737488355328
def kc:I→Bool
 | .slice _ es=>es.isEmpty
 | .c0 _=>true
 |_=>false
def lP(f:Nat):Nat:=if f<1000000 then f else f-1000000
def iS(f:Nat)(args caps:List I):List I:=if f<1000000 then args++caps else caps++args
theorem xj{f:Nat}(h:f<1000000):lP f=f:=by simp only[lP,if_pos h]
theorem xi{f:Nat}(h:f<1000000)(args caps:List I):iS f args caps=args++caps:=by simp only[iS,if_pos h]
theorem tK(g:Nat):lP (g+1000000)=g:=by simp only[lP,if_neg (show ¬ g+1000000<1000000 by omega),Nat.add_sub_cancel]
theorem xh(g:Nat)(args caps:List I):iS (g+1000000) args caps=caps++args:=by simp only[iS,if_neg (show ¬ g+1000000<1000000 by omega)]
open Classical in
noncomputable def gv(A:ai)(dst:Option Nat)(esz bytes:Nat)(z:I)(es ys:List I)(k:ai→cS):cS :=
 match dst with
 |some d=>match A.o d with
  |none=>if (es.length+ys.length)*bytes≤140737488355328∧es.length+ys.length≤maxLen then
    .any (fun m=>es.length+ys.length+m≤maxLen) (fun m=>k ((A.aT d (.box (.agg (es++(ys++List.replicate m z))))).aW dst (.view d [] esz 0 (es.length+ys.length)))) else .fail
  |some _=>.fail
 |none=>.fail
open Classical in
noncomputable def fw(A:ai)(dst:Option Nat)(esz bytes:Nat)(z:I)(s:I):Option (List I)→Option (List I)→(ai→cS)→cS
 |some es,some ys,k=>if ys=[] then k (A.aW dst s) else match s with
  | .nils _=>gv A dst esz bytes z es ys k
  | .c0 _=>gv A dst esz bytes z es ys k
  | .view n p sz lo l=>match A.o n with
   |some (.box b)=>match b.at p with
    |some (.agg fs)=>if lo+l+ys.length≤fs.length then
      (if sz=esz∧I.de ys=I.de ((fs.drop (lo+l)).take ys.length) then k ((A.aT n (.box (jQ b p (lo+l) fs ys))).aW dst (.view n p esz lo (l+ys.length))) else .fail)
      else gv A dst esz bytes z es ys k
    |_=>.fail
   |_=>.fail
  |_=>.fail
 |_,_,_=>.fail
open Classical in
noncomputable def wb(A:ai)(dst:Option Nat)(esz bytes:Nat)(z:I)(m:Nat)(s:I):Option (List I)→(ai→cS)→cS
 |some es,k=>match s with
  | .view n p _ lo l=>match A.o n with
   |some (.box b)=>match b.at p with
    |some (.agg fs)=>if 0<m∧fs.length<lo+l+m then gv A dst esz bytes z es (List.replicate m z) k else .fail
    |_=>.fail
   |_=>.fail
  |_=>.fail
 |_,_=>.fail
open Classical in
noncomputable def pF(A:ai)(esz:Nat)(z:I)(k:ai→cS):I→cS
 | .view n p sz lo l=>match A.o n with
  |some (.box b)=>match b.at p with
   |some (.agg fs)=>if sz=esz∧I.de (List.replicate l z)=I.de ((fs.drop lo).take l) then k (A.aT n (.box (jQ b p lo fs (List.replicate l z)))) else .fail
   |_=>.fail
  |_=>.fail
 | .nils _=>k A
 | .c0 _=>k A
 |_=>.fail
open Classical in
noncomputable def tz(A:ai)(dst:Option Nat)(esz:Nat)(k:ai→cS):I→Option (List I)→cS
 | .view n p sz lo l,some ys=>match A.o n with
  |some (.box b)=>match b.at p with
   |some (.agg fs)=>if sz=esz∧I.de (ys.take (min ys.length l))=I.de ((fs.drop lo).take (min ys.length l)) then k ((A.aT n (.box (jQ b p lo fs (ys.take (min ys.length l))))).aW dst (.int .i64 (min ys.length l:Nat))) else .fail
   |_=>.fail
  |_=>.fail
 |_,_=>.fail
open Classical in
noncomputable def bt(A:ai)(dst:Option Nat)(op:bW)(rest:List aJ)(k:ai→cS):cS :=
 match op with
 | .alloc z=>match dst with
  |some d=>match A.o d with
   |none=>k ((A.aT d (.box z)).put d (.ptr d []))
   |some _=>.fail
  |none=>.fail
 | .box x=>match dst with
  |some d=>match A.o d with
   |none=>if (aj A x).bX then k ((A.aT d (.box (aj A x))).put d (.ptr d [])) else .fail
   |some _=>.fail
  |none=>.fail
 | .bh s x v=>match dst with
  |none=>match aj A x with
   | .ptr n p=>match A.o n with
    |some (.box b)=>match b.at p with
     |some old=>if yF s (aj A v) old then k (A.aT n (.box (b.ev p (aj A v)))) else .fail
     |none=>.fail
    |_=>.fail
   |_=>.fail
  |some _=>.fail
 | .dk e esz bytes z s x=>match aj A s with
  | .own n l=>match aj A x with
   | .slice sz ys=>match A.o n with
    |some (.bV T sz' es)=>if yD e esz bytes l sz ys T sz' es then k ((A.aT n (.bV e esz (es++ys))).aW dst (.own n (es.length+ys.length))) else .fail
    |some (.dT T xs)=>if yE e esz bytes l ys T xs z then k ((A.aT n (.dT e (xs++rE ys))).aW dst (.own n (xs.length+ys.length))) else .fail
    |_=>.fail
   |_=>.fail
  |s'=>fw A dst esz bytes z s' (dX A esz s') (dX A esz (aj A x)) k
 | .mg _ esz bytes z s n=>match aj A n with
  | .int _ m=>wb A dst esz bytes z m.toNat (aj A s) (dX A esz (aj A s)) k
  |_=>.fail
 | .nilS neg x=>if kc (aj A x) then .any (fun m=>m<2) (fun m=>k (A.aW dst (.bool (m==0)))) else cT (bo A (.nilS neg x)) fun v=>k (A.aW dst v)
 | .kj esz z x=>match dst with
  |none=>pF A esz z k (aj A x)
  |some _=>.fail
 | .lK esz x y=>tz A dst esz k (aj A x) (dX A esz (aj A y))
 | .call f args=>.call f (args.map (aj A)) (cm true A (args.map (aj A))) (cm false A (args.map (aj A))) dst rest A
 | .gi x args=>match aj A x with
  | .func f caps=>.call (lP f) (iS f (args.map (aj A)) caps) (cm true A (iS f (args.map (aj A)) caps)) (cm false A (iS f (args.map (aj A)) caps)) dst rest A
  | .raw v=>.lG v (args.map (aj A)) dst rest A
  |_=>.fail
 | .kJ f args=>.kJ f (args.map (aj A)) dst rest A
 | .jo=>match dst with
  |some d=>match A.o d with
   |none=>k ((A.aT d (.bD [] [])).put d (.mref d))
   |some _=>.fail
  |none=>.fail
 | .kV _ bytes z n=>match dst with
  |some d=>match A.o d with
   |none=>match aj A n with
    | .int _ n=>if 0≤n∧n.toNat*bytes≤281474976710656∧n.toNat≤maxLen then k ((A.aT d (.box (.agg (List.replicate n.toNat z)))).put d (.view d [] 1 0 n.toNat)) else .fail
    |_=>.fail
   |some _=>.fail
  |none=>.fail
 | .fj ty m key v=>match dst with
  |none=>match aj A m with
   | .mref n=>match A.o n with
    |some (.bD ks vs)=>match fL ty (aj A key) (aj A v) ks vs with
     |some (ks',vs')=>k (A.aT n (.bD ks' vs'))
     |none=>.fail
    |_=>.fail
   |_=>.fail
  |some _=>.fail
 | .jn ty m key=>match dst with
  |none=>match aj A m with
   | .mref n=>match A.o n with
    |some (.bD ks vs)=>match mE ty (aj A key) ks vs with
     |some (ks',vs')=>k (A.aT n (.bD ks' vs'))
     |none=>.fail
    |_=>.fail
   |_=>.fail
  |some _=>.fail
 | .j9 x=>match dst with
  |some d=>match A.o d with
   |none=>match aj A x with
    | .dx ks vs=>k ((A.aT d (.it ks vs (List.range ks.length) none)).put d (.dC d))
    |_=>.fail
   |some _=>.fail
  |none=>.fail
 | .iW x=>match aj A x with
  | .dC n=>match A.o n with
   |some (.it ks vs left cur)=>if left=[] then k (A.aW dst (.tuple [.bool false])) else
     .any (fun i=>i∈left) fun i=>match ks[i]?,vs[i]? with
      |some kk,some x=>k ((A.aT n (.it ks vs (left.filter (· != i)) (some i))).aW dst (.tuple [.bool true,kk,x]))
      |_,_=>.fail
   |_=>.fail
  |_=>.fail
 |op=>cT (bo A op) fun v=>k (A.aW dst v)
noncomputable def aE:List aJ→ai→cS
 | [],A=>.done A
 |g::rest,A=>match g.guard with
  |none=>bt A g.dst g.op rest (aE rest)
  |some (t,b)=>match A.t t with
   | .bool b'=>if b'=b then bt A g.dst g.op rest (aE rest) else aE rest (A.aW g.dst .undef)
   | .undef=>aE rest (A.aW g.dst .undef)
   |_=>.fail
def Jw(P:Program)(A:ai)(f:FuncId)(avs:List I)(r:I):Prop :=
 ∀ (c:cV) (a:Act) (w:World) (D:aS) (E:bf) (vs:List Value),c.P=P→aX c A a w D E→fQ (a8 w D E) avs vs→∃ v,(callFunc f vs.toArray).run P w=.ok (.value v) w∧a8 w D E r v
inductive aV (P:Program) (Y:Value→List I→List (Nat×aq)→cL→Prop) (dr:Bool) (K:ai→Prop):cS→Prop where
 |done {A:ai} : K A→aV P Y dr K (.done A)
 |flat {f:FuncId} {avs cargs:List I} {a2:Option (List I)} {dst:Option Nat} {rest:List aJ} {A:ai} (r:I):bd P f cargs r→r.flat=true→aV P Y dr K (aE rest (A.aW dst r))→aV P Y dr K (.call f avs (some cargs) a2 dst rest A)
 |lead {f:FuncId} {avs cargs:List I} {a1:Option (List I)} {dst:Option Nat} {rest:List aJ} {A:ai} (r:I):bd P f cargs r→aV P Y dr K (aE rest (A.aW dst r))→aV P Y dr K (.call f avs a1 (some cargs) dst rest A)
 |km {f:FuncId} {avs cargs:List I} {a1 a2:Option (List I)} {dst:Option Nat} {rest:List aJ} {ts:List (Nat×I)} {os0:List (Nat×aq)} (ns:List Nat) (r:I):dr=false→bd P f cargs r→cm true (aw ts (nx ns os0)) avs=some cargs →
   ct (fun n => !ns.contains n) (e7 ns os0)→aV P Y dr K (aE rest ((aw (mr ns ts) (e7 ns os0)).aW dst r))→aV P Y dr K (.call f avs a1 a2 dst rest (aw ts os0))
 |bU {f:FuncId} {avs:List I} {a1 a2:Option (List I)} {dst:Option Nat} {rest:List aJ} {ts:List (Nat×I)} {os0:List (Nat×aq)} (aP:Bool) (ρ:List (Nat×Nat)) (os:List (Nat×aq)) (cargs:List I) (post:cL):dr=false→cY P f cargs os post →
   gG ρ os os0→h1 aP (aw ts (e7 (jq ρ os) os0)) ρ os avs cargs→(∀ r os',post r os'→gX aP ρ os os0 r os') →
   (∀ r os',post r os'→aV P Y dr K (aE rest ((aw ts (dN ρ os'++os0)).aW dst (r.bu (bP ρ)))))→aV P Y dr K (.call f avs a1 a2 dst rest (aw ts os0))
 |vz {v:Value} {avs:List I} {dst:Option Nat} {rest:List aJ} {ts:List (Nat×I)} {os0:List (Nat×aq)} (os:List (Nat×aq)) (cargs:List I) (post:cL):dr=false→Y v cargs os post →
   gG [] os os0→h1 false (aw ts (e7 (jq [] os) os0)) [] os avs cargs→(∀ r os',post r os'→gX false [] os os0 r os') →
   (∀ r os',post r os'→aV P Y dr K (aE rest ((aw ts (dN [] os'++os0)).aW dst (r.bu (bP [])))))→aV P Y dr K (.lG v avs dst rest (aw ts os0))
 |ext {f:FuncId} {avs:List I} {dst:Option Nat} {rest:List aJ} {A:ai} (r:I):dr=false→Jw P A f avs r→aV P Y dr K (aE rest (A.aW dst r))→aV P Y dr K (.kJ f avs dst rest A)
 |any {p:Nat→Prop} {k:Nat→cS} : dr=false→(∀ m,p m→aV P Y dr K (k m))→aV P Y dr K (.any p k)
def CJ(n:Nat):Option Nat→Bool
 |some d=>decide (d<n)
 |none=>true
def mi(P:Program)(n:Nat)(aY:Array Oper)(o:Oper):Option aJ :=
 match dv P o with
 |none=>none
 |some g=>if CJ n o.dst=true then
   match o.guard with
   |none=>some ⟨o.dst,g,none⟩
   |some (j,b)=>match (aY[j]?).bind (·.dst) with
    |some t=>some ⟨o.dst,g,some (t,b)⟩
    |none=>none
  else none
def gh(P:Program)(n:Nat)(aY:Array Oper):List Oper→Option (List aJ)
 | []=>some []
 |o::l=>match mi P n aY o,gh P n aY l with
  |some g,some gs=>some (g::gs)
  |_,_=>none
end Go.Abs
namespace Go.Abs
open Go Go.RowKit
section
variable {c:cV} {A:ai} {o:Oper} {x:I}
theorem FM{g:bW}(hg:dv c.P o=some g)(h:bo A g=some x):dy c A o x:=by
 unfold dv at hg;split at hg
 -- move
 ·rename_i y ho;simp only[t8] at hg;obtain ⟨z,hz,rfl⟩:=hg;simp only[bo,v6] at h;subst h;exact DW (.inl ho) hz
 ·rename_i y ho;simp only[t8] at hg;obtain ⟨z,hz,rfl⟩:=hg;simp only[bo,v6] at h;subst h;exact DW (.inr ho) hz
 -- pick
 ·rename_i q y z ho;split at hg
  ·rename_i q' y' z' J U af;simp only[v6] at hg;subst hg;simp only[bo] at h;split at h
   ·rename_i t ht;simp only[v6] at h;subst h;exact aaa ho J U af ht
   ·cases h
  ·cases hg
 -- binOp
 ·rename_i op t y z yt ho;split at hg
  ·rename_i k y' z' hu J U;simp only[v6] at hg;subst hg;exact DU ho J U h
  ·rename_i y' z' hu J U;simp only[v6] at hg;subst hg;exact DU ho J U h
  ·rename_i e y' z' hu J U;split at hg
   ·rename_i s;split at hg
    ·rename_i hop;simp only[v6] at hg;subst hg;have ho':o.op=.binOp (if (op==.neq)=true then .neq else .eql) t y z yt:=by
      rcases hop with rfl | rfl <;>simpa using ho
     simp only[bo] at h;split at h
     ·rename_i s' hs';simp only[v6] at h;subst h;have:=xM (r:=true) ho' hu J U (.inl ⟨s',hs',rfl⟩);rw[show (if (op==BinOp.neq)=true then !true else true) = !(op==BinOp.neq) from by cases (op==BinOp.neq) <;>rfl] at this;exact this
     ·rename_i s' es hs';split at h
      ·cases h
      ·rename_i hne;simp only[v6] at h;subst h;have:=xM (r:=false) ho' hu J U (.inr (.inl ⟨s',es,hs',by simpa using hne,rfl⟩));rw[show (if (op==BinOp.neq)=true then !false else false)=(op==BinOp.neq) from by cases (op==BinOp.neq) <;>rfl] at this;exact this
     ·rename_i n p s' lo k hs';simp only[v6] at h;subst h;have:=xM (r:=false) ho' hu J U (.inr (.inr ⟨n,p,s',lo,k,hs',rfl⟩));rw[show (if (op==BinOp.neq)=true then !false else false)=(op==BinOp.neq) from by cases (op==BinOp.neq) <;>rfl] at this;exact this
     ·cases h
    ·cases hg
   ·cases hg
  ·rename_i e y' z' hu J U;split at hg
   ·rename_i hop;simp only[v6] at hg;subst hg;have ho':o.op=.binOp (if (op==.neq)=true then .neq else .eql) t y z yt:=by
     rcases hop with rfl | rfl <;>simpa using ho
    simp only[bo] at h;cases hb1:jm (aj A y') with
    |none=>rw[hb1] at h;cases h
    |some b1=>cases hb2:jm (aj A z') with
     |none=>rw[hb1,hb2] at h;cases h
     |some b2 =>
      rw[hb1,hb2] at h;simp only[nI] at h;split at h
      ·rename_i hor;simp only[v6] at h;subst h;exact aab ho' hu J U hb1 hb2 (by simpa using hor)
      ·cases h
   ·cases hg
  ·rename_i ms y' z' hu J U;split at hg
   ·split at hg
    ·rename_i hop;simp only[v6] at hg;subst hg;have ho':o.op=.binOp (if (op==.neq)=true then .neq else .eql) t y z yt:=by
      rcases hop with rfl | rfl <;>simpa using ho
     exact Z8 ho' hu J U (by simpa only[bo,zz5,zx7] using h)
    ·cases hg
   ·cases hg
  ·rename_i d y' z' _ _ _ _ _ hu J U;split at hg
   ·rename_i hop;simp only[t8] at hg;obtain ⟨ty,hty,rfl⟩:=hg;have ho':o.op=.binOp (if (op==.neq)=true then .neq else .eql) t y z yt:=by
     rcases hop.1 with rfl | rfl <;>simpa using ho
    simp only[bo,t8] at h;obtain ⟨r,hr,rfl⟩:=h;exact ZR ho' J U hop.2 hty hr
   ·cases hg
  ·cases hg
 -- unOp
 ·rename_i op t y ho;simp only[t8] at hg;obtain ⟨z,hz,rfl⟩:=hg;simp only[bo] at h;split at h
  ·rename_i b hb;simp only[v6] at h;subst h;exact Z9 ho hz hb
  ·rename_i k n hb;simp only[v6] at h;subst h;exact Z7 ho hz hb
  ·rename_i k n hb;simp only[v6] at h;subst h;exact ZP ho hz hb
  ·cases h
 -- nilCheck
 ·rename_i y ho;simp only[t8] at hg;obtain ⟨z,hz,rfl⟩:=hg;simp only[bo] at h;cases hy:aj A z <;>rw[hy] at h <;>simp only[mG,v6] at h <;>try (cases h;done)
  ·subst h;rw[←hy];exact DX ho hz (.inr ⟨_,hy⟩)
  ·subst h;rw[←hy];exact DX ho hz (.inl ⟨_,_,hy⟩)
 -- makeMap
 ·simp only[v6] at hg;subst hg;simp[bo] at h
 -- lookup
 ·rename_i t m k ok ho;split at hg
  ·rename_i kt et m' k' hu J U;split at hg
   ·rename_i ty z hk hz;split at hg
    ·rename_i hp;simp only[v6] at hg;subst hg;simp only[bo] at h;cases hm:gy A (aj A m') with
     |none=>rw[hm] at h;cases h
     |some q =>
      obtain ⟨ks,vs⟩:=q;rw[hm] at h;simp only[rP] at h;cases ao:fJ ty z (aj A k') ks vs with
      |none=>rw[ao] at h;cases h
      |some q =>
       obtain ⟨v,b⟩:=q;rw[ao] at h;simp only[rQ,v6] at h;subst h;exact Z3 ho hu hk hz hp J U hm ao
    ·cases hg
   ·cases hg
  ·cases hg
 -- mapUpdate,insert
 iterate 2
  ·split at hg
   ·split at hg
    ·simp only[v6] at hg;subst hg;simp[bo] at h
    ·cases hg
   ·cases hg
 -- makeSlice
 ·split at hg
  ·split at hg
   ·split at hg
    ·simp only[v6] at hg;subst hg;simp[bo] at h
    ·cases hg
   ·cases hg
  ·cases hg
 -- range
 ·split at hg
  ·simp only[t8] at hg;obtain ⟨z,_,rfl⟩:=hg;simp[bo] at h
  ·cases hg
 -- next
 ·simp only[t8] at hg;obtain ⟨z,_,rfl⟩:=hg;simp[bo] at h
 -- entry
 ·rename_i y ho;simp only[t8] at hg;obtain ⟨z,hz,rfl⟩:=hg;simp only[bo] at h;split at h
  ·rename_i n hn;split at h
   ·rename_i ks vs left cur hob;cases cur with
    |none=>cases h
    |some i =>
     simp only[np] at h;split at h
     ·rename_i kk xx hk hx;simp only[v6] at h;subst h;exact ZQ ho hz hn hob hk hx
     ·cases h
   ·cases h
  ·cases h
 -- convert
 ·rename_i na dst y ho;split at hg
  ·rename_i k0 k y' J U af;simp only[v6] at hg;subst hg;simp only[bo] at h;split at h
   ·rename_i k1 n hn;simp only[v6] at h;subst h;exact ZO ho J U af hn
   ·cases h
  ·rename_i e y' J U af;split at hg
   ·rename_i he;simp only[v6] at hg;subst hg;exact ZL ho J he U af (by simpa only[bo] using h)
   ·cases hg
  ·cases hg
 -- load
 ·rename_i t y ho;split at hg
  ·rename_i s y' J U;simp only[v6] at hg;subst hg;simp only[bo] at h;split at h
   ·rename_i v hv;split at h
    ·rename_i hok;simp only[v6] at h;subst h;exact Z2 ho J U hv hok
    ·cases h
   ·cases h
  ·cases hg
 -- fieldAddr
 ·rename_i t y f ho;split at hg
  ·rename_i fs y' hu J;split at hg
   ·rename_i fd hf;split at hg
    ·cases hg
    ·rename_i hz;simp only[v6] at hg;subst hg;simp only[bo] at h;split at h
     ·rename_i gs hgs;split at h
      ·rename_i v hv;split at h
       ·rename_i hoff;simp only[v6] at h;subst h;exact ZU ho hu hf hz J hgs hv hoff
       ·cases h
      ·cases h
     ·rename_i n p hp;split at h
      ·rename_i gs hgs;split at h
       ·rename_i hoff;simp only[v6] at h;subst h;exact ZT ho hu hf hz J hp hgs hoff.1 hoff.2
       ·cases h
      ·cases h
     ·cases h
   ·cases hg
  ·cases hg
 -- field
 ·rename_i t y f ho;split at hg
  ·rename_i fs y' hu J;split at hg
   ·rename_i fd hf;simp only[t8] at hg;obtain ⟨s,ab,rfl⟩:=hg;simp only[bo] at h;split at h
    ·rename_i gs hgs;split at h
     ·rename_i v hv;split at h
      ·rename_i hoff;simp only[v6] at h;subst h;exact ZV ho hu hf ab J hgs hv hoff.1 hoff.2
      ·cases h
     ·cases h
    ·cases h
   ·cases hg
  ·cases hg
 -- indexAddr
 ·rename_i t y i ho;split at hg
  ·rename_i n e y' i' hu J U;split at hg
   ·rename_i hinfo;obtain ⟨ti,hti⟩:=zx0.1 hinfo;simp only[v6] at hg;subst hg;simp only[bo] at h;split at h
    ·rename_i kk k hk;split at h
     ·rename_i hb;split at h
      ·rename_i gs hgs;split at h
       ·rename_i hev;simp only[t8] at h;obtain ⟨v,hv,rfl⟩:=h;exact ZX ho hu hti J U hgs hk hb hev hv
       ·cases h
      ·rename_i m p hp;split at h
       ·rename_i gs hgs;split at h
        ·rename_i hev;simp only[v6] at h;subst h;exact ZW ho hu hti J U hp hk hb hgs hev
        ·cases h
       ·cases h
      ·cases h
     ·cases h
    ·cases h
   ·cases hg
  ·rename_i e y' i' hu J U;split at hg
   ·rename_i hinfo;obtain ⟨ti,hti⟩:=zx0.1 hinfo;simp only[v6] at hg;subst hg;simp only[bo] at h;split at h
    ·rename_i kk k hk;split at h
     ·rename_i sz es hes;split at h
      ·rename_i hb;obtain ⟨rfl,hb⟩:=hb;simp only[t8] at h;obtain ⟨v,hv,rfl⟩:=h;exact ZY ho hu hti J U hes hk hb hv
      ·cases h
     ·rename_i m l hm;split at h
      ·rename_i T sz es hes;split at h
       ·rename_i hb;obtain ⟨rfl,rfl,hb⟩:=hb;simp only[t8] at h;obtain ⟨v,hv,rfl⟩:=h;exact ZZ ho hu hti J U hm hes hk hb hv
       ·cases h
      ·cases h
     ·rename_i m p sz lo l hm;split at h
      ·rename_i fs hfs;split at h
       ·rename_i hb;simp only[v6] at h;subst h;exact Z0 ho hu hti J U hb.1 hm hfs hk hb.2
       ·cases h
      ·cases h
     ·cases h
    ·cases h
   ·cases hg
  ·cases hg
 -- index
 ·rename_i t y i ho;split at hg
  ·rename_i n e y' i' hu J U;simp only[t8] at hg;obtain ⟨s,ab,rfl⟩:=hg;simp only[bo] at h;split at h
   ·rename_i kk k hk;split at h
    ·rename_i hb;split at h
     ·rename_i gs hgs;split at h
      ·rename_i hev;split at h
       ·rename_i v hv;split at h
        ·rename_i hok;simp only[v6] at h;subst h;exact Z1 ho hu ab J U hgs hk hb hev hv hok
        ·cases h
       ·cases h
      ·cases h
     ·cases h
    ·cases h
   ·cases h
  ·rename_i y' i' hu J U;simp only[v6] at hg;subst hg;exact aac ho hu J U (by simpa only[bo,zz5,zx7] using h)
  ·cases hg
 -- slice
 ·rename_i t y lo hi mx ho;split at hg
  ·rename_i n e y' hu J;split at hg
   ·split at hg
    ·rename_i hinfo;obtain ⟨ti,hti⟩:=zx0.1 hinfo;simp only[v6] at hg;subst hg;simp only[bo] at h;split at h
     ·rename_i m p hp;split at h
      ·rename_i gs hgs;split at h
       ·rename_i hev;simp only[v6] at h;subst h;exact aah ho hu hti J hp hgs hev.1 hev.2.1 hev.2.2
       ·cases h
      ·cases h
     ·rename_i gs hgs;split at h
      ·rename_i hev;simp only[v6] at h;subst h;exact aai ho hu hti J hgs hev.1 hev.2.1
      ·cases h
     ·cases h
    ·cases hg
   ·cases hg
  ·rename_i e y' hu J;split at hg
   ·rename_i lo' hi' mx' q1 q2 q3;split at hg
    ·rename_i hc;obtain ⟨ti,hti⟩:=zx0.1 hc.2;simp only[v6] at hg;subst hg;simp only[bo] at h;split at h
     ·rename_i sz es hes;split at h
      ·rename_i hsz;subst hsz;exact xN ho hu hti J q1 q2 q3 hc.1 (.inl hes) h
      ·cases h
     ·rename_i sz hes;split at h
      ·rename_i hsz;subst hsz;exact xN ho hu hti J q1 q2 q3 hc.1 (.inr (.inl ⟨hes,rfl⟩)) h
      ·cases h
     ·rename_i sz hes;split at h
      ·rename_i hsz;subst hsz;exact xN ho hu hti J q1 q2 q3 hc.1 (.inr (.inr ⟨hes,rfl⟩)) h
      ·cases h
     ·rename_i n p sz l0 k hv;split at h
      ·rename_i fs hfs;split at h
       ·rename_i hsz;exact aad ho hu hti J q1 q2 q3 hc.1 hsz hv hfs h
       ·cases h
      ·cases h
     ·cases h
    ·cases hg
   ·cases hg
  ·rename_i y' hu J;split at hg
   ·rename_i hi;simp only[t8] at hg;obtain ⟨hi',U,rfl⟩:=hg;exact aaf ho hu J U (by simpa only[bo,zz5,zx7] using h)
   ·rename_i lo;simp only[t8] at hg;obtain ⟨lo',U,rfl⟩:=hg;exact aag ho hu J U (by simpa only[bo,zz5,zx7] using h)
   ·split at hg
    ·rename_i lo' hi' U af;simp only[v6] at hg;subst hg;exact aae ho hu J U af (by simpa only[bo,zz5,zx7] using h)
    ·cases hg
   ·cases hg
  ·cases hg
 -- build
 ·rename_i t parts ho;split at hg
  ·rename_i zs ps hz hp;split at hg
   ·rename_i fs hu;split at hg
    ·rename_i hc;simp only[v6] at hg;subst hg;simp only[bo,t8] at h;obtain ⟨zs',h,rfl⟩:=h;exact DV ho hz hp (.inl ⟨fs,hu,hc.1,hc.2⟩) h
    ·cases hg
   ·rename_i n e hu;split at hg
    ·rename_i hc;simp only[v6] at hg;subst hg;simp only[bo,t8] at h;obtain ⟨zs',h,rfl⟩:=h;exact DV ho hz hp (.inr ⟨n,e,hu,hc.1,hc.2.1,hc.2.2⟩) h
    ·cases hg
   ·cases hg
  ·cases hg
 -- buildSlice
 ·rename_i t len parts ho;split at hg
  ·rename_i e hu;split at hg
   ·rename_i ps hp;split at hg
    ·rename_i aR;obtain ⟨rfl,rfl,aR⟩:=aR;obtain ⟨ti,hti⟩:=zx0.1 aR;simp only[v6] at hg;subst hg;simp only[bo,v6] at h;subst h;exact ZN ho hu hti
    split at hg
    ·rename_i hc;obtain ⟨c1,c2,c3,c4,c5⟩:=hc;simp only[v6] at hg;subst hg;simp only[bo] at h;split at h
     ·rename_i es hes;split at h
      ·rename_i hev;simp only[v6] at h;subst h;refine ZM ho hu hp c1 c2 c3 c4 c5 hes (fun y hy =>?_) hev.2;have:=zx5.1 hev.1 y hy;simpa using this
      ·cases h
     ·cases h
    ·cases hg
   ·cases hg
  ·cases hg
 -- extract
 ·rename_i y i ho;simp only[t8] at hg;obtain ⟨z,hz,rfl⟩:=hg;simp only[bo] at h;split at h
  ·rename_i fs hfs;exact ZS ho hz hfs h
  ·cases h
 -- makeFunc
 ·rename_i f first caps ho
  split at hg
  case isFalse=>cases hg
  rename_i hlt;split at hg
  ·rename_i hfirst;simp only[t8] at hg;obtain ⟨ys,hys,rfl⟩:=hg;simp only[bo] at h;split at h
   ·rename_i hv;simp only[v6] at h;subst h;have hf:first = #[]:=by simpa using hfirst
    rw[hf] at ho;refine Z4 hlt ho hys (fun y hy =>?_);have:=zx5.1 hv (aj A y) (zy9.2 ⟨y,hy,rfl⟩);exact this
   ·cases h
  ·split at hg
   case isFalse=>cases hg
   rename_i hcaps;simp only[t8] at hg;obtain ⟨ys,hys,rfl⟩:=hg;simp only[bo] at h;split at h
   ·rename_i hv;simp only[v6] at h;subst h;have hf:caps = #[]:=by simpa using hcaps
    rw[hf] at ho;refine Z5 ho hys (fun y hy =>?_);have:=zx5.1 hv (aj A y) (zy9.2 ⟨y,hy,rfl⟩);exact this
   ·cases h
 -- alloc
 ·simp only[t8] at hg;obtain ⟨z,_,rfl⟩:=hg;simp[bo] at h
 -- box
 ·simp only[t8] at hg;obtain ⟨z,_,rfl⟩:=hg;simp[bo] at h
 -- store
 ·split at hg
  ·split at hg
   ·simp only[v6] at hg;subst hg;simp[bo] at h
   ·cases hg
  ·cases hg
 -- call
 ·split at hg
  ·simp only[t8] at hg;obtain ⟨z,_,rfl⟩:=hg;simp[bo] at h
  ·simp only[t8] at hg;obtain ⟨z,_,rfl⟩:=hg;simp[bo] at h
 ·split at hg
  ·simp only[v6] at hg;subst hg;simp[bo] at h
  ·cases hg
 -- len
 ·rename_i args tys ho;split at hg
  ·rename_i y ty hargs htys;have ho':o.op=.call { callee:=.builtin .len,args := #[y],argTypes := #[ty] } :=by
    rw[ho];have e1:args = #[y]:=by apply Array.ext';simpa using hargs
    have e2:tys = #[ty]:=by apply Array.ext';simpa using htys
    rw[e1,e2]
   split at hg
   ·rename_i e hu;simp only[t8] at hg;obtain ⟨y',hy,rfl⟩:=hg;simp only[bo] at h;split at h
    ·rename_i sz es hes;simp only[v6] at h;subst h;refine pR ho' hu (.inl ⟨e,rfl⟩) hy (fun a w D E ab v hv =>?_);rw[hes] at hv;obtain ⟨ad,cap,e1,e2,e3,_⟩:=nP hv;exact ⟨zu0 e2 e3,fun _=>⟨ad,cap,e1⟩,fun e=>by cases e⟩
    ·rename_i sz hes;simp only[v6] at h;subst h;refine pR (n:=0) ho' hu (.inl ⟨e,rfl⟩) hy (fun a w D E ab v hv =>?_);rw[hes] at hv;obtain ⟨cs,q1,q2⟩:=hv;simp only[al] at q2;exact ⟨by simp[maxLen],fun _=>⟨none,0,by simpa[bC,I.isAgg,q2] using q1.symm⟩,fun e=>by cases e⟩
    ·rename_i sz hes;simp only[v6] at h;subst h;refine pR (n:=0) ho' hu (.inl ⟨e,rfl⟩) hy (fun a w D E ab v hv =>?_);rw[hes] at hv;obtain ⟨cs,q1,q2⟩:=hv;simp only[al] at q2;obtain ⟨ad,q2⟩:=q2;exact ⟨by simp[maxLen],fun _=>⟨ad,0,by simpa[bC,I.isAgg,q2] using q1.symm⟩,fun e=>by cases e⟩
    ·rename_i m l hm;split at h
     ·rename_i T sz es hes;split at h
      ·rename_i ao;subst ao;simp only[v6] at h;subst h;refine pR ho' hu (.inl ⟨e,rfl⟩) hy (fun a w D E ab v hv =>?_);rw[hm] at hv;rcases ab.own hes hv with ⟨rfl,_,rfl⟩ | ⟨b,cap,cs,pre,rest,_,rfl,_,_,_,_,_,k8,k9,_⟩
       ·exact ⟨by simp[maxLen],fun _=>⟨none,0,rfl⟩,fun e=>by cases e⟩
       ·exact ⟨zu0 k8 k9,fun _=>⟨_,_,rfl⟩,fun e=>by cases e⟩
      ·cases h
     ·cases h
    ·rename_i n p sz lo k hm;simp only[v6] at h;subst h;refine pR ho' hu (.inl ⟨e,rfl⟩) hy (fun a w D E ab v hv =>?_);rw[hm] at hv;obtain ⟨cs,q1,q2⟩:=hv;simp only[al] at q2;obtain ⟨b,bg,off,l,_,_,_,q2,q3,q4,_⟩:=q2;exact ⟨by omega,fun _=>⟨_,_,by simpa[bC,I.isAgg,q2] using q1.symm⟩,fun e=>by cases e⟩
    ·cases h
   ·rename_i hu;simp only[t8] at hg;obtain ⟨y',hy,rfl⟩:=hg;simp only[bo] at h;split at h
    ·rename_i s hs';simp only[v6] at h;subst h;refine pR ho' hu (.inr rfl) hy (fun a w D E ab v hv =>?_);rw[hs'] at hv;obtain ⟨e1,e2⟩:=iw hv;exact ⟨e2,(fun e=>by obtain ⟨_,e⟩:=e;cases e),fun _=>⟨s,e1,rfl⟩⟩
    ·cases h
   ·cases hg
  ·cases hg
 -- append
 ·split at hg
  ·split at hg
   ·split at hg
    ·simp only[t8] at hg;obtain ⟨z,_,rfl⟩:=hg;simp[bo] at h
    ·split at hg
     ·simp only[t8] at hg;obtain ⟨z,_,rfl⟩:=hg;simp[bo] at h
     ·cases hg
   ·cases hg
  ·cases hg
 -- cap
 ·rename_i args tys ho;split at hg
  ·rename_i y ty hargs htys;have ho':o.op=.call { callee:=.builtin .cap,args := #[y],argTypes := #[ty] } :=by
    rw[ho];have e1:args = #[y]:=by apply Array.ext';simpa using hargs
    have e2:tys = #[ty]:=by apply Array.ext';simpa using htys
    rw[e1,e2]
   split at hg
   ·rename_i e hu;simp only[t8] at hg;obtain ⟨y',hy,rfl⟩:=hg;simp only[bo] at h;split at h
    ·rename_i sz hes;simp only[v6] at h;subst h;refine xL ho' hu hy (fun a w D E ab v hv =>?_);rw[hes] at hv;obtain ⟨cs,q1,q2⟩:=hv;simp only[al] at q2;exact ⟨by simp[maxLen],_,_,by simpa[bC,I.isAgg,q2] using q1.symm⟩
    ·rename_i sz hes;simp only[v6] at h;subst h;refine xL ho' hu hy (fun a w D E ab v hv =>?_);rw[hes] at hv;obtain ⟨cs,q1,q2⟩:=hv;simp only[al] at q2;obtain ⟨ad,q2⟩:=q2;exact ⟨by simp[maxLen],_,_,by simpa[bC,I.isAgg,q2] using q1.symm⟩
    ·rename_i n p sz lo k hm;split at h
     ·rename_i fs hfs;simp only[v6] at h;subst h;refine xL ho' hu hy (fun a w D E ab v hv =>?_);rw[hm] at hv;obtain ⟨_,b,cs,T,off,c1,c2,c3,_,_,_,_,_,_,_,_,_,_,_,q1,q2⟩:=ab.view hv hfs;exact ⟨by omega,_,_,q2⟩
     ·cases h
    ·cases h
   ·cases hg
  ·cases hg
 -- clear
 ·split at hg
  ·split at hg
   ·simp only[t8] at hg;obtain ⟨z,_,rfl⟩:=hg;simp[bo] at h
   ·cases hg
  ·cases hg
 -- copy
 ·split at hg
  ·split at hg
   ·split at hg
    ·simp only[v6] at hg;subst hg;simp[bo] at h
    ·cases hg
   ·cases hg
  ·cases hg
 -- delete
 ·split at hg
  ·split at hg
   ·simp only[t8] at hg;obtain ⟨z,_,rfl⟩:=hg;simp[bo] at h
   ·cases hg
  ·cases hg
 -- max
 ·rename_i args _ ho;split at hg
  ·rename_i x y hargs;split at hg
   ·rename_i x' y' J U;simp only[v6] at hg;subst hg;simp only[bo] at h;have e1:args = #[x,y]:=by apply Array.ext';simpa using hargs
    rw[e1] at ho;exact Z6 ho J U h
   ·cases hg
  ·cases hg
 ·cases hg
theorem fQ.append{α β:Type}{R:α→β→Prop} : ∀ {xs:List α} {ys:List β} {xs':List α} {ys':List β},fQ R xs ys→fQ R xs' ys'→fQ R (xs++xs') (ys++ys')
 |_,_,_,_,.nil,h=>h
 |_,_,_,_,.cons J U,h=>.cons J (U.append h)
theorem sv{w:World}{D:aS}{E:bf} : ∀ {xs:List I} {vs:List Value},aH w D E xs vs→fQ (a8 w D E) xs vs
 | [],vs,h=>by simp only[aH] at h;subst h;exact .nil
 |x::xs,vs,h=>by
  simp only[aH] at h;obtain ⟨v,rest,cs,rfl,J,U,af⟩:=h;exact .cons (gL J U) (sv af)
theorem LI {P : Program} {f : FuncId} (h : fy P f = true) : ∃ fn, P.funcs[f]? = some fn ∧ ¬ fn.name = "runtime.NumGoroutine" ∧ ¬ fn.body = none := by
 unfold fy at h;rw[zz0] at h
 replace h:=h.2
 cases hf:P.funcs[f]? with
 |none=>simp[hf] at h
 |some fn =>
  simp only[hf,Option.any_some,zz0,bne_iff_ne,ne_eq] at h;refine ⟨fn,rfl,by simpa using h.1,?_⟩;cases hb:fn.body <;>simp_all
theorem B7{P:Program}{f:FuncId}(h:fy P f=true):f<1000000:=by
 unfold fy at h;rw[zz0] at h;simpa[Nat.blt_eq] using h.1
theorem nO{P:Program}{w:World}{f:FuncId}{args:Array Value}(h:fy P f=true):(callFunc f args).run P w=.ok (.enter f args) w:=by
 obtain ⟨fn,J,U,af⟩:=LI h;simp[callFunc,J,U,af]
theorem aX.iV{A:ai}{a:Act}{w:World}{D:aS}{E:bf}(h:aX c A a w D E){n:Nat}{e:bR}{b:Nat}(he:E n=some e)(hb:e.aK=some b):c.fu b:=by
 have:=h.bU n;unfold dc at this;split at this
 ·simp[this] at he
 ·obtain ⟨b',cs,T,J,U,_⟩:=this;rw[J,v6] at he;subst he;simp only[bR.aK,v6] at hb;exact hb▸U
 ·obtain ⟨aK,J,U,af⟩:=this;rw[J,v6] at he;subst he;split at af
  ·cases hb
  ·obtain ⟨cs,pre,rest,ar,_⟩:=af;simp only[bR.aK,v6] at hb;exact hb▸ar
 ·obtain ⟨b',J,U,_⟩:=this;rw[J,v6] at he;subst he;simp only[bR.aK,v6] at hb;exact hb▸U
 ·obtain ⟨b',es,ck,J,U,_⟩:=this;rw[J,v6] at he;subst he;simp only[bR.aK,v6] at hb;exact hb▸U
 ·obtain ⟨b',bb,es,ck,eZ,se,la,J,U,_⟩:=this;rw[J,v6] at he;subst he;simp only[bR.aK,v6] at hb;exact hb▸U
 ·obtain ⟨aK,J,U,af⟩:=this;rw[J,v6] at he;subst he;split at af
  ·cases hb
  ·obtain ⟨cs,m,ar,_⟩:=af;simp only[bR.aK,v6] at hb;exact hb▸ar
theorem aX.rN{A:ai}{a:Act}{w:World}{D:aS}{E:bf}(h:aX c A a w D E):gb c.P w (cN E) :=
 h.fp.1.aaI h.dZ (fun _ hb=>hb) fun _ ⟨_,_,J,U⟩=>h.iV J U
theorem aX.xW{A:ai}{a:Act}{w:World}{D:aS}{E:bf}(h:aX c A a w D E):gb c.P w (fun _=>False):=h.rN.oD fun _ h=>h.elim
theorem aX.p0{A:ai}{a:Act}{w:World}{D:aS}{E:bf}(h:aX c A a w D E){ρ:List (Nat×Nat)}{os:List (Nat×aq)} : gb c.P w (cN (aF ρ os E)):=h.rN.oD fun b ⟨n,e,J,U⟩=>by
 simp only[aF] at J;split at J
 ·exact ⟨_,e,J,U⟩
 ·cases J
theorem bd.aem{f:FuncId}{avs cargs:List I}{r:I}{vs:List Value}{a:Act}{w:World}{D:aS}{E:bf}(ab:aX c A a w D E)(h:bd c.P f cargs r)(hf:r.flat=true)(hc:cm true A avs=some cargs)(hv:fQ (a8 w D E) avs vs) :
  Calls c.P f vs.toArray w fun e w'=>∃ v D',e=.returned v∧aX c A a w' D' E∧a8 w' D' E r v:=by
 have hw:iP true A D E (fun b _=>b<w.heap.size):=by
  refine ⟨fun b o ah=>ab.aU b o ah,fun n T sz es b cap hn aF o _=>ab.gw aF rfl,fun _ n x b bg hn aF o _=>ab.gw aF rfl,fun _ n ks vs b hn aF=>ab.gw aF rfl⟩
 have hrv:=mw (E':=cP) ab (fun _ _ h=>h) hw avs cargs vs (l6 _ _ hv (rn hc)) hc;refine (h.2 w _ vs ab.xW (fun _ _ ah=>ah) hrv).mono fun e w' ⟨v,D',he,J,U,af,ar⟩=>⟨v,D,he,?_,a8.flat hf J⟩
 exact ab.grow U (fun _ _ ah=>ah) (fun _ _ ah _=>ah) (fun b o ah=>Nat.lt_of_lt_of_le (ab.aU b o ah) U.size)
theorem bd.aeo{f:FuncId}{avs cargs:List I}{r:I}{vs:List Value}{a:Act}{w:World}{D:aS}{E:bf}(ab:aX c A a w D E)(h:bd c.P f cargs r)(hc:cm false A avs=some cargs)(hv:fQ (a8 w D E) avs vs) :
  Calls c.P f vs.toArray w fun e w'=>∃ v D',e=.returned v∧aX c A a w' D' E∧a8 w' D' E r v:=by
 obtain ⟨hs1,hw⟩:=ab.o5;have hrv:=mw (E':=cP) ab (fun _ _ h=>h) hw avs cargs vs (l6 _ _ hv (rn hc)) hc;refine (h.2 w _ vs ab.xW hs1.aU hrv).mono fun e w' ⟨v,D',he,J,U,af,ar⟩=>⟨v,fun b o=>oX A D E b o∨(w.heap.size≤b∧D' b o),he,?_,?_⟩
 ·refine hs1.grow U (fun _ _ ah=>.inl ah) ?_ ?_
  ·rintro b o (ah | ⟨hle,_⟩) hlt
   ·exact ah
   ·omega
  ·rintro b o (ah | ⟨_,ah⟩)
   ·exact Nat.lt_of_lt_of_le (hs1.aU b o ah) U.size
   ·exact af b o ah
 ·refine a8.later (E:=cP) ⟨fun b o ah =>?_,fun _ _ _ _ h=>h,fun n b bg hn=>by simp[cP] at hn,fun n aK l hn=>by simp[cP] at hn,fun n b hn=>by simp[cP] at hn,fun n b hn=>by simp[cP] at hn,fun _ _ _ _ h=>h⟩ J;rcases Nat.lt_or_ge b w.heap.size with hlt | hge
  ·exact .inl (ar b o ah hlt)
  ·exact .inr ⟨hge,ah⟩
theorem EJ(p:Nat→Bool)(os:List (Nat×aq))(n:Nat):ak (os.filter fun q=>p q.1) n=if p n then ak os n else none:=by
 induction os with
 |nil=>simp[ak]
 |cons q os ih =>
  obtain ⟨k,v⟩:=q;simp only[List.filter_cons];by_cases hk:p k=true
  ·simp only[hk,if_true,ak,ih];by_cases hn:n=k
   ·subst hn;simp only[hk,if_true]
   ·simp only[if_neg hn]
  ·simp only[hk,zz2,if_false,ih,ak];by_cases hn:n=k
   ·subst hn;simp[hk]
   ·simp only[if_neg hn]
theorem oE(ns:List Nat)(os:List (Nat×aq))(n:Nat):ak (e7 ns os) n=if ns.contains n then none else ak os n:=by
 rw[e7,EJ (fun n => !ns.contains n)];cases ns.contains n <;>rfl
theorem p7(ns:List Nat)(os:List (Nat×aq))(n:Nat):ak (nx ns os) n=if ns.contains n then ak os n else none:=EJ _ _ _
theorem yH{p:Nat→Bool} : ∀ {os:List (Nat×aq)},ct p os→∀ k x,ak os k=some x→x.only p=true
 | [],_,k,x,hx=>by simp[ak] at hx
 |(j,v)::r,h,k,x,hx=>by
  simp only[ct] at h;simp only[ak] at hx;split at hx
  ·simp only[v6] at hx;subst hx;exact h.1
  ·exact yH h.2 k x hx
theorem EM(ns:List Nat):∀ (ts:List (Nat×I)) (t:Nat),b9 (mr ns ts) t=if (b9 ts t).only (fun n => !ns.contains n) then b9 ts t else .dF
 | [],t=>by simp[mr,b9,I.only]
 |(k,v)::r,t=>by
  simp only[mr,zz5,b9];by_cases h:t=k
  ·simp only[if_pos h]
  ·simp only[if_neg h];exact EM ns r t
theorem aX.Db{a:Act}{w:World}{D:aS}{E:bf}{ts:List (Nat×I)}{os0:List (Nat×aq)}(h:aX c (aw ts os0) a w D E)(ns:List Nat)(ho:ct (fun n => !ns.contains n) (e7 ns os0)) :
  ∃ D' E',aX c (aw (mr ns ts) (e7 ns os0)) a w D' E'∧iP true (aw ts (nx ns os0)) D E D':=by
 have J:=h.o5.1;have hw1:=h.o5.2;obtain ⟨D1,hD1⟩:∃ D1,D1=oX (aw ts os0) D E:=⟨_,rfl⟩
 rw[←hD1] at J hw1;obtain ⟨D2,hD2⟩:∃ D2:aS,D2=fun b o=>D1 b o∨(∃ n x bg,ns.contains n=true∧ak os0 n=some (.box x)∧E n=some (.aP b bg)∧o<x.size)∨∃ n ks vs,ns.contains n=true∧ak os0 n=some (.bD ks vs)∧E n=some (.bD b)∧o=0:=⟨_,rfl⟩
 obtain ⟨E2,hE2⟩:∃ E2:bf,E2=fun n=>if ns.contains n then none else E n:=⟨_,rfl⟩
 have e2:∀ n,(!ns.contains n)=true→E2 n=E n:=fun n hn=>by rw[hE2];simp at hn;simp[hn]
 have ao:ef w D1 E2 w D2 E2:=⟨fun b o ah=>by rw[hD2];exact .inl ah,fun _ _ _ _ h=>h,fun _ _ _ h=>h,fun _ aK l h=>⟨aK,l,h,zz3 _,fun _=>rfl⟩,fun _ _ h=>h,fun _ _ h=>h,fun _ _ _ _ h=>h⟩
 have qb:∀ b o,D2 b o→D1 b o∨∃ n e q,ns.contains n=true∧E n=some e∧e.aK=some b∧c.fu b∧w.heap[b]?=some q:=fun b o ah=>by
  rw[hD2] at ah;rcases ah with ah | ⟨n,x,bg,k1,k2,k3,k4⟩ | ⟨n,ks,vs,k1,k2,k3,_⟩
  ·exact .inl ah
  ·obtain ⟨b',cs,T,q1,q2,q3,_⟩:=h.box (n:=n) (x:=x) (by simpa[aw] using k2);rw[k3] at q1;simp only[v6,bR.aP.injEq] at q1;obtain ⟨rfl,rfl⟩:=q1;exact .inr ⟨n,_,_,k1,k3,rfl,q2,q3⟩
  ·obtain ⟨b',es,ck,q1,q2,q3,_⟩:=h.map (n:=n) (ks:=ks) (vs:=vs) (by simpa[aw] using k2);rw[k3] at q1;cases q1;exact .inr ⟨n,_,_,k1,k3,rfl,q2,q3⟩
 refine ⟨D2,E2,⟨J.sz,J.eS,fun t =>?_,J.dZ,fun b o ah hm =>?_,fun b o ah =>?_,fun n =>?_,fun n m e e' b g1 g2 g3 g4 =>?_,fun n e hn =>?_,J.fe,fun b o ah=>ao.dh b o (J.cX b o ah),J.fp,J.fO⟩,?_⟩
 ·simp only[aw,EM];have ht:=J.eb t;simp only[aw] at ht;split
  ·rename_i hp;exact a8.later ao (a8.dq e2 hp ht)
  ·simp[a8]
 ·rcases qb b o ah with ah | ⟨n,e,q,_,_,_,k,_⟩
  ·exact J.dh b o ah hm
  ·exact absurd k hm
 ·rcases qb b o ah with ah | ⟨n,e,q,_,_,_,_,k⟩
  ·exact J.aU b o ah
  ·exact fX k
 ·simp only[aw,oE];by_cases hn:ns.contains n=true
  ·simp only[hn,if_true,dc];rw[hE2];simp only[hn,if_true]
  ·have hnb:(!ns.contains n)=true:=by simpa using hn
   simp only[hn,zz2,if_false];have hob:=J.bU n;simp only[aw] at hob;cases hx:ak os0 n with
   |none=>rw[hx] at hob;simp only[dc] at hob ⊢;rw[e2 n hnb];exact hob
   |some x =>
    have hon:=yH ho n x (by rw[oE,if_neg hn];exact hx);have nD:∀ e b,E n=some e→e.aK=some b→∀ o,D2 b o→D1 b o:=fun e b he hb o ah=>by
     rcases qb b o ah with ah | ⟨m,e',q,k1,k3,k2,_⟩
     ·exact ah
     ·have:=h.cU n m e _ b he k3 hb k2;subst this;exact absurd k1 hn
    rw[hx] at hob;cases x with
    |box x =>
     obtain ⟨b,cs,T,k1,k2,k3,k4,k5⟩:=hob;exact ⟨b,cs,T,(e2 n hnb).trans k1,k2,k3,al.later ao _ _ (al.dq e2 _ _ (by simpa[aq.only] using hon) k4),fun o ah=>k5 o (nD _ b k1 rfl o ah)⟩
    |bV T sz es =>
     obtain ⟨aK,k1,k2,k3⟩:=hob;refine ⟨aK,(e2 n hnb).trans k1,k2,?_⟩;cases aK with
     |none=>exact k3
     |some bc =>
      obtain ⟨b,cap⟩:=bc;obtain ⟨cs,pre,rest,q1,q2,q3,q4,q5,q6,q7,q8⟩:=k3;exact ⟨cs,pre,rest,q1,q2,q3,aN.later ao _ _ (aN.dq e2 _ _ (by simpa[aq.only] using hon) q4),q5,q6,q7,fun o ah=>q8 o (nD _ b k1 rfl o ah)⟩
    |dT T xs =>
     obtain ⟨aK,k1,k2,k3⟩:=hob;refine ⟨aK,(e2 n hnb).trans k1,k2,?_⟩;cases aK with
     |none=>exact k3
     |some bc =>
      obtain ⟨b,cap⟩:=bc;obtain ⟨cs,r,q1,q2,q3,q4,q5,q6,q7⟩:=k3;exact ⟨cs,r,q1,q2,q3,q4,q5,q6,fun o ah=>q7 o (nD _ b k1 rfl o ah)⟩
    |dR x =>
     obtain ⟨b,k1,k2,k3,k4,k5⟩:=hob;exact ⟨b,(e2 n hnb).trans k1,k2,k3,k4,fun o ah=>k5 o (nD _ b k1 rfl o ah)⟩
    |bD ks vs =>
     obtain ⟨b,es,ck,k1,k2,k3,k4,k5,k6,k7⟩:=hob;simp only[aq.only,zz0] at hon;exact ⟨b,es,ck,(e2 n hnb).trans k1,k2,k3,k4,aH.later ao _ _ (aH.dq e2 _ _ hon.1 k5),aH.later ao _ _ (aH.dq e2 _ _ hon.2 k6),fun o ah=>k7 o (nD _ b k1 rfl o ah)⟩
    |it ks vs left cur =>
     obtain ⟨r,b,es,ck,eZ,se,la,k1,k2,k3,k4,k5,k6,k7,k8,k9,k9',k10⟩:=hob;simp only[aq.only,zz0] at hon;exact ⟨r,b,es,ck,eZ,se,la,(e2 n hnb).trans k1,k2,k3,k4.later ao,aH.later ao _ _ (aH.dq e2 _ _ hon.1 k5),aH.later ao _ _ (aH.dq e2 _ _ hon.2 k6),k7,k8,k9,k9',fun o ah=>k10 o (nD _ r k1 rfl o ah)⟩
 ·have cut:∀ n e,E2 n=some e→E n=some e:=fun n e he=>by
   rw[hE2] at he;simp only at he;split at he
   ·cases he
   ·exact he
  exact h.cU n m e e' b (cut n e g1) (cut m e' g2) g3 g4
 ·by_cases hm:ns.contains n=true
  ·left;rw[hE2];simp only[hm,if_true]
  ·rw[e2 n (by simpa using hm)];exact h.ec n e hn
 ·refine ⟨fun b o ah=>by rw[hD2];exact .inl (hw1.dh b o ah),fun n T sz es b cap hn aF o hlt =>?_,fun _ n x b bg hn aF o hlt =>?_,fun _ n ks vs b hn aF =>?_⟩
  ·simp only[aw,p7] at hn;split at hn
   ·rw[hD2];exact .inl (hw1.bV n T sz es b cap hn aF o hlt)
   ·cases hn
  ·simp only[aw,p7] at hn;split at hn
   ·rename_i hk;rw[hD2];exact .inr (.inl ⟨n,x,bg,hk,hn,aF,hlt⟩)
   ·cases hn
  ·simp only[aw,p7] at hn;split at hn
   ·rename_i hk;rw[hD2];exact .inr (.inr ⟨n,ks,vs,hk,hn,aF,rfl⟩)
   ·cases hn
theorem bd.aen{f:FuncId}{avs cargs:List I}{r:I}{vs:List Value}{a:Act}{w:World}{D:aS}{E:bf}{ts:List (Nat×I)}{os0:List (Nat×aq)}(ab:aX c (aw ts os0) a w D E)(ns:List Nat)(ho:ct (fun n => !ns.contains n) (e7 ns os0))
  (h:bd c.P f cargs r) (hc:cm true (aw ts (nx ns os0)) avs=some cargs) (hv:fQ (a8 w D E) avs vs) :
  Calls c.P f vs.toArray w fun e w'=>∃ v D' E',e=.returned v∧aX c (aw (mr ns ts) (e7 ns os0)) a w' D' E'∧a8 w' D' E' r v:=by
 obtain ⟨D1,E1,hs1,hw⟩:=ab.Db ns ho;have hu:eE (aw ts (nx ns os0)) (aw ts os0):=fun n x hx=>by
  simp only[aw,p7] at hx ⊢;split at hx
  ·exact hx
  ·cases hx
 have hrv:=mw (E':=cP) ab hu hw avs cargs vs (l6 _ _ hv (rn hc)) hc;refine (h.2 w _ vs ab.xW hs1.aU hrv).mono fun e w' ⟨v,D',he,J,U,af,ar⟩=>⟨v,fun b o=>D1 b o∨(w.heap.size≤b∧D' b o),E1,he,?_,?_⟩
 ·refine hs1.grow U (fun _ _ ah=>.inl ah) ?_ ?_
  ·rintro b o (ah | ⟨hle,_⟩) hlt
   ·exact ah
   ·omega
  ·rintro b o (ah | ⟨_,ah⟩)
   ·exact Nat.lt_of_lt_of_le (hs1.aU b o ah) U.size
   ·exact af b o ah
 ·refine a8.later (E:=cP) ⟨fun b o ah =>?_,fun _ _ _ _ h=>h,fun n b bg hn=>by simp[cP] at hn,fun n aK l hn=>by simp[cP] at hn,fun n b hn=>by simp[cP] at hn,fun n b hn=>by simp[cP] at hn,fun _ _ _ _ h=>h⟩ J;rcases Nat.lt_or_ge b w.heap.size with hlt | hge
  ·exact .inl (ar b o ah hlt)
  ·exact .inr ⟨hge,ah⟩
theorem wc{a:Act}{w:World}{D D1:aS}{E:bf}{ts:List (Nat×I)}{os0 os:List (Nat×aq)}{ρ:List (Nat×Nat)}{aP:Bool}{A0:ai}(ab:aX c (aw ts os0) a w D E)(hu:eE A0 (aw ts os0))(hD:∀ b o,D b o→D1 b o)(hw:iP aP A0 D E D1) :
  ∀ (avs cargs:List I) (vs:List Value),h1 aP A0 ρ os avs cargs→fQ (a8 w D E) avs vs→aH w D1 (aF ρ os E) cargs vs
 | [],[],vs,_,hv=>by cases hv;simp[aH]
 | [],_::_,_,h,_=>by simp[h1] at h
 |_::_,[],_,h,_=>by simp[h1] at h
 |x::xs,y::ys,vs,h,hv=>by
  cases hv with
  |cons hv hvs =>
  rename_i v vs;simp only[h1] at h;have ih:=wc ab hu hD hw xs ys vs h.2 hvs;have ao:ef w D (aF ρ os E) w D1 (aF ρ os E):=⟨hD,fun _ _ _ _ h=>h,fun _ _ _ h=>h,fun _ aK l h=>⟨aK,l,h,zz3 _,fun _=>rfl⟩,fun _ _ h=>h,fun _ _ h=>h,fun _ _ _ _ h=>h⟩
  have J:∃ cs,bC y v cs∧al w D1 (aF ρ os E) y cs:=by
   rcases h.1 with ⟨k1,k2,k3⟩ | k
   ·rw[k1] at hv;have U:=a8.later ao ((a8.bu (w:=w) (D:=D) (p:=ay os) (ρ:=bP ρ) (E:=aF ρ os E) (E':=E) (fun n hn=>by simp only[aF,hn,if_true]) k2).1 hv);cases y <;>simp only[a8] at U <;>first | (simp[I.bX] at k3;done) | exact U
   ·have U:aH w D E [x] [v]:=l6 [x] [v] (.cons hv .nil) (by
     intro z hz;simp only[zx1] at hz;subst hz;cases z <;>simp_all[br,I.bX])
    have af:=mw (E':=aF ρ os E) ab hu hw [x] [y] [v] U (by simp[cm,k]);simp only[aH] at af;obtain ⟨v',rest,cs,e,k1,k2,_⟩:=af;simp only[zw3] at e;obtain ⟨rfl,_⟩:=e;exact ⟨cs,k1,k2⟩
  obtain ⟨cs,k1,k2⟩:=J;simp only[aH];exact ⟨v,vs,cs,rfl,k1,k2,ih⟩
theorem eE.drop(ts:List (Nat×I))(ns:List Nat)(os0:List (Nat×aq)):eE (aw ts (e7 ns os0)) (aw ts os0):=fun n x hx=>by
 simp only[aw,oE] at hx ⊢;split at hx
 ·cases hx
 ·exact hx
theorem nY.use{run:Array Value→World→(Ending→World→Prop)→Prop}{since:World→aS→bf→Prop}{avs cargs:List I}{post:cL}{vs:List Value}{a:Act}{w:World}{D:aS}{E:bf}{ts:List (Nat×I)}{os0 os:List (Nat×aq)}{ρ:List (Nat×Nat)}
  (ab:aX c (aw ts os0) a w D E) (h:nY run since cargs os post) (aP:Bool) (hmono:∀ {vs w R R'},run vs w R→(∀ e w,R e w→R' e w)→run vs w R') (hsince:(aP=true→∀ D,since w D (aF ρ os E))∧(aP=false→since w (oX (aw ts os0) D E) (aF ρ os E)))
  (hg:gG ρ os os0) (ha:h1 aP (aw ts (e7 (jq ρ os) os0)) ρ os avs cargs) (hb:∀ r os',post r os'→gX aP ρ os os0 r os') (hv:fQ (a8 w D E) avs vs) :
  run vs.toArray w fun e w'=>∃ v r os' D2 E2,e=.returned v∧post r os'∧aX c (aw ts (dN ρ os'++os0)) a w' D2 E2∧a8 w' D2 E2 (r.bu (bP ρ)) v∧∀ m e,aF ρ os E m=some e→ay os' m=true→∃ e',E2 (bP ρ m)=some e'∧e.le e':=by
 have notName:∀ n,(jq ρ os).contains n=false→∀ m,ay os m=true→bP ρ m≠n:=fun n hn m hm he=>by
  obtain ⟨q,hq,rfl⟩:=xR.1 hm;have:(jq ρ os).contains n=true:=by simp only[jq,List.contains_iff_mem,zy9];exact ⟨q,hq,he⟩
  rw[this] at hn;cases hn
 have other:∀ {D:aS},aX c (aw ts os0) a w D E→∀ n e b x,ak (e7 (jq ρ os) os0) n=some x→E n=some e→e.aK=some b→¬ cN (aF ρ os E) b:=fun ab n e b x hx he hb ho=>by
  obtain ⟨m,e',J,U,hb',_⟩:=ab.tW hg ho;rw[oE] at hx;split at hx
  ·cases hx
  ·rename_i hc;have:=ab.cU n (bP ρ m) e _ b he U hb hb';exact notName n (by simpa using hc) m J this.symm
 cases aP with
 |true =>
  obtain ⟨D1,hD1⟩:∃ D1:aS,D1=fun b o=>D b o∨(b<w.heap.size∧¬ cN (aF ρ os E) b):=⟨_,rfl⟩
  have hD:∀ b o,D b o→D1 b o:=fun b o ah=>by rw[hD1];exact .inl ah
  have hw:iP true (aw ts (e7 (jq ρ os) os0)) D E D1:=by
   refine ⟨hD,fun n T sz es b cap hn aF o _ =>?_,fun _ n x b bg hn aF o _ =>?_,fun _ n ks vs b hn aF =>?_⟩
   ·rw[hD1];exact .inr ⟨ab.gw aF rfl,other ab n _ b _ hn aF rfl⟩
   ·rw[hD1];exact .inr ⟨ab.gw aF rfl,other ab n _ b _ hn aF rfl⟩
   ·rw[hD1];exact .inr ⟨ab.gw aF rfl,other ab n _ b _ hn aF rfl⟩
  have hrv:=wc ab (eE.drop ts _ os0) hD hw avs cargs vs ha hv;refine hmono (h w D1 (aF ρ os E) vs (hsince.1 rfl _) (fun b o ah=>by
   rw[hD1] at ah;rcases ah with ah | ah
   ·exact ab.aU b o ah
   ·exact ah.1) (ab.Eb hg hD fun b o ah ho=>by
    rw[hD1] at ah;rcases ah with ah | ah
    ·exact ah
    ·exact absurd ho ah.2) hrv) ?_
  rintro e w' ⟨v,D',E',r,os',he,hp,J,U,af,ar,h5,h6,h7,h8⟩;obtain ⟨D2,E2,k1,k2⟩:=ab.je hg hD (fun h=>by cases h) (hb r os' hp) J U af h5 ar h8 h6 h7;exact ⟨v,r,os',D2,E2,he,hp,k1,k2⟩
 |false =>
  obtain ⟨hs1,hw⟩:=ab.o5;have hw':iP false (aw ts (e7 (jq ρ os) os0)) D E (oX (aw ts os0) D E):=⟨hw.dh,fun n T sz es b cap hn aF o hlt=>hw.bV n T sz es b cap (eE.drop ts _ os0 n _ hn) aF o hlt,(fun hb=>by cases hb),fun hb=>by cases hb⟩
  have hrv:=wc ab (eE.drop ts _ os0) hw.dh hw' avs cargs vs ha hv;refine hmono (h w _ (aF ρ os E) vs (hsince.2 rfl) hs1.aU (hs1.Eb hg (fun _ _ h=>h) fun b o ah _=>ah) hrv) ?_;rintro e w' ⟨v,D',E',r,os',he,hp,J,U,af,ar,h5,h6,h7,h8⟩;obtain ⟨D2,E2,k1,k2⟩:=hs1.je hg (fun _ _ h=>h) (fun _ _ _ h=>h) (hb r os' hp) J U af h5 ar h8 h6 h7;exact ⟨v,r,os',D2,E2,he,hp,k1,k2⟩
theorem aX.since{A:ai}{a:Act}{w:World}{D:aS}{E E':bf}(h:aX c A a w D E)(aF:∀ n,E' n=E n∨E' n=none):As c w D E' :=
 ⟨h.dZ,h.cX,h.dh,fun n e hn=>by
  rcases aF n with k | k
  ·rw[k];exact h.ec n e hn
  ·exact .inl k,h.fO,h.rN.oD fun b ⟨n,e,J,U⟩=>by
   rcases aF n with k | k
   ·rw[k] at J;exact ⟨n,e,J,U⟩
   ·rw[k] at J;cases J⟩
theorem mz(c:cV)(f:FuncId):c.bB.fn f:=by unfold cV.bB;split <;>trivial
theorem wV(c:cV):c.bB.depth.isSome=true→1≤9:=fun _=>by omega
theorem lB{a:Act}{w:World} : ∀ f,o.about c.P w a.eval=some f→c.bB.fn f:=fun f _=>mz c f
theorem l7{g:bW}(hg:dv c.P o=some g)(r:Option Nat)(ρ:Operand→Value):o.semAt r ρ=execOp ρ o:=by
 cases r with
 |none=>rfl
 |some l =>
  refine Oper.semAt_some l ρ o fun cl h =>?_;unfold dv at hg;rw[h] at hg;simp at hg
theorem B8{f:FuncId}{args:Array Value}{w:World}{R:Ending→World→Prop}(h:Calls c.P f args w R):CallsIn c.bB (9-1) c.P f args w R:=by
 have J:CallsIn Fence.wide (9-1) c.P f args w R:=callsIn_wide.2 h;unfold cV.bB;split
 ·exact J
 ·exact J
theorem ta.mono{P:Program}{v:Value}{vs:Array Value}{w:World}{R R':Ending→World→Prop}(h:ta P v vs w R)(hr:∀ e w,R e w→R' e w):ta P v vs w R':=by
 obtain ⟨l,J,fn,tmps,assign,body,U,af⟩:=h;exact ⟨l,J,fn,tmps,assign,body,U,af.mono hr⟩
theorem adA{l:Nat}{f:FuncId}{tmps:Array Value}{assign body:Code}{w:World}{R:Ending→World→Prop}(h:RoundIn Fence.wide 9 c.P l f tmps assign body w R):RoundIn c.bB (9-1) c.P l f tmps assign body w R:=by
 have J:RoundIn Fence.wide (9-1) c.P l f tmps assign body w R:=⟨h.1,fun cc cs _=>h.2 cc cs (room_wide _)⟩
 unfold cV.bB;split
 ·exact J
 ·exact J
theorem iO.wp{B:ai}{g:bW}(hg:dv c.P o=some g)(h:iO c A o B){a:Act}{w:World}{K:Act→World→Prop}{Q:Exit→Act→World→Prop}(ab:cd c A a w)(hK:∀ a w,cd c B a w→K a w):o.wpIn c.bB 9 c.P a w K Q:=by
 obtain ⟨D,E,ab⟩:=ab;obtain ⟨w',h⟩:=h a w D E ab;refine ⟨lB,?_⟩;rw[l7 hg];rcases h with ⟨v,J,U⟩ | ⟨J,U⟩
 ·rw[J];exact hK _ _ U
 ·rw[J];exact hK _ _ U
theorem wH{dr:Bool}{K:ai→Prop}{f:FuncId}{avs:List I}{a1 a2:Option (List I)}{vs:List Value}{dst:Option Nat}{rest:List aJ}{a:Act}{w:World}{Kw:Act→World→Prop}{Q:Exit→Act→World→Prop}{g:bW}(hg:dv c.P o=some g)(J:cm true A avs=a1)(U:cm false A avs=a2)
  (ab:∀ D E,aX c A a w D E→fQ (a8 w D E) avs vs) (hsim:cd c A a w) (hwp:aV c.P c.Y dr K (.call f avs a1 a2 dst rest A)) (ah:o.dst=dst) (hdn:∀ k,dst=some k→k<c.n)
  (hrun:fy c.P f=true→(execOp a.eval o).run c.P w=.ok (.enter f vs.toArray) w)
  (hK:∀ B a' w',aV c.P c.Y dr K (aE rest B)→cd c B a' w'→Kw a' w'):o.wpIn c.bB 9 c.P a w Kw Q:=by
 obtain ⟨D,E,hsw⟩:=hsim;have pf:∀ {R:Ending→World→Prop},fy c.P f=true→Calls c.P f vs.toArray w R→(∀ e w',R e w'→∃ v,e=.returned v∧Kw (a.put o.dst v) w')→o.wpIn c.bB 9 c.P a w Kw Q:=fun {R} hc hcl hR=>by
  refine ⟨lB,?_⟩;rw[l7 hg,hrun hc,Oper.uponIn_enter];refine ⟨wV c,B8 (hcl.mono fun e w' he =>?_)⟩;obtain ⟨v,rfl,hv⟩:=hR e w' he;exact hv
 cases hwp with
 |flat r hspec hflat hrest =>
  refine pf hspec.1 (hspec.aem hsw hflat J (ab D E hsw)) ?_;rintro e w' ⟨v,D',he,hs',hv⟩;refine ⟨v,he,?_⟩;rw[ah];exact hK _ _ _ hrest ⟨D',E,hs'.aW hdn hv⟩
 |lead r hspec hrest =>
  refine pf hspec.1 (hspec.aeo hsw U (ab D E hsw)) ?_;rintro e w' ⟨v,D',he,hs',hv⟩;refine ⟨v,he,?_⟩;rw[ah];exact hK _ _ _ hrest ⟨D',E,hs'.aW hdn hv⟩
 |km ns r hdr hspec hf ho hrest =>
  refine pf hspec.1 (hspec.aen hsw ns ho hf (ab D E hsw)) ?_;rintro e w' ⟨v,D',E',he,hs',hv⟩;refine ⟨v,he,?_⟩;rw[ah];exact hK _ _ _ hrest ⟨D',E',hs'.aW hdn hv⟩
 |bU aP ρ os cargs post hdr hspec hgv ha hb hrest =>
  refine pf hspec.1 (hspec.2.use hsw aP (fun h=>h.mono) ⟨fun _ _=>hsw.p0,fun _=>hsw.p0⟩ hgv ha hb (ab D E hsw)) ?_;rintro e w' ⟨v,r,os',D2,E2,he,hp,hs',hv,_⟩;refine ⟨v,he,?_⟩;rw[ah];exact hK _ _ _ (hrest r os' hp) ⟨D2,E2,hs'.aW hdn hv⟩
theorem LK{dr:Bool}{K:ai→Prop}{v:Value}{avs:List I}{vs:List Value}{dst:Option Nat}{rest:List aJ}{a:Act}{w:World}{Kw:Act→World→Prop}{Q:Exit→Act→World→Prop}{g:bW}(hg:dv c.P o=some g)
  (ab:∀ D E,aX c A a w D E→fQ (a8 w D E) avs vs) (hsim:cd c A a w) (hwp:aV c.P c.Y dr K (.lG v avs dst rest A)) (ah:o.dst=dst) (hdn:∀ k,dst=some k→k<c.n)
  (hrun:∀ l,v=.func (.yield l) #[] #[]→(execOp a.eval o).run c.P w=(Instr.yield l vs.toArray).run c.P w)
  (hK:∀ B a' w',aV c.P c.Y dr K (aE rest B)→cd c B a' w'→Kw a' w'):o.wpIn c.bB 9 c.P a w Kw Q:=by
 obtain ⟨D,E,hsw⟩:=hsim;cases hwp with
 |vz os cargs post hdr hY hgv ha hb hrest =>
  have hyr:=(hsw.fp.2 _ _ _ _ hY).use (ρ:=[]) hsw false (fun h=>h.mono) ⟨(fun h=>by cases h),fun _=>hsw.o5.1.since (fun n=>by simp only[aF,bP];split <;>simp)⟩ hgv ha hb (ab D E hsw);obtain ⟨l,rfl,fn,tmps,assign,body,U,af⟩:=hyr;refine ⟨lB,?_⟩;rw[l7 hg,hrun l rfl,U,Oper.uponIn_round];refine ⟨wV c,adA (af.mono fun e w' he =>?_)⟩;obtain ⟨v,r,os',D2,E2,rfl,hp,hs',hv,_⟩:=he;rw[ah];exact hK _ _ _ (hrest r os' hp) ⟨D2,E2,hs'.aW hdn hv⟩
end
section
variable {c:cV} {A:ai} {o:Oper}
theorem og{P:Program}{n:Nat}{aY:Array Oper}{g:aJ}(h:mi P n aY o=some g):dv P o=some g.op∧g.dst=o.dst∧(∀ k,o.dst=some k→k<n) ∧
  ((o.guard=none∧g.guard=none)∨∃ j b t,o.guard=some (j,b)∧(aY[j]?).bind (·.dst)=some t∧g.guard=some (t,b)):=by
 unfold mi at h;split at h
 ·cases h
 rename_i g' hg';split at h
 case isFalse=>cases h
 rename_i ah;have hdst:∀ k,o.dst=some k→k<n:=by
  intro k hk;rw[hk] at ah;simpa[CJ] using ah
 split at h
 ·rename_i hgd;simp only[v6] at h;subst h;exact ⟨hg',rfl,hdst,.inl ⟨hgd,rfl⟩⟩
 ·rename_i j b hgd;split at h
  ·rename_i t ht;simp only[v6] at h;subst h;exact ⟨hg',rfl,hdst,.inr ⟨j,b,t,hgd,ht,rfl⟩⟩
  ·cases h
theorem DS{dr:Bool}{K:ai→Prop}{op:bW}{dst:Option Nat}{rest:List aJ}{a:Act}{w:World}{Kw:Act→World→Prop}{Q:Exit→Act→World→Prop}(hop:dv c.P o=some op)(ah:o.dst=dst)(hdn:∀ k,dst=some k→k<c.n)
  (hsim:cd c A a w) (hK:∀ B a' w',aV c.P c.Y dr K (aE rest B)→cd c B a' w'→Kw a' w') (h:aV c.P c.Y dr K (cT (bo A op) fun v=>aE rest (A.aW dst v))):o.wpIn c.bB 9 c.P a w Kw Q:=by
 cases hv:bo A op with
 |some v =>
  rw[hv] at h;exact ((FM hop hv).does (by rw[ah];exact hdn)).wp hop hsim (fun a' w' ab=>by rw[ah] at ab;exact hK _ a' w' h ab)
 |none=>rw[hv] at h;cases h
theorem Zm{dr:Bool}{K:ai→Prop}{dst:Option Nat}{rest:List aJ}{a:Act}{w:World}{Kw:Act→World→Prop}{Q:Exit→Act→World→Prop}{z:I}(hop:dv c.P o=some (.alloc z))(ah:o.dst=dst)(hdn:∀ k,dst=some k→k<c.n)
  (hwp:aV c.P c.Y dr K (bt A dst (.alloc z) rest (aE rest))) (hsim:cd c A a w) (hK:∀ B a' w',aV c.P c.Y dr K (aE rest B)→cd c B a' w'→Kw a' w'):o.wpIn c.bB 9 c.P a w Kw Q:=by
 have hop0:=hop;simp only[bt] at hwp;split at hwp
 case h_2=>cases hwp
 rename_i d;split at hwp
 case h_2=>cases hwp
 rename_i hf;unfold dv at hop;split at hop <;>try (first | (simp at hop;done) | ((repeat' split at hop) <;>simp at hop;done))
 rename_i t ho;simp only[t8,bW.alloc.injEq] at hop;obtain ⟨z',hz,rfl⟩:=hop;exact (O4 ho hz ah (hdn d rfl) hf).wp hop0 hsim (fun a' w' ab=>hK _ a' w' hwp ab)
theorem Zp{dr:Bool}{K:ai→Prop}{dst:Option Nat}{rest:List aJ}{a:Act}{w:World}{Kw:Act→World→Prop}{Q:Exit→Act→World→Prop}{x:aM}(hop:dv c.P o=some (.box x))(ah:o.dst=dst)(hdn:∀ k,dst=some k→k<c.n)
  (hwp:aV c.P c.Y dr K (bt A dst (.box x) rest (aE rest))) (hsim:cd c A a w) (hK:∀ B a' w',aV c.P c.Y dr K (aE rest B)→cd c B a' w'→Kw a' w'):o.wpIn c.bB 9 c.P a w Kw Q:=by
 have hop0:=hop;simp only[bt] at hwp;split at hwp
 case h_2=>cases hwp
 rename_i d;split at hwp
 case h_2=>cases hwp
 rename_i hf;split at hwp
 case isFalse=>cases hwp
 rename_i hv;unfold dv at hop;split at hop <;>try (first | (simp at hop;done) | ((repeat' split at hop) <;>simp at hop;done))
 rename_i t y ho;simp only[t8,bW.box.injEq] at hop;obtain ⟨z',hz,rfl⟩:=hop;exact (O9 ho hz hv ah (hdn d rfl) hf).wp hop0 hsim (fun a' w' ab=>hK _ a' w' hwp ab)
theorem ZB{dr:Bool}{K:ai→Prop}{dst:Option Nat}{rest:List aJ}{a:Act}{w:World}{Kw:Act→World→Prop}{Q:Exit→Act→World→Prop}{s:Option Nat}{x v:aM}(hop:dv c.P o=some (.bh s x v))(ah:o.dst=dst)(hdn:∀ k,dst=some k→k<c.n)
  (hwp:aV c.P c.Y dr K (bt A dst (.bh s x v) rest (aE rest))) (hsim:cd c A a w) (hK:∀ B a' w',aV c.P c.Y dr K (aE rest B)→cd c B a' w'→Kw a' w'):o.wpIn c.bB 9 c.P a w Kw Q:=by
 have hop0:=hop;simp only[bt] at hwp;split at hwp
 case h_2=>cases hwp
 split at hwp
 case h_2=>cases hwp
 rename_i n p hp;split at hwp
 case h_2=>cases hwp
 rename_i b hb;split at hwp
 case h_2=>cases hwp
 rename_i old hat;split at hwp
 case isFalse=>cases hwp
 rename_i hok;unfold dv at hop;split at hop <;>try (first | (simp at hop;done) | ((repeat' split at hop) <;>simp at hop;done))
 rename_i t y z ho;split at hop
 case h_2=>cases hop
 rename_i s' x' v' J U af;split at hop
 case isFalse=>cases hop
 rename_i hk;simp only[v6,bW.bh.injEq] at hop;obtain ⟨rfl,rfl,rfl⟩:=hop;exact (Pg ho J hk U af hp hb hat hok.1 hok.2.1 hok.2.2 ah).wp hop0 hsim (fun a' w' ab=>hK _ a' w' hwp ab)
theorem Zq{dr:Bool}{K:ai→Prop}{dst:Option Nat}{rest:List aJ}{a:Act}{w:World}{Kw:Act→World→Prop}{Q:Exit→Act→World→Prop}{f:FuncId}{args:List aM}(hop:dv c.P o=some (.call f args))(ah:o.dst=dst)(hdn:∀ k,dst=some k→k<c.n)
  (hwp:aV c.P c.Y dr K (bt A dst (.call f args) rest (aE rest))) (hsim:cd c A a w) (hK:∀ B a' w',aV c.P c.Y dr K (aE rest B)→cd c B a' w'→Kw a' w'):o.wpIn c.bB 9 c.P a w Kw Q:=by
 have hop0:=hop;simp only[bt] at hwp;unfold dv at hop;split at hop <;>try (first | (simp at hop;done) | ((repeat' split at hop) <;>simp at hop;done))
 rename_i f' xs ts ho;split at hop
 case isFalse=>simp at hop
 simp only[t8,bW.call.injEq] at hop;obtain ⟨ys,hys,rfl,rfl⟩:=hop;refine wH (vs:=xs.toList.map a.eval) hop0 rfl rfl (fun D E ab=>lE ab xs.toList ts.toList ys hys) hsim hwp ah hdn (fun hc =>?_) hK;have e:xs.map a.eval=(xs.toList.map a.eval).toArray:=by apply Array.ext';simp
 simp only[execOp,ho,resolve,Act.eval,Deferred.ofValue,Sem.run_bind,Sem.run_pure,Result.andThen_ok,invoke,Array.append_empty,Array.empty_append,nO hc];rw[←e]
theorem ZC{dr:Bool}{K:ai→Prop}{dst:Option Nat}{rest:List aJ}{a:Act}{w:World}{Kw:Act→World→Prop}{Q:Exit→Act→World→Prop}{f:FuncId}{args:List aM}(hop:dv c.P o=some (.kJ f args))(ah:o.dst=dst)(hdn:∀ k,dst=some k→k<c.n)
  (hwp:aV c.P c.Y dr K (bt A dst (.kJ f args) rest (aE rest))) (hsim:cd c A a w) (hK:∀ B a' w',aV c.P c.Y dr K (aE rest B)→cd c B a' w'→Kw a' w'):o.wpIn c.bB 9 c.P a w Kw Q:=by
 have hop0:=hop;simp only[bt] at hwp;unfold dv at hop;split at hop <;>try (first | (simp at hop;done) | ((repeat' split at hop) <;>simp at hop;done))
 rename_i f' xs ts ho;split at hop
 case isTrue=>simp at hop
 simp only[t8,bW.kJ.injEq] at hop;obtain ⟨ys,hys,rfl,rfl⟩:=hop;obtain ⟨D,E,ab⟩:=hsim;cases hwp with
 |ext r hdr hx hw =>
  obtain ⟨v,g1,g2⟩:=hx c a w D E (xs.toList.map a.eval) rfl ab (lE ab xs.toList ts.toList ys hys);have e:xs.map a.eval=(xs.toList.map a.eval).toArray:=by apply Array.ext';simp
  have hrun:(execOp a.eval o).run c.P w=.ok (.value v) w:=by
   simp only[execOp,ho,resolve,Act.eval,Deferred.ofValue,Sem.run_bind,Sem.run_pure,Result.andThen_ok,invoke,Array.append_empty,Array.empty_append];rw[←e] at g1;exact g1
  refine ⟨lB,?_⟩;rw[l7 hop0,hrun,Oper.uponIn_value];exact hK _ _ _ hw ⟨D,E,by rw[ah];exact ab.aW hdn g2⟩
theorem Zv{dr:Bool}{K:ai→Prop}{dst:Option Nat}{rest:List aJ}{a:Act}{w:World}{Kw:Act→World→Prop}{Q:Exit→Act→World→Prop} (hop:dv c.P o=some (.jo))(ah:o.dst=dst)(hdn:∀ k,dst=some k→k<c.n)
  (hwp:aV c.P c.Y dr K (bt A dst (.jo) rest (aE rest))) (hsim:cd c A a w) (hK:∀ B a' w',aV c.P c.Y dr K (aE rest B)→cd c B a' w'→Kw a' w'):o.wpIn c.bB 9 c.P a w Kw Q:=by
 have hop0:=hop;simp only[bt] at hwp;split at hwp
 case h_2=>cases hwp
 rename_i d;split at hwp
 case h_2=>cases hwp
 rename_i hf;unfold dv at hop;split at hop <;>try (first | (simp at hop;done) | ((repeat' split at hop) <;>simp at hop;done))
 rename_i t ho;exact (Pd ho ah (hdn d rfl) hf).wp hop0 hsim (fun a' w' ab=>hK _ a' w' hwp ab)
theorem Zw{dr:Bool}{K:ai→Prop}{dst:Option Nat}{rest:List aJ}{a:Act}{w:World}{Kw:Act→World→Prop}{Q:Exit→Act→World→Prop}{e:TypeId}{bytes:Nat}{z:I}{n:aM}(hop:dv c.P o=some (.kV e bytes z n))(ah:o.dst=dst)(hdn:∀ k,dst=some k→k<c.n)
  (hwp:aV c.P c.Y dr K (bt A dst (.kV e bytes z n) rest (aE rest))) (hsim:cd c A a w) (hK:∀ B a' w',aV c.P c.Y dr K (aE rest B)→cd c B a' w'→Kw a' w'):o.wpIn c.bB 9 c.P a w Kw Q:=by
 have hop0:=hop;simp only[bt] at hwp;split at hwp
 case h_2=>cases hwp
 rename_i d;split at hwp
 case h_2=>cases hwp
 rename_i hf;split at hwp
 case h_2=>cases hwp
 rename_i k m hn;split at hwp
 case isFalse=>cases hwp
 rename_i hc;unfold dv at hop;split at hop <;>try (first | (simp at hop;done) | ((repeat' split at hop) <;>simp at hop;done))
 rename_i t l l' ho;split at hop
 case h_2=>cases hop
 rename_i e' n' hu ao;split at hop
 case h_2=>cases hop
 rename_i z' hz;split at hop
 case isFalse=>cases hop
 rename_i hc2;simp only[v6,bW.kV.injEq] at hop;obtain ⟨rfl,rfl,rfl,rfl⟩:=hop;obtain ⟨j,rfl⟩:=zx9 hc.1;simp only[Int.toNat_natCast] at hc hwp;exact (Pe ho (adH hc2.1) hu ao hn hz hc2.2.1 hc2.2.2 hc.2.1 hc.2.2 ah (hdn d rfl) hf).wp hop0 hsim (fun a' w' ab=>hK _ a' w' hwp ab)
theorem Zx{dr:Bool}{K:ai→Prop}{dst:Option Nat}{rest:List aJ}{a:Act}{w:World}{Kw:Act→World→Prop}{Q:Exit→Act→World→Prop}{ty:cK}{m k v:aM}(hop:dv c.P o=some (.fj ty m k v))(ah:o.dst=dst)(hdn:∀ k,dst=some k→k<c.n)
  (hwp:aV c.P c.Y dr K (bt A dst (.fj ty m k v) rest (aE rest))) (hsim:cd c A a w) (hK:∀ B a' w',aV c.P c.Y dr K (aE rest B)→cd c B a' w'→Kw a' w'):o.wpIn c.bB 9 c.P a w Kw Q:=by
 have hop0:=hop;simp only[bt] at hwp;split at hwp
 case h_2=>cases hwp
 split at hwp
 case h_2=>cases hwp
 rename_i n hm;split at hwp
 case h_2=>cases hwp
 rename_i ks vs hn;split at hwp
 case h_2=>cases hwp
 rename_i ks' vs' ao;unfold dv at hop;split at hop <;>try (first | (simp at hop;done) | ((repeat' split at hop) <;>simp at hop;done))
 all_goals
  rename_i t mo ko vo ho;split at hop
  case h_2=>cases hop
  rename_i kt et m' k' hu J U;split at hop
  case h_2=>cases hop
  rename_i ty' v' hk af;simp only[v6,bW.fj.injEq] at hop;obtain ⟨rfl,rfl,rfl,rfl⟩:=hop
 ·exact (CG (.inl ho) hu hk J U af hm hn ao ah).wp hop0 hsim (fun a' w' ab=>hK _ a' w' hwp ab)
 ·exact (CG (.inr ho) hu hk J U af hm hn ao ah).wp hop0 hsim (fun a' w' ab=>hK _ a' w' hwp ab)
theorem Zu{dr:Bool}{K:ai→Prop}{dst:Option Nat}{rest:List aJ}{a:Act}{w:World}{Kw:Act→World→Prop}{Q:Exit→Act→World→Prop}{ty:cK}{m k:aM}(hop:dv c.P o=some (.jn ty m k))(ah:o.dst=dst)(hdn:∀ k,dst=some k→k<c.n)
  (hwp:aV c.P c.Y dr K (bt A dst (.jn ty m k) rest (aE rest))) (hsim:cd c A a w) (hK:∀ B a' w',aV c.P c.Y dr K (aE rest B)→cd c B a' w'→Kw a' w'):o.wpIn c.bB 9 c.P a w Kw Q:=by
 have hop0:=hop;simp only[bt] at hwp;split at hwp
 case h_2=>cases hwp
 split at hwp
 case h_2=>cases hwp
 rename_i n hm;split at hwp
 case h_2=>cases hwp
 rename_i ks vs hn;split at hwp
 case h_2=>cases hwp
 rename_i ks' vs' ao;unfold dv at hop;split at hop <;>try (first | (simp at hop;done) | ((repeat' split at hop) <;>simp at hop;done))
 rename_i args tys ho;split at hop
 case h_2=>cases hop
 rename_i mo ko t t' ha ht;split at hop
 case h_2=>cases hop
 rename_i kt et m' k' hu J U;simp only[t8,bW.jn.injEq] at hop;obtain ⟨ty',hk,rfl,rfl,rfl⟩:=hop;have ha':args = #[mo,ko]:=by apply Array.ext';simpa using ha
 have ht':tys = #[t,t']:=by apply Array.ext';simpa using ht
 subst ha' ht';exact (Pc ho hu hk J U hm hn ao ah).wp hop0 hsim (fun a' w' ab=>hK _ a' w' hwp ab)
theorem ZA{dr:Bool}{K:ai→Prop}{dst:Option Nat}{rest:List aJ}{a:Act}{w:World}{Kw:Act→World→Prop}{Q:Exit→Act→World→Prop}{x:aM}(hop:dv c.P o=some (.j9 x))(ah:o.dst=dst)(hdn:∀ k,dst=some k→k<c.n)
  (hwp:aV c.P c.Y dr K (bt A dst (.j9 x) rest (aE rest))) (hsim:cd c A a w) (hK:∀ B a' w',aV c.P c.Y dr K (aE rest B)→cd c B a' w'→Kw a' w'):o.wpIn c.bB 9 c.P a w Kw Q:=by
 have hop0:=hop;simp only[bt] at hwp;split at hwp
 case h_2=>cases hwp
 rename_i d;split at hwp
 case h_2=>cases hwp
 rename_i hf;split at hwp
 case h_2=>cases hwp
 rename_i ks vs hx;unfold dv at hop;split at hop <;>try (first | (simp at hop;done) | ((repeat' split at hop) <;>simp at hop;done))
 rename_i t y ho;split at hop
 case h_2=>cases hop
 rename_i kt et hu;simp only[t8,bW.j9.injEq] at hop;obtain ⟨z,hz,rfl⟩:=hop;exact (Pf ho hu hz hx ah (hdn d rfl) hf).wp hop0 hsim (fun a' w' ab=>hK _ a' w' hwp ab)
theorem Zz{dr:Bool}{K:ai→Prop}{dst:Option Nat}{rest:List aJ}{a:Act}{w:World}{Kw:Act→World→Prop}{Q:Exit→Act→World→Prop}{x:aM}(hop:dv c.P o=some (.iW x))(ah:o.dst=dst)(hdn:∀ k,dst=some k→k<c.n)
  (hwp:aV c.P c.Y dr K (bt A dst (.iW x) rest (aE rest))) (hsim:cd c A a w) (hK:∀ B a' w',aV c.P c.Y dr K (aE rest B)→cd c B a' w'→Kw a' w'):o.wpIn c.bB 9 c.P a w Kw Q:=by
 have hop0:=hop;simp only[bt] at hwp;split at hwp
 case h_2=>cases hwp
 rename_i n hx;split at hwp
 case h_2=>cases hwp
 rename_i ks vs left cur hn;unfold dv at hop;split at hop <;>try (first | (simp at hop;done) | ((repeat' split at hop) <;>simp at hop;done))
 rename_i y ho;simp only[t8,bW.iW.injEq] at hop;obtain ⟨z,hz,rfl⟩:=hop;obtain ⟨D,E,ab⟩:=hsim;obtain ⟨w',v,hrun,hor⟩:=abw ho hz hx hn (by rw[ah];exact hdn) ab;refine ⟨lB,?_⟩;rw[l7 hop0,hrun,Oper.uponIn_value];rw[ah] at hor;split at hwp
 ·rename_i ao;rcases hor with ⟨_,hor⟩ | ⟨i,k,x,hi,_⟩
  ·exact hK _ _ _ hwp (by rw[ah];exact hor)
  ·rw[ao] at hi;cases hi
 ·rename_i ao;rcases hor with ⟨h,_⟩ | ⟨i,k,x,hi,hk,hx,hor⟩
  ·exact absurd h ao
  ·cases hwp with
   |any hdr hall =>
    have:=hall i hi;simp only[hk,hx] at this;exact hK _ _ _ this (by rw[ah];exact hor)
theorem Zr{dr:Bool}{K:ai→Prop}{dst:Option Nat}{rest:List aJ}{a:Act}{w:World}{Kw:Act→World→Prop}{Q:Exit→Act→World→Prop}{x:aM}{args:List aM}(hop:dv c.P o=some (.gi x args))(ah:o.dst=dst)(hdn:∀ k,dst=some k→k<c.n)
  (hwp:aV c.P c.Y dr K (bt A dst (.gi x args) rest (aE rest))) (hsim:cd c A a w) (hK:∀ B a' w',aV c.P c.Y dr K (aE rest B)→cd c B a' w'→Kw a' w'):o.wpIn c.bB 9 c.P a w Kw Q:=by
 have hop0:=hop;simp only[bt] at hwp;unfold dv at hop;split at hop <;>try (first | (simp at hop;done) | ((repeat' split at hop) <;>simp at hop;done))
 rename_i y xs ts _ ho;split at hop
 case h_2=>cases hop
 rename_i y' ys J U;simp only[v6,bW.gi.injEq] at hop;obtain ⟨rfl,rfl⟩:=hop;obtain ⟨D,E,ab⟩:=hsim;have hv:=bS ab J;split at hwp
 ·rename_i f caps hx;rw[hx] at hv;obtain ⟨cs,q1,q2⟩:=hv;simp only[al] at q2;obtain ⟨vs,q3,q4⟩:=q2;have hval:a.eval y=jY f vs:=by simpa[bC,I.isAgg,q3] using q1.symm
  have caps_ok:∀ D' E',aX c A a w D' E'→fQ (a8 w D' E') caps vs:=fun D' E' hs'=>by
   have hv':=bS hs' J;rw[hx] at hv';obtain ⟨cs',q1',q2'⟩:=hv';simp only[al] at q2';obtain ⟨vs',q3',q4'⟩:=q2';have hval':a.eval y=jY f vs':=by simpa[bC,I.isAgg,q3'] using q1'.symm
   rw[hval] at hval';have:=P8 hval';subst this;exact sv q4'
  have e:xs.map a.eval=(xs.toList.map a.eval).toArray:=by apply Array.ext';simp
  rcases Nat.lt_or_ge f 1000000 with hf | hf
  ·rw[xj hf,xi hf] at hwp;rw[nr hf] at hval;refine wH (vs:=xs.toList.map a.eval++vs) hop0 rfl rfl (fun D' E' hs'=>(lE hs' xs.toList ts.toList ys U).append (caps_ok D' E' hs')) ⟨D,E,ab⟩ hwp ah hdn (fun hc =>?_) hK;simp only[execOp,ho,resolve,hval,Deferred.ofValue,Sem.run_bind,Sem.run_pure,Result.andThen_ok,invoke,Array.empty_append,nO hc];rw[e];simp
  ·obtain ⟨g,rfl⟩:∃ g:Nat,f=g+1000000:=⟨Nat.sub f 1000000,(Nat.sub_add_cancel hf).symm⟩
   rw[tK,xh] at hwp;rw[rp] at hval;refine wH (vs:=vs++xs.toList.map a.eval) hop0 rfl rfl (fun D' E' hs'=>(caps_ok D' E' hs').append (lE hs' xs.toList ts.toList ys U)) ⟨D,E,ab⟩ hwp ah hdn (fun hc =>?_) hK;simp only[execOp,ho,resolve,hval,Deferred.ofValue,Sem.run_bind,Sem.run_pure,Result.andThen_ok,invoke,Array.append_empty,nO hc];rw[e];simp
 ·rename_i u hx;rw[hx] at hv;obtain ⟨cs,q1,q2⟩:=hv;simp only[al] at q2;have hval:a.eval y=u:=by simpa[bC,I.isAgg,q2.1] using q1.symm
  refine LK (vs:=xs.toList.map a.eval) hop0 (fun D' E' hs'=>lE hs' xs.toList ts.toList ys U) ⟨D,E,ab⟩ hwp ah hdn (fun l ao =>?_) hK;subst ao;have e:xs.map a.eval=(xs.toList.map a.eval).toArray:=by apply Array.ext';simp
  simp only[execOp,ho,resolve,hval,Deferred.ofValue,Sem.run_bind,Sem.run_pure,Result.andThen_ok,invoke,Array.empty_append];rw[e]
 ·cases hwp
theorem Zy{dr:Bool}{K:ai→Prop}{dst:Option Nat}{rest:List aJ}{a:Act}{w:World}{Kw:Act→World→Prop}{Q:Exit→Act→World→Prop}{neg:Bool}{x:aM}(hop:dv c.P o=some (.nilS neg x))(ah:o.dst=dst)(hdn:∀ k,dst=some k→k<c.n)
  (hwp:aV c.P c.Y dr K (bt A dst (.nilS neg x) rest (aE rest))) (hsim:cd c A a w) (hK:∀ B a' w',aV c.P c.Y dr K (aE rest B)→cd c B a' w'→Kw a' w'):o.wpIn c.bB 9 c.P a w Kw Q:=by
 have hop0:=hop;simp only[bt] at hwp;split at hwp
 case isFalse=>exact DS hop ah hdn hsim hK hwp
 rename_i hu;cases hwp with
 |any hdr hall =>
 unfold dv at hop;split at hop <;>try (first | (simp at hop;done) | ((repeat' split at hop) <;>simp at hop;done))
 rename_i bop t y z yt ho;split at hop
 ·simp at hop
 ·simp at hop
 ·rename_i e y' z' hut J U;split at hop
  ·rename_i s;split at hop
   ·rename_i hopp;simp only[v6,bW.nilS.injEq] at hop;obtain ⟨rfl,rfl⟩:=hop;have ho':o.op=.binOp (if (bop==.neq)=true then .neq else .eql) t y z yt:=by
     rcases hopp with rfl | rfl <;>simpa using ho
    obtain ⟨D,E,ab⟩:=hsim;have hund:∃ sz,aj A y'=.slice sz []∨aj A y'=.c0 sz:=by
     generalize aj A y'=q at hu;cases q <;>simp only[kc,zz2,List.isEmpty_iff] at hu
     ·rename_i sz;exact ⟨sz,.inr rfl⟩
     ·rename_i sz es;subst hu;exact ⟨sz,.inl rfl⟩
    obtain ⟨b,hrun⟩:=abx ho' hut J U hund ab;refine ⟨lB,?_⟩;rw[l7 hop0,hrun,Oper.uponIn_value];have hb:=hall (if b then 0 else 1) (by cases b <;>simp);refine hK _ _ _ hb ⟨D,E,?_⟩;rw[ah];have e:((if b=true then (0:Nat) else 1)==0)=b:=by cases b <;>rfl
    rw[e];exact ab.aW hdn (mF b)
   ·cases hop
  ·cases hop
 ·split at hop <;>simp at hop
 ·(repeat' split at hop) <;>simp at hop
 ·split at hop <;>simp at hop
 ·cases hop
theorem Zn{dr:Bool}{K:ai→Prop}{dst:Option Nat}{rest:List aJ}{a:Act}{w:World}{Kw:Act→World→Prop}{Q:Exit→Act→World→Prop}{e:TypeId}{esz bytes:Nat}{z:I}{s x:aM}(hop:dv c.P o=some (.dk e esz bytes z s x))(ah:o.dst=dst)(hdn:∀ k,dst=some k→k<c.n)
  (hwp:aV c.P c.Y dr K (bt A dst (.dk e esz bytes z s x) rest (aE rest))) (hsim:cd c A a w) (hK:∀ B a' w',aV c.P c.Y dr K (aE rest B)→cd c B a' w'→Kw a' w'):o.wpIn c.bB 9 c.P a w Kw Q:=by
 have hop0:=hop;simp only[bt] at hwp;unfold dv at hop;split at hop <;>try (first | (simp at hop;done) | ((repeat' split at hop) <;>simp at hop;done))
 rename_i args tys ho;split at hop
 case h_2=>cases hop
 rename_i y q t t' ha ht;split at hop
 case h_2=>cases hop
 rename_i e' s' x' k1 k2 k3;split at hop
 case isFalse=>split at hop <;>simp at hop
 rename_i hk;simp only[t8,bW.dk.injEq] at hop;obtain ⟨zz,hz1,rfl,rfl,rfl,rfl,rfl,rfl⟩:=hop;obtain ⟨rfl,hk2,hk3⟩:=hk;have ha':args = #[y,q]:=by apply Array.ext';simpa using ha
 have ht':tys = #[t,t]:=by apply Array.ext';simpa using ht
 subst ha' ht';rw[hz1] at hk3;simp only[zz9,v6] at hk3;have hinfo:(c.P.info? e').isSome=true:=by
  obtain ⟨ti,_,hti,_⟩:=me hz1;rw[hti];rfl
 have grow:∀ es ys,dX A (c.P.cellsOf e') (aj A s')=some es→dX A (c.P.cellsOf e') (aj A x')=some ys→ys≠[]→(∀ a w D E,aX c A a w D E→∀ ad l cp,a.eval y=.slice ad l cp→cp<l+ys.length) →
   aV c.P c.Y dr K (gv A dst (c.P.cellsOf e') (c.P.bytesOf e') zz es ys (aE rest))→o.wpIn c.bB 9 c.P a w Kw Q:=fun es ys hse hsx hne hfull h=>by
  simp only[gv] at h;split at h
  case h_2=>cases h
  rename_i d;split at h
  case h_2=>cases h
  rename_i hf;split at h
  case isFalse=>cases h
  rename_i hb;cases h with
  |any hdr hall =>
   obtain ⟨D,E,ab⟩:=hsim;obtain ⟨v,w',m,g1,g2,g3⟩:=JY ho k1 k2 k3 hz1 hk3 hse hsx hb.1 ah (hdn d rfl) hf hne ab (hfull a w D E ab) hb.2;refine ⟨lB,?_⟩;rw[l7 hop0,g1,Oper.uponIn_value,ah];rw[ah] at g3;exact hK _ _ _ (hall m g2) g3
 split at hwp
 ·rename_i n l hs';split at hwp
  case h_2=>cases hwp
  rename_i sz ys hx';split at hwp
  case h_3=>cases hwp
  case h_2 =>
   rename_i T xs hn;split at hwp
   case isFalse=>cases hwp
   rename_i hok;obtain ⟨J,U,af,ar,h5,h6,h7,h8⟩:=hok;subst af ar;have hl5:ys.length=(rE ys).length:=(congrArg List.length h5).trans (by simp);rw[hl5] at h7 h8 hwp;rw[h5] at hx';have hd':=O6 (o:=o) ho k1 k2 k3 hz1 U hs' hn J hx' (fun e=>h6 (by rw[h5,e];rfl)) h7 h8 (by rw[ah];exact hdn);exact hd'.wp hop0 hsim (fun a' w' ab=>by rw[ah] at ab;exact hK _ a' w' hwp ab)
  rename_i T sz' es hn;split at hwp
  case isFalse=>cases hwp
  rename_i hok;obtain ⟨J,U,af,ar,h5,h6,h7⟩:=hok;subst U af ar;have hd':=O5 (o:=o) ho k1 k2 k3 hz1 hk3 hk2 hs' hn J hx' rfl h5 h6 h7 (by rw[ah];exact hdn);exact hd'.wp hop0 hsim (fun a' w' ab=>by rw[ah] at ab;exact hK _ a' w' hwp ab)
 ·simp only[fw] at hwp;split at hwp
  case h_2=>cases hwp
  rename_i es ys hse hsx;split at hwp
  ·rename_i hne;subst hne;exact ((O8 ho k1 hinfo k2 k3 hse hsx).does (by rw[ah];exact hdn)).wp hop0 hsim (fun a' w' ab=>by rw[ah] at ab;exact hK _ a' w' hwp ab)
  ·rename_i hne;have hpos:0<ys.length:=zv4.2 hne;split at hwp
   ·rename_i z0 hsv;refine grow es ys hse hsx hne (fun a w D E ab ad l cp hv =>?_) hwp;have aR:=bS ab k2;rw[hsv] at aR;obtain ⟨cs,q1,q2⟩:=aR;simp only[al] at q2;have:a.eval y=.slice none 0 0:=by simpa[bC,I.isAgg,q2] using q1.symm
    rw[this] at hv;simp only[Value.slice.injEq] at hv;omega
   ·rename_i z0 hsv;refine grow es ys hse hsx hne (fun a w D E ab ad l cp hv =>?_) hwp;have aR:=bS ab k2;rw[hsv] at aR;obtain ⟨cs,q1,q2⟩:=aR;simp only[al] at q2;obtain ⟨ad',q2⟩:=q2;have:a.eval y=.slice ad' 0 0:=by simpa[bC,I.isAgg,q2] using q1.symm
    rw[this] at hv;simp only[Value.slice.injEq] at hv;omega
   ·rename_i n p sz lo l hsv;split at hwp
    case h_2=>cases hwp
    rename_i b hn;split at hwp
    case h_2=>cases hwp
    rename_i fs hat;split at hwp
    ·rename_i hroom;split at hwp
     case isFalse=>cases hwp
     rename_i hok;obtain ⟨rfl,hsh⟩:=hok;exact (O7 ho k1 hinfo k2 k3 hsv hn hat hsx hroom hsh (by rw[ah];exact hdn)).wp hop0 hsim (fun a' w' ab=>by rw[ah] at ab;exact hK _ a' w' hwp ab)
    ·rename_i hroom;refine grow es ys hse hsx hne (fun a w D E ab ad l' cp hv =>?_) hwp;have aR:=bS ab k2;rw[hsv] at aR;obtain ⟨_,bb,cs,T,off,c1,c2,c3,_,_,_,_,_,_,_,_,_,_,r1,nK,uS⟩:=ab.view (fs:=fs) aR (by simp only[cM,hn,hat]);rw[uS] at hv;simp only[Value.slice.injEq] at hv;omega
   ·cases hwp
theorem Zo{dr:Bool}{K:ai→Prop}{dst:Option Nat}{rest:List aJ}{a:Act}{w:World}{Kw:Act→World→Prop}{Q:Exit→Act→World→Prop}{e:TypeId}{esz bytes:Nat}{z:I}{s n:aM}(hop:dv c.P o=some (.mg e esz bytes z s n))(ah:o.dst=dst)(hdn:∀ k,dst=some k→k<c.n)
  (hwp:aV c.P c.Y dr K (bt A dst (.mg e esz bytes z s n) rest (aE rest))) (hsim:cd c A a w) (hK:∀ B a' w',aV c.P c.Y dr K (aE rest B)→cd c B a' w'→Kw a' w'):o.wpIn c.bB 9 c.P a w Kw Q:=by
 have hop0:=hop;simp only[bt] at hwp;unfold dv at hop;split at hop <;>try (first | (simp at hop;done) | ((repeat' split at hop) <;>simp at hop;done))
 rename_i args tys ho;split at hop
 case h_2=>cases hop
 rename_i y q t t' ha ht;split at hop
 case h_2=>cases hop
 rename_i e' s' x' k1 k2 k3;split at hop
 case isTrue=>simp at hop
 split at hop
 case isFalse=>cases hop
 rename_i hk;simp only[t8,bW.mg.injEq] at hop;obtain ⟨zz,hz1,rfl,rfl,rfl,rfl,rfl,rfl⟩:=hop;obtain ⟨hint,hk2,hk3⟩:=hk;have ha':args = #[y,q]:=by apply Array.ext';simpa using ha
 have ht':tys = #[t,t']:=by apply Array.ext';simpa using ht
 subst ha' ht';rw[hz1] at hk3;simp only[zz9,v6] at hk3;obtain ⟨kt,hkt⟩:∃ kt,c.P.underlying t'=some (.int kt):=by
  cases hu:c.P.underlying t' with
  |none=>rw[hu] at hint;cases hint
  |some dsc=>cases dsc <;>rw[hu] at hint <;>first | exact ⟨_,rfl⟩ | cases hint
 split at hwp
 case h_2=>cases hwp
 rename_i kx bN hx';simp only[wb] at hwp;split at hwp
 case h_2=>cases hwp
 rename_i es hse;split at hwp
 case h_2=>cases hwp
 rename_i nn p sz lo l hsv;split at hwp
 case h_2=>cases hwp
 rename_i bb hn;split at hwp
 case h_2=>cases hwp
 rename_i fs hat;split at hwp
 case isFalse=>cases hwp
 rename_i hroom;simp only[gv] at hwp;split at hwp
 case h_2=>cases hwp
 rename_i d;split at hwp
 case h_2=>cases hwp
 rename_i hf;split at hwp
 case isFalse=>cases hwp
 rename_i hb;rw[List.length_replicate] at hb;cases hwp with
 |any hdr hall =>
  obtain ⟨D,E,ab⟩:=hsim;obtain ⟨v,w',m,g1,g2,g3⟩:=JZ ho k1 k2 k3 hkt hx' rfl hroom.1 hk2 hz1 hk3 hse hb.1 ah (hdn d rfl) hf ab (fun ad l' cp hv=>by
   have aR:=bS ab k2;rw[hsv] at aR;have hsv':=hse;obtain ⟨_,b1,cs,T,off,c1,c2,c3,_,_,_,_,_,_,_,_,_,_,r1,nK,uS⟩:=ab.view (fs:=fs) aR (by simp only[cM,hn,hat]);rw[uS] at hv;simp only[Value.slice.injEq] at hv;have hel:es.length=l:=by
    rw[hsv] at hse;simp only[dX,cM,hn,hat] at hse;split at hse
    ·simp only[v6] at hse;rw[←hse,zx2,zw9];omega
    ·cases hse
   omega) hb.2
  refine ⟨lB,?_⟩;rw[l7 hop0,g1,Oper.uponIn_value,ah];rw[ah] at g3;have:=hall m (by rw[List.length_replicate];exact g2);rw[List.length_replicate] at this;exact hK _ _ _ this g3
theorem Zs{dr:Bool}{K:ai→Prop}{dst:Option Nat}{rest:List aJ}{a:Act}{w:World}{Kw:Act→World→Prop}{Q:Exit→Act→World→Prop}{esz:Nat}{z:I}{x:aM}(hop:dv c.P o=some (.kj esz z x))(ah:o.dst=dst)(hdn:∀ k,dst=some k→k<c.n)
  (hwp:aV c.P c.Y dr K (bt A dst (.kj esz z x) rest (aE rest))) (hsim:cd c A a w) (hK:∀ B a' w',aV c.P c.Y dr K (aE rest B)→cd c B a' w'→Kw a' w'):o.wpIn c.bB 9 c.P a w Kw Q:=by
 have hop0:=hop;simp only[bt] at hwp;split at hwp
 case h_2=>cases hwp
 unfold dv at hop;split at hop <;>try (first | (simp at hop;done) | ((repeat' split at hop) <;>simp at hop;done))
 rename_i args tys ho;split at hop
 case h_2=>cases hop
 rename_i y t ha ht;split at hop
 case h_2=>cases hop
 rename_i e' x' k1 k2;simp only[t8,bW.kj.injEq] at hop;obtain ⟨zz,hz1,rfl,rfl,rfl⟩:=hop;have ha':args = #[y]:=by apply Array.ext';simpa using ha
 have ht':tys = #[t]:=by apply Array.ext';simpa using ht
 subst ha' ht';have nothing:aV c.P c.Y dr K (aE rest A)→(∀ a w D E,aX c A a w D E→∃ ad cp,a.eval y=.slice ad 0 cp)→o.wpIn c.bB 9 c.P a w Kw Q:=fun h hv=>by
  obtain ⟨D,E,ab⟩:=hsim;obtain ⟨ad,cp,hv⟩:=hv a w D E ab;refine ⟨lB,?_⟩;have hrun:(execOp a.eval o).run c.P w=.ok (.value (.tuple #[])) w:=by
   cases ad <;>simp[execOp,ho,resolve,invoke,builtin,Builtin.clear_,run_underlying k1,hv]
  rw[l7 hop0,hrun,Oper.uponIn_value,ah];exact hK _ _ _ h ⟨D,E,ab⟩
 unfold pF at hwp;split at hwp
 ·rename_i n p sz lo l hv;split at hwp
  case h_2=>cases hwp
  rename_i b hn;split at hwp
  case h_2=>cases hwp
  rename_i fs hat;split at hwp
  case isFalse=>cases hwp
  rename_i hok;obtain ⟨rfl,hsh⟩:=hok;exact (Pa ho k1 k2 hz1 hv hn hat hsh ah).wp hop0 hsim (fun a' w' ab=>hK _ a' w' hwp ab)
 ·rename_i z0 hv;refine nothing hwp fun a w D E ab =>?_;have aR:=bS ab k2;rw[hv] at aR;obtain ⟨cs,q1,q2⟩:=aR;simp only[al] at q2;exact ⟨none,0,by simpa[bC,I.isAgg,q2] using q1.symm⟩
 ·rename_i z0 hv;refine nothing hwp fun a w D E ab =>?_;have aR:=bS ab k2;rw[hv] at aR;obtain ⟨cs,q1,q2⟩:=aR;simp only[al] at q2;obtain ⟨ad,q2⟩:=q2;exact ⟨ad,0,by simpa[bC,I.isAgg,q2] using q1.symm⟩
 ·cases hwp
theorem Zt{dr:Bool}{K:ai→Prop}{dst:Option Nat}{rest:List aJ}{a:Act}{w:World}{Kw:Act→World→Prop}{Q:Exit→Act→World→Prop}{esz:Nat}{x y:aM}(hop:dv c.P o=some (.lK esz x y))(ah:o.dst=dst)(hdn:∀ k,dst=some k→k<c.n)
  (hwp:aV c.P c.Y dr K (bt A dst (.lK esz x y) rest (aE rest))) (hsim:cd c A a w) (hK:∀ B a' w',aV c.P c.Y dr K (aE rest B)→cd c B a' w'→Kw a' w'):o.wpIn c.bB 9 c.P a w Kw Q:=by
 have hop0:=hop;simp only[bt] at hwp;unfold dv at hop;split at hop <;>try (first | (simp at hop;done) | ((repeat' split at hop) <;>simp at hop;done))
 rename_i args tys ho;split at hop
 case h_2=>cases hop
 rename_i u v t t' ha ht;split at hop
 case h_2=>cases hop
 rename_i e' x' y' k1 k2 k3;split at hop
 case isFalse=>cases hop
 rename_i hk;simp only[v6,bW.lK.injEq] at hop;obtain ⟨rfl,rfl,rfl⟩:=hop;obtain ⟨rfl,hinfo⟩:=hk;have ha':args = #[u,v]:=by apply Array.ext';simpa using ha
 have ht':tys = #[t,t]:=by apply Array.ext';simpa using ht
 subst ha' ht';unfold tz at hwp;split at hwp
 ·rename_i n p sz lo l ys hv hsx;split at hwp
  case h_2=>cases hwp
  rename_i b hn;split at hwp
  case h_2=>cases hwp
  rename_i fs hat;split at hwp
  case isFalse=>cases hwp
  rename_i hok;obtain ⟨rfl,hsh⟩:=hok;exact (Pb ho k1 hinfo k2 k3 hv hn hat hsx rfl hsh (by rw[ah];exact hdn)).wp hop0 hsim (fun a' w' ab=>by rw[ah] at ab;exact hK _ a' w' hwp ab)
 ·cases hwp
theorem tU{dr:Bool}{K:ai→Prop}{op:bW}{dst:Option Nat}{rest:List aJ}{a:Act}{w:World}{Kw:Act→World→Prop}{Q:Exit→Act→World→Prop}(hop:dv c.P o=some op)(ah:o.dst=dst)(hdn:∀ k,dst=some k→k<c.n)
  (hwp:aV c.P c.Y dr K (bt A dst op rest (aE rest))) (hsim:cd c A a w) (hK:∀ B a' w',aV c.P c.Y dr K (aE rest B)→cd c B a' w'→Kw a' w'):o.wpIn c.bB 9 c.P a w Kw Q:=by
 cases op with
 |alloc z=>exact Zm hop ah hdn hwp hsim hK
 |box x=>exact Zp hop ah hdn hwp hsim hK
 |bh s x v=>exact ZB hop ah hdn hwp hsim hK
 |call f args=>exact Zq hop ah hdn hwp hsim hK
 |kJ f args=>exact ZC hop ah hdn hwp hsim hK
 |jo=>exact Zv hop ah hdn hwp hsim hK
 |kV e bytes z n=>exact Zw hop ah hdn hwp hsim hK
 |fj ty m k v=>exact Zx hop ah hdn hwp hsim hK
 |jn ty m k=>exact Zu hop ah hdn hwp hsim hK
 |j9 x=>exact ZA hop ah hdn hwp hsim hK
 |iW x=>exact Zz hop ah hdn hwp hsim hK
 |gi x args=>exact Zr hop ah hdn hwp hsim hK
 |nilS neg x=>exact Zy hop ah hdn hwp hsim hK
 |dk e esz bytes z s x=>exact Zn hop ah hdn hwp hsim hK
 |mg e esz bytes z s n=>exact Zo hop ah hdn hwp hsim hK
 |kj esz z x=>exact Zs hop ah hdn hwp hsim hK
 |lK esz x y=>exact Zt hop ah hdn hwp hsim hK
 |_=>exact DS hop ah hdn hsim hK (by simpa only[bt] using hwp)
theorem tZ{j t:Nat}{aY:Array Oper}{a:Act}{w:World}{b b':Bool}(ab:cd c A a w)(hg:o.guard=some (j,b))(ht:(aY[j]?).bind (·.dst)=some t)(hv:A.t t=.bool b'):Region.wanted o (yielded aY a.tmps)=(b'==b):=by
 obtain ⟨D,E,ab⟩:=ab;have h:=ab.eb t;rw[hv] at h;have h:=lg h;have hy:yielded aY a.tmps j=some b':=by
  unfold yielded;rw[ht];simp only[zv9];simp only[Array.getD_eq_getD_getElem?] at h;cases bz:a.tmps[t]? with
  |none=>simp[bz,undef] at h
  |some v=>simp only[bz,Option.getD_some] at h;subst h;rfl
 unfold Region.wanted;rw[hg];simp only[hy];cases b <;>cases b' <;>rfl
theorem ua{j t:Nat}{aY:Array Oper}{a:Act}{w:World}{b:Bool}(ab:cd c A a w)(hg:o.guard=some (j,b))(ht:(aY[j]?).bind (·.dst)=some t)(hv:A.t t=.undef):Region.wanted o (yielded aY a.tmps)=false:=by
 obtain ⟨D,E,ab⟩:=ab;have h:=ab.eb t;rw[hv] at h;simp only[a8] at h;have hy:yielded aY a.tmps j=none:=by
  unfold yielded;rw[ht];simp only[zv9];simp only[Array.getD_eq_getD_getElem?] at h;cases bz:a.tmps[t]? with
  |none=>rfl
  |some v=>simp only[bz,Option.getD_some] at h;subst h;rfl
 unfold Region.wanted;rw[hg];simp only[hy];rfl
theorem cd.nJ{a:Act}{w:World}(h:cd c A a w){d:Option Nat}(ah:∀ k,d=some k→k<c.n):cd c (A.aW d .undef) (a.put d undef) w:=by
 obtain ⟨D,E,h⟩:=h;exact ⟨D,E,h.aW ah (by simp[a8])⟩
theorem tY{dr:Bool}{K:ai→Prop}{aY:Array Oper}{Q:Exit→Act→World→Prop}(hQ:∀ B a w,K B→cd c B a w→Q .normal a w):∀ (l:List Oper) (gs:List aJ) (A:ai) (a:Act) (w:World),gh c.P c.n aY l=some gs→aV c.P c.Y dr K (aE gs A) →
  cd c A a w→wpListIn c.bB 9 c.P aY Q l a w
 | [],gs,A,a,w,hc,hwp,ab=>by
  simp only[gh,v6] at hc;subst hc;simp only[aE] at hwp;cases hwp with
  |done hk=>exact hQ A a w hk ab
 |o::l,gs,A,a,w,hc,hwp,ab=>by
  simp only[gh] at hc;split at hc
  case h_2=>cases hc
  rename_i g gs' hg hgs;simp only[v6] at hc;subst hc;obtain ⟨J,U,af,ar⟩:=og hg;have step:aV c.P c.Y dr K (bt A g.dst g.op gs' (aE gs'))→o.wpIn c.bB 9 c.P a w (wpListIn c.bB 9 c.P aY Q l) Q:=fun h =>
   tU J U.symm (by rw[U];exact af) h ab (fun B a' w' hw hs'=>tY hQ l gs' B a' w' hgs hw hs')
  simp only[wpListIn];simp only[aE] at hwp;rcases ar with ⟨h5,h6⟩ | ⟨j,b,t,h5,h6,h7⟩
  ·rw[h6] at hwp;have hw:Region.wanted o (yielded aY a.tmps)=true:=by simp[Region.wanted,h5]
   rw[hw,if_pos rfl];exact step hwp
  ·rw[h7] at hwp;simp only at hwp;split at hwp
   ·rename_i b' hb';rw[tZ ab h5 h6 hb'];split at hwp
    ·rename_i hbb;subst hbb;simp only[BEq.rfl,if_true];exact step hwp
    ·rename_i hbb;have:(b'==b)=false:=by simpa using hbb
     rw[this];simp only[zz2,if_false];exact ⟨fun f _=>mz c f,tY hQ l gs' _ _ w hgs hwp (by rw[U];exact ab.nJ af)⟩
   ·rename_i hb';rw[ua ab h5 h6 hb'];simp only[zz2,if_false];exact ⟨fun f _=>mz c f,tY hQ l gs' _ _ w hgs hwp (by rw[U];exact ab.nJ af)⟩
   ·cases hwp
end
def aM.sl:aM→List Nat
 | .t n=>[n]
 | .c _=>[]
def uA:Option aM→List Nat
 |some x=>x.sl
 |none=>[]
def jR(l:List aM):List Nat:=l.flatMap aM.sl
def bW.dj:bW→List Nat
 | .mv x=>x.sl
 | .pick c a b=>c.sl++(a.sl++b.sl)
 | .bin _ x y=>x.sl++y.sl
 | .eqv _ _ x y=>x.sl++y.sl
 | .nilS _ x=>x.sl
 | .conv _ x=>x.sl
 | .un _ x=>x.sl
 | .ld _ x=>x.sl
 | .fa _ _ x=>x.sl
 | .fl _ _ _ x=>x.sl
 | .ia _ _ x i=>x.sl++i.sl
 | .is _ x i=>x.sl++i.sl
 | .ix _ _ _ x i=>x.sl++i.sl
 | .len x=>x.sl
 | .lenT x=>x.sl
 | .va _ _ x=>x.sl
 | .sl _ x lo hi mx=>x.sl++(uA lo++(uA hi++uA mx))
 | .bld _ ps=>jR (ps.map (·.2))
 | .bs _ _ ps=>jR ps
 | .ext x _=>x.sl
 | .mk _ caps=>jR caps
 | .alloc _=>[]
 | .box x=>x.sl
 | .bh _ x v=>x.sl++v.sl
 | .dk _ _ _ _ s x=>s.sl++x.sl
 | .mg _ _ _ _ s x=>s.sl++x.sl
 | .cap x=>x.sl
 | .bs0 _=>[]
 | .kj _ _ x=>x.sl
 | .lK _ x y=>x.sl++y.sl
 | .call _ args=>jR args
 | .gi x args=>x.sl++jR args
 | .kJ _ args=>jR args
 | .nilC x=>x.sl
 | .ptrE _ x y=>x.sl++y.sl
 | .max2 x y=>x.sl++y.sl
 | .prim _ xs=>jR xs
 | .b2s x=>x.sl
 | .kV _ _ _ n=>n.sl
 | .jo=>[]
 | .lk _ _ _ m k=>m.sl++k.sl
 | .fj _ m k v=>m.sl++(k.sl++v.sl)
 | .jn _ m k=>m.sl++k.sl
 | .j9 x=>x.sl
 | .iW x=>x.sl
 | .ent x=>x.sl
def aJ.dj(g:aJ):List Nat:=g.op.dj++(match g.guard with | some (t,_)=>[t] | none=>[])
def bW.gZ:bW→Nat
 | .mv _ | .pick .. | .bin .. | .eqv .. | .nilS .. | .conv .. | .un .. | .fl .. | .ix .. | .lenT _ | .bld .. | .ext .. | .mk .. | .nilC _ | .ptrE .. | .max2 .. | .prim .. =>0
 | .ld .. | .fa .. | .ia .. | .is .. | .len _ | .va .. | .bs .. | .sl .. | .cap _ | .bs0 _ | .lk .. | .ent _ | .b2s _=>1
 | .call .. | .gi .. =>2
 | .alloc _ | .box _=>3
 | .bh .. =>4
 | .dk .. | .mg .. | .kj .. | .lK .. | .kJ .. | .kV .. | .jo | .fj .. | .jn .. | .j9 _ | .iW _=>5
def wN(a b:Nat):Bool:=(decide (a≤2)&&decide (b≤3))||(a==0&&b==4)
def nt(g h:aJ):Bool:=wN g.op.gZ h.op.gZ&&(match g.dst with
  |some d => !h.dj.contains d&&h.dst != some d
  |none=>true)&&(match h.dst with
  |some d => !g.dj.contains d
  |none=>true)
def eC(A A':ai)(l:List Nat):Prop:=∀ k∈l,A'.t k=A.t k
section
variable {A A':ai}
theorem dm{x:aM}(h:eC A A' x.sl):aj A' x=aj A x:=by
 cases x with
 |t n=>exact h n (by simp[aM.sl])
 |c x=>rfl
theorem eC.l{l m:List Nat}(h:eC A A' (l++m)):eC A A' l:=fun k hk=>h k (List.mem_append_left _ hk)
theorem eC.r{l m:List Nat}(h:eC A A' (l++m)):eC A A' m:=fun k hk=>h k (List.mem_append_right _ hk)
theorem lO:∀ {l:List aM},eC A A' (jR l)→l.map (aj A')=l.map (aj A)
 | [],_=>rfl
 |x::l,h=>by
  simp only[jR,List.flatMap_cons] at h;simp only[zz5,dm h.l,lO (l:=l) h.r]
theorem pL{x:Option aM}(h:eC A A' (uA x)):x.map (aj A')=x.map (aj A):=by
 cases x with
 |none=>rfl
 |some x=>simp only[zz9,dm (x:=x) h]
theorem CT:∀ {l:List (Nat×aM)},eC A A' (jR (l.map (·.2)))→(l.map fun p=>(p.1,aj A' p.2))=l.map fun p=>(p.1,aj A p.2)
 | [],_=>rfl
 |x::l,h=>by
  simp only[jR,zz5,List.flatMap_cons] at h;simp only[zz5,dm h.l,CT (l:=l) h.r]
theorem rT{f g:I→Option I}(h:∀ x v,f x=some v→g x=some v):∀ {xs vs:List I},gm f xs=some vs→gm g xs=some vs
 | [],vs,hx=>by simpa only[gm] using hx
 |x::xs,vs,hx=>by
  simp only[gm] at hx ⊢;cases J:f x with
  |none=>rw[J] at hx;cases hx
  |some y=>cases U:gm f xs with
   |none=>rw[J,U] at hx;cases hx
   |some ys=>rw[J,U] at hx;rw[h x y J,rT h U];exact hx
theorem xp(hu:eE A A'):∀ (k:Nat) (x v:I),c8 A k x=some v→c8 A' k x=some v
 |0,_,_,h=>by simp[c8] at h
 |k+1,x,v,h=>by
  have ih:=xp hu k;simp only[c8] at h ⊢;split at h
  ·rename_i hc;rw[if_pos hc];exact h
  ·rename_i hc;rw[if_neg hc];cases x <;>simp only[] at h ⊢ <;>try (cases h;done)
   case agg fs =>
    simp only[t8] at h ⊢;obtain ⟨a,J,U⟩:=h;exact ⟨a,rT ih J,U⟩
   case func f fs =>
    split at h
    case isFalse hf=>rw[if_neg hf];exact h
    rename_i hf;rw[if_pos hf];simp only[t8] at h ⊢;obtain ⟨a,J,U⟩:=h;exact ⟨a,rT ih J,U⟩
   case ptr n p =>
    cases ah:cM A (.ptr n p) with
    |none=>rw[ah] at h;cases h
    |some y =>
     rw[ah] at h;rw[jG hu ah];simp only[t8] at h ⊢;obtain ⟨a,J,U⟩:=h;exact ⟨a,ih _ _ J,U⟩
   case view n p sz lo l =>
    cases ah:cM A (.ptr n p) with
    |none=>rw[ah] at h;cases h
    |some y=>rw[ah] at h;rw[jG hu ah];exact h
   case mref n =>
    cases ho:A.o n with
    |none=>rw[ho] at h;cases h
    |some y =>
     rw[ho] at h;rw[hu n y ho];cases y <;>try (cases h;done)
     simp only at h ⊢;split at h
     ·rename_i hk;rw[if_pos hk];simp only[t8] at h ⊢;obtain ⟨a,J,U⟩:=h;exact ⟨a,rT ih J,U⟩
     ·cases h
   case own n l =>
    cases ho:A.o n with
    |none=>rw[ho] at h;cases h
    |some y=>rw[ho] at h;rw[hu n y ho];exact h
mutual
theorem C5(hu:eE A A'){aP:Bool} : ∀ {x v:I},br aP A x=some v→br aP A' x=some v
 | .ptr n p,v,h=>by
  simp only[br] at h ⊢;cases aP <;>simp only[zz2,if_false,if_true] at h ⊢
  ·exact h
  ·cases ah:cM A (.ptr n p) with
   |none=>rw[ah] at h;cases h
   |some y =>
    rw[ah] at h;rw[jG hu ah];simp only at h ⊢;split at h
    ·rename_i hc;rw[if_pos hc];exact h
    ·rename_i hc;rw[if_neg hc];simp only[t8] at h ⊢;obtain ⟨a,J,U⟩:=h;exact ⟨a,xp hu 9 _ _ J,U⟩
 | .mref n,v,h=>by
  simp only[br] at h ⊢;cases aP <;>simp only[zz2,if_false,if_true] at h ⊢
  ·exact h
  ·cases ho:A.o n with
   |none=>rw[ho] at h;cases h
   |some y =>
    rw[ho] at h;rw[hu n y ho];cases y <;>try (cases h;done)
    simp only at h ⊢;split at h
    ·rename_i hk;rw[if_pos hk];simp only[t8] at h ⊢;obtain ⟨a,J,U⟩:=h;exact ⟨a,rT (xp hu 9) J,U⟩
    ·cases h
 | .dC _,_,h=>by simp[br] at h
 | .dx _ _,_,h=>by simpa only[br] using h
 | .own n k,v,h=>by
  simp only[br] at h ⊢;cases ho:A.o n with
  |none=>rw[ho] at h;cases h
  |some y=>rw[ho] at h;rw[hu n y ho];exact h
 | .view n p sz lo k,v,h=>by
  simp only[br] at h ⊢;cases aP <;>simp only[zz2,if_false,if_true] at h ⊢
  ·exact h
  ·cases ah:cM A (.ptr n p) with
   |none=>rw[ah] at h;cases h
   |some y=>rw[ah] at h;rw[jG hu ah];exact h
 | .func f caps,v,h=>by
  simp only[br] at h ⊢;split at h
  case isFalse hf=>rw[if_neg hf];exact h
  rename_i hf;rw[if_pos hf];simp only[t8] at h ⊢;obtain ⟨a,J,U⟩:=h;exact ⟨a,lQ hu J,U⟩
 | .agg fs,v,h=>by
  simp only[br,t8] at h ⊢;obtain ⟨a,J,U⟩:=h;exact ⟨a,lQ hu J,U⟩
 | .nils _,_,h | .c0 _,_,h | .tuple _,_,h | .undef,_,h | .dF,_,h | .bool _,_,h | .int _ _,_,h | .bm _,_,h | .nilp,_,h | .dK,_,h | .dL,_,h | .any,_,h | .raw _,_,h | .slice _ _,_,h | .ref _,_,h | .iface _ _,_,h=>by simpa only[br] using h
theorem lQ(hu:eE A A'){aP:Bool} : ∀ {xs vs:List I},cm aP A xs=some vs→cm aP A' xs=some vs
 | [],vs,h=>by simpa only[cm] using h
 |x::xs,vs,h=>by
  simp only[cm] at h ⊢;cases J:br aP A x with
  |none=>rw[J] at h;cases h
  |some y=>cases U:cm aP A xs with
   |none=>rw[J,U] at h;cases h
   |some ys=>rw[J,U] at h;rw[C5 hu J,lQ hu U];exact h
end
theorem yT{op:bW}(hc:op.gZ=0)(h:eC A A' op.dj):bo A' op=bo A op:=by
 cases op <;>simp only[bW.gZ] at hc <;>try (cases hc;done)
 all_goals simp only[bW.dj] at h
 case mv x=>simp only[bo,dm h]
 case pick c a b=>simp only[bo,dm h.l,dm h.r.l,dm h.r.r]
 case bin _ x y=>simp only[bo,dm h.l,dm h.r]
 case eqv _ _ x y=>simp only[bo,dm h.l,dm h.r]
 case nilS x=>simp only[bo,dm h]
 case conv x=>simp only[bo,dm h]
 case un x=>simp only[bo,dm h]
 case fl x=>simp only[bo,dm h]
 case ix x i=>simp only[bo,dm h.l,dm h.r]
 case lenT x=>simp only[bo,dm h]
 case bld zs ps=>simp only[bo,CT h]
 case ext x i=>simp only[bo,dm h]
 case mk f caps=>simp only[bo,lO h]
 case nilC x=>simp only[bo,dm h]
 case ptrE neg x y=>simp only[bo,dm h.l,dm h.r]
 case max2 x y=>simp only[bo,dm h.l,dm h.r]
 case prim p xs=>simp only[bo,lO h]
theorem abe(hu:eE A A'){m:I}{q:List I×List I}(h:gy A m=some q):gy A' m=some q:=by
 cases m with
 |mref n =>
  simp only[gy] at h ⊢;cases ah:A.o n with
  |none=>simp only[ah] at h;cases h
  |some y=>simp only[ah] at h;simp only[hu n y ah];exact h
 |raw v=>cases v <;>first | (cases h;done) | (rename_i m;cases m <;>first | exact h | cases h)
 |dx ks vs=>exact h
 |_=>simp only[gy] at h;cases h
theorem adX(hu:eE A A'){sz:Nat}{x:I}{es:List I}(h:dX A sz x=some es):dX A' sz x=some es:=by
 cases x <;>simp only[dX] at h ⊢ <;>try (exact h)
 ·rename_i n l;cases ah:A.o n with
  |none=>rw[ah] at h;cases h
  |some y=>rw[ah] at h;rw[hu n y ah];exact h
 ·rename_i n p z lo k;cases ah:cM A (.ptr n p) with
  |none=>rw[ah] at h;cases h
  |some y=>rw[ah] at h;rw[jG hu ah];exact h
theorem FL{op:bW}(hu:eE A A')(h:eC A A' op.dj){v:I}(hv:bo A op=some v):bo A' op=some v:=by
 by_cases hc:op.gZ=0
 ·rw[yT hc h];exact hv
 cases op <;>try (exact absurd rfl hc)
 all_goals simp only[bW.dj] at h
 case ld s x =>
  simp only[bo,dm h] at hv ⊢;cases ah:cM A (aj A x) with
  |none=>rw[ah] at hv;cases hv
  |some y=>rw[ah] at hv;rw[jG hu ah];exact hv
 case fa f off x =>
  simp only[bo,dm h] at hv ⊢;generalize aj A x=z at *;cases z <;>try (first | exact hv | (rename_i y;cases y <;>exact hv))
  rename_i n p;cases ah:cM A (.ptr n p) with
  |none=>simp only[ah] at hv;cases hv
  |some y=>simp only[ah] at hv;simp only[jG hu ah];exact hv
 case ia n esz x i =>
  simp only[bo,dm h.l,dm h.r] at hv ⊢;generalize aj A x=z at *;cases z <;>try (first | exact hv | (rename_i y;cases y <;>exact hv))
  rename_i n p;cases ah:cM A (.ptr n p) with
  |none=>simp only[ah] at hv;(repeat' split at hv) <;>cases hv
  |some y=>simp only[ah] at hv;simp only[jG hu ah];exact hv
 case is esz x i =>
  simp only[bo,dm h.l,dm h.r] at hv ⊢;generalize aj A i=q at *;cases q <;>try (exact hv)
  simp only at hv ⊢;generalize aj A x=z at *;cases z <;>try (first | exact hv | (rename_i y;cases y <;>exact hv))
  ·rename_i n p;cases ah:A.o n with
   |none=>simp only[ah] at hv;cases hv
   |some y=>simp only[ah] at hv;simp only[hu n y ah];exact hv
  ·rename_i n p sz lo k;simp only at hv ⊢;cases ah:cM A (.ptr n p) with
   |none=>simp only[ah] at hv;cases hv
   |some y=>simp only[ah] at hv;simp only[jG hu ah];exact hv
 case len x =>
  simp only[bo,dm h] at hv ⊢;generalize aj A x=z at *;cases z <;>try (first | exact hv | (rename_i y;cases y <;>exact hv))
  rename_i n p;cases ah:A.o n with
  |none=>simp only[ah] at hv;cases hv
  |some y=>simp only[ah] at hv;simp only[hu n y ah];exact hv
 case cap x =>
  simp only[bo,dm h] at hv ⊢;generalize aj A x=z at *;cases z <;>try (first | exact hv | (rename_i y;cases y <;>exact hv))
  rename_i n p sz lo k;simp only at hv ⊢;cases ah:cM A (.ptr n p) with
  |none=>simp only[ah] at hv;cases hv
  |some y=>simp only[ah] at hv;simp only[jG hu ah];exact hv
 case bs0 esz=>exact hv
 case sl esz x lo hi mx =>
  simp only[bo,dm h.l,pL h.r.l,pL h.r.r.l,pL h.r.r.r] at hv ⊢;generalize aj A x=z at *;cases z <;>try (first | exact hv | (rename_i y;cases y <;>exact hv))
  rename_i n p sz l0 k;simp only at hv ⊢;cases ah:cM A (.ptr n p) with
  |none=>simp only[ah] at hv;cases hv
  |some y=>simp only[ah] at hv;simp only[jG hu ah];exact hv
 case va n esz x =>
  simp only[bo,dm h] at hv ⊢;generalize aj A x=z at *;cases z <;>try (first | exact hv | (rename_i y;cases y <;>exact hv))
  rename_i n p;cases ah:cM A (.ptr n p) with
  |none=>simp only[ah] at hv;cases hv
  |some y=>simp only[ah] at hv;simp only[jG hu ah];exact hv
 case lk ty z ok m k =>
  simp only[bo,dm h.l,dm h.r] at hv ⊢;cases ah:gy A (aj A m) with
  |none=>rw[ah] at hv;cases hv
  |some y=>rw[ah] at hv;rw[abe hu ah];exact hv
 case ent x =>
  simp only[bo,dm h] at hv ⊢;generalize aj A x=z at *;cases z <;>try (exact hv)
  rename_i n;simp only at hv ⊢;cases ah:A.o n with
  |none=>simp only[ah] at hv;cases hv
  |some y=>simp only[ah] at hv;simp only[hu n y ah];exact hv
 case b2s x =>
  simp only[bo,dm h] at hv ⊢;cases ah:dX A 1 (aj A x) with
  |none=>rw[ah] at hv;cases hv
  |some y=>rw[ah] at hv;rw[adX hu ah];exact hv
 case bs esz ps =>
  simp only[bo,lO h] at hv ⊢;cases ah:cm false A (ps.map (aj A)) with
  |none=>rw[ah] at hv;cases hv
  |some y=>rw[ah] at hv;rw[lQ hu ah];exact hv
 all_goals (simp only[bo] at hv;cases hv)
end
def pass(A:ai)(g:aJ):Prop:=match g.guard with | none=>True | some (t,b)=>A.t t=.bool b
def gR(A:ai)(g:aJ):Prop:=match g.guard with | none=>False | some (t,b)=>A.t t=.bool (!b)∨A.t t=.undef
inductive jT (P:Program) (A:ai):bW→I→Prop where
 |pure {op:bW} {v:I} : bo A op=some v→jT P A op v
 |flat {f:FuncId} {args:List aM} {cargs:List I} {r:I} : cm true A (args.map (aj A))=some cargs→bd P f cargs r→r.flat=true→jT P A (.call f args) r
 |lead {f:FuncId} {args:List aM} {cargs:List I} {r:I} : cm false A (args.map (aj A))=some cargs→bd P f cargs r→jT P A (.call f args) r
 |vv {x:aM} {f:FuncId} {caps:List I} {args:List aM} {cargs:List I} {r:I} : aj A x=.func f caps→cm true A (iS f (args.map (aj A)) caps)=some cargs→bd P (lP f) cargs r→r.flat=true→jT P A (.gi x args) r
 |vw {x:aM} {f:FuncId} {caps:List I} {args:List aM} {cargs:List I} {r:I} : aj A x=.func f caps→cm false A (iS f (args.map (aj A)) caps)=some cargs→bd P (lP f) cargs r→jT P A (.gi x args) r
def sX(A:ai)(op:bW)(x:I):Prop:=op=.alloc x∨∃ y,op=.box y∧(aj A y).bX=true∧x=aj A y
def sY(A:ai)(op:bW)(n:Nat)(z:aq):Prop:=∃ s x v p b old,op=.bh s x v∧aj A x=.ptr n p∧A.o n=some (.box b)∧b.at p=some old∧yF s (aj A v) old∧z=.box (b.ev p (aj A v))
def Jq(A:ai)(dst:Option Nat)(op:bW)(B:ai):Prop:=op.gZ=5∧∀ (rest:List aJ) (k:ai→cS),bt A dst op rest k=k B
theorem aek{A:ai}{neg:Bool}{x:aM}{v:I}(h:bo A (.nilS neg x)=some v):kc (aj A x)=false:=by
 simp only[bo] at h;generalize aj A x=q at *;cases q <;>simp only[kc] <;>simp only at h <;>try (cases h;done)
 rename_i sz es;cases es with
 |nil=>simp at h
 |cons=>rfl
inductive fH (P:Program) (g:aJ) (A:ai):ai→Prop where
 |skip:gR A g→fH P g A (A.aW g.dst .undef)
 |val {v:I} : pass A g→jT P A g.op v→fH P g A (A.aW g.dst v)
 |jN {d:Nat} {x:I} : pass A g→g.dst=some d→sX A g.op x→A.o d=none→fH P g A ((A.aT d (.box x)).put d (.ptr d []))
 |bh {n:Nat} {z:aq} : pass A g→g.dst=none→sY A g.op n z→fH P g A (A.aT n z)
 |iC {B:ai} : pass A g→Jq A g.dst g.op B→fH P g A B
theorem wk{b' b:Bool}(h:b'≠b):b' = !b:=by cases b <;>cases b' <;>simp_all
section
variable {P:Program} {Y:Value→List I→List (Nat×aq)→cL→Prop} {K:ai→Prop}
theorem fH.Fk{A:ai}{g:aJ}{rest:List aJ}(hp:pass A g)(h:aV P Y true K (bt A g.dst g.op rest (aE rest))):∃ B,fH P g A B∧aV P Y true K (aE rest B):=by
 have pure:aV P Y true K (cT (bo A g.op) fun v=>aE rest (A.aW g.dst v))→∃ B,fH P g A B∧aV P Y true K (aE rest B):=by
  intro h;cases hv:bo A g.op with
  |none=>rw[hv] at h;cases h
  |some v=>rw[hv] at h;exact ⟨_,.val hp (.pure hv),h⟩
 obtain ⟨dst,op,gd⟩:=g;cases op with
 |alloc z =>
  simp only[bt] at h;split at h
  case h_2=>cases h
  split at h
  case h_2=>cases h
  rename_i ah _ ho;exact ⟨_,.jN hp rfl (.inl rfl) ho,h⟩
 |box x =>
  simp only[bt] at h;split at h
  case h_2=>cases h
  split at h
  case h_2=>cases h
  rename_i ah _ ho;split at h
  case isFalse=>cases h
  rename_i hv;exact ⟨_,.jN hp rfl (.inr ⟨x,rfl,hv,rfl⟩) ho,h⟩
 |bh s x v =>
  simp only[bt] at h;split at h
  case h_2=>cases h
  split at h
  case h_2=>cases h
  rename_i n p hx;split at h
  case h_2=>cases h
  rename_i b hb;split at h
  case h_2=>cases h
  rename_i old hat;split at h
  case isFalse=>cases h
  rename_i hok;exact ⟨_,.bh hp rfl ⟨s,x,v,p,b,old,rfl,hx,hb,hat,hok,rfl⟩,h⟩
 |nilS neg x =>
  simp only[bt] at h;split at h
  ·cases h with | any hdr=>cases hdr
  ·exact pure h
 |dk e esz bytes z s x =>
  simp only[bt] at h;split at h
  ·rename_i n l hs';split at h
   case h_2=>cases h
   rename_i sz ys hx';split at h
   case h_3=>cases h
   case h_2 =>
    rename_i T xs hn;split at h
    case isFalse=>cases h
    rename_i hok;exact ⟨_,.iC hp ⟨rfl,fun rest k=>by simp only[bt,hs',hx',hn,if_pos hok]⟩,h⟩
   rename_i T sz' es hn;split at h
   case isFalse=>cases h
   rename_i hok;exact ⟨_,.iC hp ⟨rfl,fun rest k=>by simp only[bt,hs',hx',hn,if_pos hok]⟩,h⟩
  ·rename_i hno;have hg:∀ (rest:List aJ) (k:ai→cS),bt A dst (.dk e esz bytes z s x) rest k=fw A dst esz bytes z (aj A s) (dX A esz (aj A s)) (dX A esz (aj A x)) k:=fun rest k=>by
    simp only[bt]
   simp only[fw] at h hg;split at h
   case h_2=>cases h
   rename_i es ys hse hsx;simp only[hse,hsx] at hg;have grow:¬ aV P Y true K (gv A dst esz bytes z es ys (aE rest)):=fun h=>by
    simp only[gv] at h;split at h
    case h_2=>cases h
    split at h
    case h_2=>cases h
    split at h
    case isFalse=>cases h
    cases h with | any hdr=>cases hdr
   split at h
   ·rename_i hne;simp only[if_pos hne] at hg;exact ⟨_,.iC hp ⟨rfl,hg⟩,h⟩
   ·rename_i hne;simp only[if_neg hne] at hg;split at h
    ·exact absurd h grow
    ·exact absurd h grow
    ·rename_i n p sz lo l hsv;split at h
     case h_2=>cases h
     rename_i b hn;split at h
     case h_2=>cases h
     rename_i fs hat;split at h
     ·rename_i hroom;split at h
      case isFalse=>cases h
      rename_i hok;simp only[hsv,hn,hat,if_pos hroom,if_pos hok] at hg;exact ⟨_,.iC hp ⟨rfl,hg⟩,h⟩
     ·exact absurd h grow
    ·cases h
 |kJ f args =>
  simp only[bt] at h;cases h with | ext r hdr=>cases hdr
 |mg e esz bytes z s n =>
  exfalso
  simp only[bt] at h;split at h
  case h_2=>cases h
  simp only[wb] at h;split at h
  case h_2=>cases h
  split at h
  case h_2=>cases h
  split at h
  case h_2=>cases h
  split at h
  case h_2=>cases h
  split at h
  case isFalse=>cases h
  simp only[gv] at h;split at h
  case h_2=>cases h
  split at h
  case h_2=>cases h
  split at h
  case isFalse=>cases h
  cases h with | any hdr=>cases hdr
 |jo =>
  simp only[bt] at h;split at h
  case h_2=>cases h
  rename_i d;split at h
  case h_2=>cases h
  rename_i hf;exact ⟨_,.iC hp ⟨rfl,fun rest k=>by simp only[bt,hf]⟩,h⟩
 |kV e bytes z n =>
  simp only[bt] at h;split at h
  case h_2=>cases h
  rename_i d;split at h
  case h_2=>cases h
  rename_i hf;split at h
  case h_2=>cases h
  rename_i k m hn;split at h
  case isFalse=>cases h
  rename_i hc;exact ⟨_,.iC hp ⟨rfl,fun rest k=>by simp only[bt,hf,hn,if_pos hc]⟩,h⟩
 |fj ty m key v =>
  simp only[bt] at h;split at h
  case h_2=>cases h
  split at h
  case h_2=>cases h
  rename_i n hm;split at h
  case h_2=>cases h
  rename_i ks vs hn;split at h
  case h_2=>cases h
  rename_i ks' vs' ao;exact ⟨_,.iC hp ⟨rfl,fun rest k=>by simp only[bt,hm,hn,ao]⟩,h⟩
 |jn ty m key =>
  simp only[bt] at h;split at h
  case h_2=>cases h
  split at h
  case h_2=>cases h
  rename_i n hm;split at h
  case h_2=>cases h
  rename_i ks vs hn;split at h
  case h_2=>cases h
  rename_i ks' vs' ao;exact ⟨_,.iC hp ⟨rfl,fun rest k=>by simp only[bt,hm,hn,ao]⟩,h⟩
 |j9 x =>
  simp only[bt] at h;split at h
  case h_2=>cases h
  rename_i d;split at h
  case h_2=>cases h
  rename_i hf;split at h
  case h_2=>cases h
  rename_i ks vs hx;exact ⟨_,.iC hp ⟨rfl,fun rest k=>by simp only[bt,hf,hx]⟩,h⟩
 |iW x =>
  simp only[bt] at h;split at h
  case h_2=>cases h
  rename_i n hx;split at h
  case h_2=>cases h
  rename_i ks vs left cur hn;split at h
  ·rename_i ao;exact ⟨_,.iC hp ⟨rfl,fun rest k=>by simp only[bt,hx,hn,if_pos ao]⟩,h⟩
  ·cases h with | any hdr=>cases hdr
 |kj esz z x =>
  simp only[bt] at h;split at h
  case h_2=>cases h
  have hg:∀ (rest:List aJ) (k:ai→cS),bt A none (.kj esz z x) rest k=pF A esz z k (aj A x):=fun rest k=>rfl;simp only[pF] at h hg;split at h
  ·rename_i n p sz lo l hv;split at h
   case h_2=>cases h
   rename_i b hn;split at h
   case h_2=>cases h
   rename_i fs hat;split at h
   case isFalse=>cases h
   rename_i hok;simp only[hv,hn,hat,if_pos hok] at hg;exact ⟨_,.iC hp ⟨rfl,hg⟩,h⟩
  ·rename_i z0 hv;simp only[hv] at hg;exact ⟨_,.iC hp ⟨rfl,hg⟩,h⟩
  ·rename_i z0 hv;simp only[hv] at hg;exact ⟨_,.iC hp ⟨rfl,hg⟩,h⟩
  ·cases h
 |lK esz x y =>
  have hg:∀ (rest:List aJ) (k:ai→cS),bt A dst (.lK esz x y) rest k=tz A dst esz k (aj A x) (dX A esz (aj A y)):=fun rest k=>rfl;simp only[bt] at h;simp only[tz] at h hg;split at h
  ·rename_i n p sz lo l ys hv hsx;split at h
   case h_2=>cases h
   rename_i b hn;split at h
   case h_2=>cases h
   rename_i fs hat;split at h
   case isFalse=>cases h
   rename_i hok;simp only[hv,hsx,hn,hat,if_pos hok] at hg;exact ⟨_,.iC hp ⟨rfl,hg⟩,h⟩
  ·cases h
 |call f args =>
  simp only[bt] at h;generalize J:cm true A (args.map (aj A))=a1 at h;generalize U:cm false A (args.map (aj A))=a2 at h;cases h with
  |flat r hc hf hw=>exact ⟨_,.val hp (.flat J hc hf),hw⟩
  |lead r hc hw=>exact ⟨_,.val hp (.lead U hc),hw⟩
  |km ns r hdr=>cases hdr
  |bU aP ρ os cargs post hdr=>cases hdr
 |gi x args =>
  simp only[bt] at h;split at h
  case h_3=>cases h
  case h_2=>cases h with | vz os cargs post hdr=>cases hdr
  rename_i f caps hx;generalize J:cm true A (iS f (args.map (aj A)) caps)=a1 at h;generalize U:cm false A (iS f (args.map (aj A)) caps)=a2 at h;cases h with
  |flat r hc hf hw=>exact ⟨_,.val hp (.vv hx J hc hf),hw⟩
  |lead r hc hw=>exact ⟨_,.val hp (.vw hx U hc),hw⟩
  |km ns r hdr=>cases hdr
  |bU aP ρ os cargs post hdr=>cases hdr
 |_=>exact pure (by simpa only[bt] using h)
theorem fH.yC{A:ai}{g:aJ}{rest:List aJ}(h:aV P Y true K (aE (g::rest) A)):∃ B,fH P g A B∧aV P Y true K (aE rest B):=by
 simp only[aE] at h;split at h
 ·rename_i hg;exact fH.Fk (by simp only[pass,hg]) h
 ·rename_i t b hg;split at h
  ·rename_i b' hb;split at h
   ·rename_i hbb;subst hbb;exact fH.Fk (by simp only[pass,hg];exact hb) h
   ·rename_i hbb;refine ⟨_,.skip (by simp only[gR,hg];exact .inl (by rw[hb,wk hbb])),h⟩
  ·rename_i hb;exact ⟨_,.skip (by simp only[gR,hg];exact .inr hb),h⟩
  ·cases h
theorem oa{A:ai}{g:aJ}{rest:List aJ}(hp:pass A g):aE (g::rest) A=bt A g.dst g.op rest (aE rest):=by
 simp only[aE];cases hg:g.guard with
 |none=>rfl
 |some tb =>
  obtain ⟨t,b⟩:=tb;simp only[pass,hg] at hp;simp only[hp,if_true]
theorem fH.zK{A B:ai}{g:aJ}{rest:List aJ}(h:fH P g A B)(hw:aV P Y true K (aE rest B)):aV P Y true K (aE (g::rest) A):=by
 cases h with
 |skip hn =>
  simp only[aE];cases hg:g.guard with
  |none=>simp only[gR,hg] at hn
  |some tb =>
   obtain ⟨t,b⟩:=tb;simp only[gR,hg] at hn;rcases hn with hn | hn
   ·simp only[hn];rw[if_neg (by cases b <;>simp)];exact hw
   ·simp only[hn];exact hw
 |val hp hv =>
  rw[oa hp];obtain ⟨dst,op,gd⟩:=g;cases hv with
  |pure hv =>
   have hv':bo A op=some _:=hv;cases op <;>try (simp only[bt,hv',cT] <;>first | exact hw | (simp only[bo] at hv';cases hv');done)
   all_goals first
    |(simp only[bo] at hv';cases hv';done)
    |(simp only[bt,aek hv',zz2,if_false,hv',cT];exact hw)
  |flat J U af=>simp only[bt,J];exact .flat _ U af hw
  |lead J U=>simp only[bt,J];exact .lead _ U hw
  |vv aR J U af=>simp only[bt,aR,J];exact .flat _ U af hw
  |vw aR J U=>simp only[bt,aR,J];exact .lead _ U hw
 |jN hp ah hm ho =>
  rw[oa hp];obtain ⟨dst,op,gd⟩:=g;simp only at ah;subst ah;rcases hm with hm | ⟨y,hm,hv,rfl⟩ <;>simp only at hm <;>subst hm
  ·simp only[bt,ho];exact hw
  ·simp only[bt,ho,hv,if_true];exact hw
 |bh hp ah hm =>
  rw[oa hp];obtain ⟨dst,op,gd⟩:=g;simp only at ah;subst ah;obtain ⟨s,x,v,p,b,old,J,U,af,ar,h5,rfl⟩:=hm;simp only at J;subst J;simp only[bt,U,af,ar,if_pos h5];exact hw
 |iC hp hm =>
  rw[oa hp,hm.2];exact hw
theorem jT.cX{A A':ai}{op:bW}{v:I}(h:jT P A op v)(hu:eE A A')(ha:eC A A' op.dj):jT P A' op v:=by
 cases h with
 |pure h=>exact .pure (FL hu ha h)
 |flat J U af=>exact .flat (by rw[lO ha];exact lQ hu J) U af
 |lead J U=>exact .lead (by rw[lO ha];exact lQ hu J) U
 |vv aR J U af=>simp only[bW.dj] at ha;exact .vv (by rw[dm ha.l];exact aR) (by rw[lO ha.r];exact lQ hu J) U af
 |vw aR J U=>simp only[bW.dj] at ha;exact .vw (by rw[dm ha.l];exact aR) (by rw[lO ha.r];exact lQ hu J) U
theorem jT.km{A A':ai}{op:bW}{v:I}(h:jT P A op v)(hc:op.gZ=0)(ha:eC A A' op.dj):jT P A' op v:=by
 cases h with
 |pure h=>exact .pure (by rw[yT hc ha];exact h)
 |_=>simp[bW.gZ] at hc
theorem nE{A A':ai}{g:aJ}(ha:eC A A' g.dj)(h:pass A g):pass A' g:=by
 unfold pass at *;cases hg:g.guard with
 |none=>trivial
 |some tb=>simp only[hg] at h ⊢;rw[ha tb.1 (by simp[aJ.dj,hg])];exact h
theorem qf{A A':ai}{g:aJ}(ha:eC A A' g.dj)(h:gR A g):gR A' g:=by
 unfold gR at *;cases hg:g.guard with
 |none=>simp only[hg] at h
 |some tb=>simp only[hg] at h ⊢;rw[ha tb.1 (by simp[aJ.dj,hg])];exact h
theorem aJ.kA{A A':ai}{g:aJ}(ha:eC A A' g.dj):eC A A' g.op.dj:=fun k hk=>ha k (List.mem_append_left _ hk)
def lz(P:Program)(g:aJ)(A:ai)(v:I):Prop:=(gR A g∧v=.undef)∨(pass A g∧jT P A g.op v)
theorem lz.step{A:ai}{g:aJ}{v:I}(h:lz P g A v):fH P g A (A.aW g.dst v):=by
 rcases h with ⟨h,rfl⟩ | ⟨h,k⟩
 ·exact .skip h
 ·exact .val h k
theorem lz.cX{A A':ai}{g:aJ}{v:I}(h:lz P g A v)(hu:eE A A')(ha:eC A A' g.dj):lz P g A' v:=by
 rcases h with ⟨h,rfl⟩ | ⟨h,k⟩
 ·exact .inl ⟨qf ha h,rfl⟩
 ·exact .inr ⟨nE ha h,k.cX hu (aJ.kA ha)⟩
theorem lz.km{A A':ai}{g:aJ}{v:I}(h:lz P g A v)(hc:g.op.gZ=0)(ha:eC A A' g.dj):lz P g A' v:=by
 rcases h with ⟨h,rfl⟩ | ⟨h,k⟩
 ·exact .inl ⟨qf ha h,rfl⟩
 ·exact .inr ⟨nE ha h,k.km hc (aJ.kA ha)⟩
theorem fH.df{A B:ai}{g:aJ}(h:fH P g A B)(hc:g.op.gZ≤2):∃ v,lz P g A v∧B=A.aW g.dst v:=by
 cases h with
 |skip h=>exact ⟨_,.inl ⟨h,rfl⟩,rfl⟩
 |val h k=>exact ⟨_,.inr ⟨h,k⟩,rfl⟩
 |jN J U af ar=>rcases af with af | ⟨y,af,_⟩ <;>(rw[af] at hc;simp[bW.gZ] at hc)
 |bh J U af=>obtain ⟨s,x,v,p,b,old,ar,_⟩:=af;rw[ar] at hc;simp[bW.gZ] at hc
 |iC J af=>rw[af.1] at hc;omega
theorem qv{A:ai}{a b:Option Nat}{v u:I}(h:∀ d,a=some d→b≠some d):(A.aW a v).aW b u=(A.aW b u).aW a v:=by
 cases a with
 |none=>rfl
 |some d=>cases b with
  |none=>rfl
  |some e =>
   have hne:d≠e:=fun he=>h d rfl (by rw[he]);simp only[ai.aW,ai.put,ai.mk.injEq,and_true]
   funext k
   by_cases J:k=e <;>by_cases U:k=d <;>simp_all
theorem ja{A:ai}{d:Option Nat}{v:I} : (A.aW d v).o=A.o:=by cases d <;>rfl
theorem mK{A:ai}{d:Option Nat}{v:I}{l:List Nat}(h:∀ k,d=some k→k∉l):eC A (A.aW d v) l:=by
 cases d with
 |none=>exact fun _ _=>rfl
 |some e =>
  intro k hk;have:k≠e:=fun he=>h e rfl (he▸hk);simp[ai.aW,ai.put,this]
theorem eC.symm{A A':ai}{l:List Nat}(h:eC A A' l):eC A' A l:=fun k hk=>(h k hk).symm
theorem sX.same{A A':ai}{op:bW}{x:I}(h:sX A op x)(ha:eC A A' op.dj):sX A' op x:=by
 rcases h with h | ⟨y,J,U,af⟩
 ·exact .inl h
 ·subst J;have:=dm (x:=y) ha;exact .inr ⟨y,rfl,by rw[this];exact U,by rw[this];exact af⟩
theorem sY.same{A A':ai}{op:bW}{n:Nat}{z:aq}(h:sY A op n z)(ho:A'.o=A.o)(ha:eC A A' op.dj):sY A' op n z:=by
 obtain ⟨s,x,v,p,b,old,J,U,af,ar,h5,h6⟩:=h;subst J;simp only[bW.dj] at ha;have e1:=dm ha.l;have e2:=dm ha.r;exact ⟨s,x,v,p,b,old,rfl,by rw[e1];exact U,by rw[ho];exact af,ar,by rw[e2];exact h5,by rw[e2];exact h6⟩
theorem aar{g h:aJ}(hi:nt g h=true):wN g.op.gZ h.op.gZ=true∧(∀ d,g.dst=some d→d∉h.dj)∧(∀ d,g.dst=some d→h.dst≠some d)∧(∀ d,h.dst=some d→d∉g.dj):=by
 simp only[nt,zz0] at hi;obtain ⟨⟨J,U⟩,af⟩:=hi;refine ⟨J,fun d ah =>?_,fun d ah =>?_,fun d ah =>?_⟩
 ·rw[ah] at U;simp at U;exact U.1
 ·rw[ah] at U;simp at U;exact U.2
 ·rw[ah] at af;simpa using af
theorem fH.sF{A B C:ai}{g h:aJ}(hi:nt g h=true)(J:fH P g A B)(U:fH P h B C):∃ B',fH P h A B'∧fH P g B' C:=by
 obtain ⟨hc,i1,i2,i3⟩:=aar hi;simp only[wN,Bool.or_eq_true,zz0,decide_eq_true_eq,beq_iff_eq] at hc;have hg2:g.op.gZ≤2:=by rcases hc with hc | hc <;>omega
 obtain ⟨v,hv,rfl⟩:=J.df hg2;have ag:eC (A.aW g.dst v) A h.dj:=(mK i1).symm;have cX:eE (A.aW g.dst v) A:=fun n x hx=>by rwa [ja] at hx
 cases U with
 |skip hn =>
  exact ⟨_,.skip (qf ag hn),by
   rw[qv i2];exact (hv.cX (by intro n x hx;rwa [ja]) (mK i3)).step⟩
 |val hp hu =>
  exact ⟨_,.val (nE ag hp) (hu.cX cX (aJ.kA ag)),by
   rw[qv i2];exact (hv.cX (by intro n x hx;rwa [ja]) (mK i3)).step⟩
 |jN hp ah hm ho =>
  rename_i d x;rw[ja] at ho;refine ⟨_,.jN (nE ag hp) ah (hm.same (aJ.kA ag)) ho,?_⟩;have e:((A.aW g.dst v).aT d (.box x)).put d (.ptr d [])=((A.aT d (.box x)).put d (.ptr d [])).aW g.dst v:=by
   cases hgd:g.dst with
   |none=>rfl
   |some e =>
    have hne:e≠d:=fun he=>i2 e hgd (by rw[ah,he]);simp only[ai.aW,ai.put,ai.aT,ai.mk.injEq,and_true]
    funext k
    by_cases J:k=e <;>by_cases U:k=d <;>simp_all
  rw[e];refine (hv.cX (fun n y hy =>?_) (fun k hk =>?_)).step
  ·have:n≠d:=fun he=>by rw[he,ho] at hy;cases hy
   simp only[ai.put,ai.aT,this,if_false];exact hy
  ·have:k≠d:=fun he=>i3 d ah (he▸hk);simp only[ai.put,ai.aT,this,if_false]
 |bh hp ah hm =>
  rename_i n z;have hc0:g.op.gZ=0:=by
   obtain ⟨s,x,v,p,b,old,ar,_⟩:=hm;rcases hc with hc | hc
   ·rw[ar] at hc;exact absurd hc.2 (by simp[bW.gZ])
   ·exact hc.1
  refine ⟨_,.bh (nE ag hp) ah (hm.same ja.symm (aJ.kA ag)),?_⟩;have e:(A.aW g.dst v).aT n z=(A.aT n z).aW g.dst v:=by cases g.dst <;>rfl
  rw[e];exact (lz.km (A':=A.aT n z) hv hc0 (fun _ _=>rfl)).step
 |iC hp hm =>
  exfalso
  rw[hm.1] at hc;omega
theorem aV.sF{A:ai}{g h:aJ}{rest:List aJ}(hi:nt g h=true)(hw:aV P Y true K (aE (g::h::rest) A)):aV P Y true K (aE (h::g::rest) A):=by
 obtain ⟨B,J,U⟩:=fH.yC hw;obtain ⟨C,af,ar⟩:=fH.yC U;obtain ⟨B',h5,h6⟩:=fH.sF hi J af;exact h5.zK (h6.zK ar)
theorem aV.oe{g:aJ} : ∀ {l:List aJ} {r:List aJ} {A:ai},(∀ j∈l,nt j g=true)→aV P Y true K (aE (l++g::r) A)→aV P Y true K (aE (g::(l++r)) A)
 | [],r,A,_,h=>h
 |j::l,r,A,hi,h=>by
  obtain ⟨B,J,U⟩:=fH.yC (g:=j) (rest:=l++g::r) h;have af:=aV.oe (l:=l) (r:=r) (fun k hk=>hi k (by simp[hk])) U;exact aV.sF (hi j (by simp)) (J.zK af)
end
def cB(o:Oper):List Nat:=(o.after.toList.filter fun e=>Region.binds .any e).map (·.on)
def mc(cl:List Nat):List Nat→Nat
 | []=>0
 |k::ks=>(2^k ||| cl.getD k 0) ||| mc cl ks
def tH(on:List (List Nat))(gs:List aJ)(cl:List Nat):Bool :=
 (List.range gs.length).all fun i=>(on.getD i []).all (fun k=>decide (k<i))&&Nat.beq (cl.getD i 0) (mc cl (on.getD i [])) &&
  (List.range i).all fun j=>(cl.getD i 0).testBit j||nt (gs.getD j default) (gs.getD i default)
theorem sJ{cl:List Nat}{j:Nat} : ∀ {l:List Nat},(mc cl l).testBit j=true→j∈l∨∃ k∈l,(cl.getD k 0).testBit j=true
 | [],h=>by simp[mc] at h
 |k::ks,h=>by
  simp only[mc,Nat.testBit_or,Bool.or_eq_true,Nat.testBit_two_pow,decide_eq_true_eq] at h;rcases h with (h | h) | h
  ·exact .inl (by simp[h])
  ·exact .inr ⟨k,by simp,h⟩
  ·rcases sJ h with h | ⟨m,J,U⟩
   ·exact .inl (by simp[h])
   ·exact .inr ⟨m,by simp[J],U⟩
structure vD (l:List Oper) (gs:List aJ):Prop where
 je:∀ i o,l[i]?=some o→∀ k∈cB o,k<i
 pW:∀ (S:Nat→Prop),(∀ i o,l[i]?=some o→S i→∀ k∈cB o,S k)→∀ i o g j,l[i]?=some o→gs[i]?=some g→(∀ k∈cB o,S k)→j<i→¬ S j→nt (gs.getD j default) g=true
theorem Pl{l:List Oper}{gs:List aJ}{cl:List Nat}(hlen:gs.length=l.length)(h:tH (l.map cB) gs cl=true):vD l gs:=by
 simp only[tH,zx5,zv8] at h;have fV:∀ i o,l[i]?=some o→∃ g,gs[i]?=some g∧(∀ k∈cB o,k<i)∧(∀ j,(cl.getD i 0).testBit j=true→j∈cB o∨∃ k∈cB o,(cl.getD k 0).testBit j=true)∧∀ j,j<i→(cl.getD i 0).testBit j=true∨nt (gs.getD j default) g=true:=by
  intro i o ho;have hi:i<l.length:=(zz7.1 ho).1;have J:=h i (by omega);have hon:(l.map cB).getD i []=cB o:=by simp[zz1,ho]
  have hgi:i<gs.length:=by omega
  have hg:gs[i]?=some gs[i]:=zy2 hgi;have hgd:gs.getD i default=gs[i]:=by simp[zz1,hg]
  rw[hon,hgd] at J;simp only[zz0,zx5,decide_eq_true_eq,Bool.or_eq_true,zv8] at J;have hb:=Nat.eq_of_beq_eq_true J.1.2;exact ⟨_,hg,J.1.1,fun j hj=>sJ (by rw[←hb];exact hj),J.2⟩
 refine ⟨fun i o ho=>(fV i o ho).choose_spec.2.1,?_⟩;intro S hS i o g j ho hg hon hj hnj;have key:∀ n i o,i≤n→l[i]?=some o→(∀ k∈cB o,S k)→∀ j,(cl.getD i 0).testBit j=true→S j:=by
  intro n
  induction n with
  |zero =>
   intro i o hi ho hon j hj;obtain ⟨g,_,J,U,_⟩:=fV i o ho;rcases U j hj with h | ⟨k,hk,_⟩
   ·exact hon j h
   ·have:=J k hk;omega
  |succ n ih =>
   intro i o hi ho hon j hj;obtain ⟨g,_,J,U,_⟩:=fV i o ho;rcases U j hj with h | ⟨k,hk,hjk⟩
   ·exact hon j h
   ·have hki:=J k hk;have hkl:k<l.length:=Nat.lt_trans hki (zz7.1 ho).1;obtain ⟨ok,hok⟩:∃ ok,l[k]?=some ok:=⟨l[k],zy2 hkl⟩
    exact ih k ok (by omega) hok (hS k ok hok (hon k hk)) j hjk
 obtain ⟨g',hg',_,_,af⟩:=fV i o ho;rw[hg,v6] at hg';subst hg';rcases af j hj with h | h
 ·exact absurd (key i i o (zz3 _) ho hon j h) hnj
 ·exact h
def ju(listed:Array Bool)(n:Nat):List Nat:=(List.range n).filter fun i => !listed.getD i true
def oS(gs:List aJ)(listed:Array Bool)(n:Nat):List aJ:=(ju listed n).map fun i=>gs.getD i default
theorem G1{i n:Nat}(h:i<n):List.range n=List.range i++i::(List.range (n-(i+1))).map (i+1 + ·):=by
 conv=>lhs;rw[show n=(i+1)+(n-(i+1)) by omega,List.range_add]
 rw[List.range_succ];simp
theorem adf{listed:Array Bool}{i n:Nat}(h:i<n)(ab:listed.size=n)(hu:listed.getD i true=false):∃ l1 l2,ju listed n=l1++i::l2∧ju (listed.setIfInBounds i true) n=l1++l2∧∀ j∈l1,j<i∧listed.getD j true=false:=by
 have same:∀ j,j≠i→(listed.setIfInBounds i true).getD j true=listed.getD j true:=fun j hj=>getD_set_ne true (Ne.symm hj);have lR:(listed.setIfInBounds i true).getD i true=true:=by simp[ab,h]
 refine ⟨(List.range i).filter fun j => !listed.getD j true,((List.range (n-(i+1))).map (i+1 + ·)).filter fun j => !listed.getD j true,?_,?_,?_⟩
 ·simp only[ju];rw[G1 h,List.filter_append,List.filter_cons];simp only[hu,Bool.not_false,if_true]
 ·simp only[ju];rw[G1 h,List.filter_append,List.filter_cons];simp only[lR,Bool.not_true,zz2,if_false]
  congr 1
  ·refine List.filter_congr fun j hj =>?_;rw[same j (by have:=zv8.1 hj;omega)]
  ·refine List.filter_congr fun j hj =>?_;obtain ⟨k,_,rfl⟩:=zy9.1 hj;rw[same _ (by omega)]
 ·intro j hj;simp only[zv2,zv8,Bool.not_eq_true'] at hj;exact hj
theorem Hc{n:Nat} : ju (Array.replicate n false) n=List.range n:=by
 simp only[ju];refine List.filter_eq_self.2 fun i hi =>?_;have:=zv8.1 hi;simp[this]
theorem abf(gs:List aJ):((List.range gs.length).map fun i=>gs.getD i default)=gs:=by
 apply List.ext_getElem
 ·simp
 ·intro i J U;simp[zz1,U]
section
variable {c:cV}
theorem jg{P:Program}{n:Nat}{aY:Array Oper} : ∀ {l:List Oper} {gs:List aJ},gh P n aY l=some gs→gs.length=l.length∧∀ (i:Nat) (o:Oper),l[i]?=some o→∃ g,gs[i]?=some g∧mi P n aY o=some g
 | [],gs,h=>by simp only[gh,v6] at h;subst h;exact ⟨rfl,fun i o ho=>by simp at ho⟩
 |o::l,gs,h=>by
  simp only[gh] at h;split at h
  case h_2=>cases h
  rename_i g gs' hg hgs;simp only[v6] at h;subst h;obtain ⟨J,U⟩:=jg (l:=l) hgs;refine ⟨by simp[J],fun i o' ho =>?_⟩;cases i with
  |zero=>simp only[List.getElem?_cons_zero,v6] at ho;subst ho;exact ⟨g,rfl,hg⟩
  |succ i=>simpa using U i o' (by simpa using ho)
theorem Ze{K:ai→Prop}{aY:Array Oper}{Q:Exit→Act→World→Prop}{o:Oper}{g:aJ}{rest:List aJ}{A:ai}{a:Act}{w:World}{Kw:Act→World→Prop}(hg:mi c.P c.n aY o=some g)(hwp:aV c.P c.Y true K (aE (g::rest) A))(ab:cd c A a w)
  (hK:∀ B a' w',aV c.P c.Y true K (aE rest B)→cd c B a' w'→Kw a' w'):if Region.wanted o (yielded aY a.tmps) then o.wpIn c.bB 9 c.P a w Kw Q else (∀ f,o.about c.P w a.eval=some f→c.bB.fn f)∧Kw (a.put o.dst undef) w:=by
 obtain ⟨J,U,af,ar⟩:=og hg;have step:aV c.P c.Y true K (bt A g.dst g.op rest (aE rest))→o.wpIn c.bB 9 c.P a w Kw Q:=fun h =>
  tU J U.symm (by rw[U];exact af) h ab (fun B a' w' hw hs'=>hK B a' w' hw hs')
 simp only[aE] at hwp;rcases ar with ⟨h5,h6⟩ | ⟨j,b,t,h5,h6,h7⟩
 ·rw[h6] at hwp;have hw:Region.wanted o (yielded aY a.tmps)=true:=by simp[Region.wanted,h5]
  rw[hw,if_pos rfl];exact step hwp
 ·rw[h7] at hwp;simp only at hwp;split at hwp
  ·rename_i b' hb';rw[tZ ab h5 h6 hb'];split at hwp
   ·rename_i hbb;subst hbb;simp only[BEq.rfl,if_true];exact step hwp
   ·rename_i hbb;have:(b'==b)=false:=by simpa using hbb
    rw[this];simp only[zz2,if_false];exact ⟨fun f _=>mz c f,hK _ _ _ hwp (by rw[U];exact ab.nJ af)⟩
  ·rename_i hb';rw[ua ab h5 h6 hb'];simp only[zz2,if_false];exact ⟨fun f _=>mz c f,hK _ _ _ hwp (by rw[U];exact ab.nJ af)⟩
  ·cases hwp
theorem JJ{K:ai→Prop}{aY:Array Oper}{gs:List aJ}{Q:Exit→Act→World→Prop}(hQ:∀ B a w,K B→cd c B a w→Q .normal a w)(hgs:gh c.P c.n aY aY.toList=some gs)(ah:vD aY.toList gs) :
  ∀ (fuel:Nat) (listed:Array Bool) (A:ai) (a:Act) (w:World),listed.size=aY.size→(∀ i o,aY.toList[i]?=some o→listed.getD i false=true→∀ k∈cB o,listed.getD k false=true)→(ju listed aY.size).length≤fuel →
   aV c.P c.Y true K (aE (oS gs listed aY.size) A)→cd c A a w→wpAnyIn c.bB 9 c.P .any aY Q fuel listed a w:=by
 obtain ⟨hlen,hat⟩:=jg hgs;have onOf_mem:∀ (o:Oper) (e:Edge),e∈o.after→Region.binds .any e=true→e.on∈cB o:=fun o e he hb=>by
  simp only[cB,zy9,zv2];exact ⟨e,⟨by simpa using he,hb⟩,rfl⟩
 have of_onOf:∀ (o:Oper) (k:Nat),k∈cB o→∃ e∈o.after,Region.binds .any e=true∧e.on=k:=fun o k hk=>by
  simp only[cB,zy9,zv2] at hk;obtain ⟨e,⟨J,U⟩,af⟩:=hk;exact ⟨e,by simpa using J,U,af⟩
 have last:∀ (listed:Array Bool) (A:ai) (a:Act) (w:World),listed.size=aY.size→Region.ready .any aY listed=[]→aV c.P c.Y true K (aE (oS gs listed aY.size) A)→cd c A a w→Q .normal a w:=by
  intro listed A a w hsz hr hwp ab;have hnone:ju listed aY.size=[]:=by
   have all:∀ n,∀ i,i<n→i<aY.size→listed.getD i true=true:=by
    intro n
    induction n with
    |zero=>intro i hi;omega
    |succ n ih =>
     intro i hi his;cases hb:listed.getD i true with
     |true=>rfl
     |false =>
      exfalso
      have ho:aY[i]?=some aY[i]:=zv7 his;have:i∈Region.ready .any aY listed:=mem_ready.2 ⟨hb,aY[i],ho,fun e he hbd=>by
       have hlt:=ah.je i aY[i] (by simp) e.on (onOf_mem _ e he hbd);have J:=ih e.on (by omega) (by omega);have U:e.on<listed.size:=by omega
       simpa[Array.getD_eq_getD_getElem?,U] using J⟩
      rw[hr] at this;cases this
   simp only[ju];refine List.filter_eq_nil_iff.2 fun i hi =>?_;have:=all (i+1) i (by omega) (zv8.1 hi);simp only[this,Bool.not_true,zz2,not_false_eq_true]
  simp only[oS,hnone,zx7,aE] at hwp;cases hwp with
  |done hk=>exact hQ A a w hk ab
 intro fuel
 induction fuel with
 |zero =>
  intro listed A a w hsz hcl hcnt hwp ab;have hnone:ju listed aY.size=[]:=List.length_eq_zero_iff.1 (by omega);have hr:Region.ready .any aY listed=[]:=by
   refine List.eq_nil_iff_forall_not_mem.2 fun i hi =>?_;obtain ⟨J,o,ho,_⟩:=mem_ready.1 hi;have:i∈ju listed aY.size:=by
    simp only[ju,zv2,zv8,J,Bool.not_false,and_true];exact (zy4.1 ho).1
   rw[hnone] at this;cases this
  exact ⟨hr,last listed A a w hsz hr hwp ab⟩
 |succ fuel ih =>
  intro listed A a w hsz hcl hcnt hwp ab;refine ⟨fun hr=>last listed A a w hsz hr hwp ab,fun i hi =>?_⟩;obtain ⟨hun,o,ho,hall⟩:=mem_ready.1 hi;have hin:i<aY.size:=(zy4.1 ho).1;obtain ⟨l1,l2,e1,e2,hl1⟩:=adf hin hsz hun;have hol:aY.toList[i]?=some o:=by simpa using ho
  obtain ⟨g,hgi,hcg⟩:=hat i o hol;have hon:∀ k∈cB o,listed.getD k false=true:=fun k hk=>by
   obtain ⟨e,J,U,af⟩:=of_onOf o k hk;exact af▸hall e J U
  have hgd:gs.getD i default=g:=by simp[zz1,hgi]
  have hwp':aV c.P c.Y true K (aE (g::oS gs (listed.setIfInBounds i true) aY.size) A):=by
   simp only[oS,e1,zy5,zz5,hgd] at hwp;simp only[oS,e2,zy5];refine aV.oe (fun j hj =>?_) hwp;obtain ⟨k,hk,rfl⟩:=zy9.1 hj;obtain ⟨hk1,hk2⟩:=hl1 k hk;refine ah.pW (fun k=>listed.getD k false=true) hcl i o g k hol hgi hon hk1 ?_;have hks:k<listed.size:=by omega
   simp[Array.getD_eq_getD_getElem?,hks] at hk2 ⊢;exact hk2
  unfold wpOpIn;rw[ho];refine Ze hcg hwp' ab fun B a' w' hw hs'=>ih _ B a' w' (by simpa using hsz) ?_ ?_ hw hs'
  ·intro m om hom hm k hk;by_cases hmi:m=i
   ·subst hmi;rw[hol,v6] at hom;subst hom;exact getD_set_true (hon k hk)
   ·rw[getD_set_ne false (Ne.symm hmi)] at hm;exact getD_set_true (hcl m om hom hm k hk)
  ·have:(ju listed aY.size).length=(ju (listed.setIfInBounds i true) aY.size).length+1:=by
    rw[e1,e2];simp;omega
   omega
theorem ade{K:ai→Prop}{aY:Array Oper}{gs:List aJ}{Q:Exit→Act→World→Prop}{id:Nat}{A:ai}{a:Act}{w:World}(hm:c.P.follows .mixedOrders=true)(hQ:∀ B a w,K B→cd c B a w→Q .normal a w)(hgs:gh c.P c.n aY aY.toList=some gs)(ah:vD aY.toList gs)
  (hwp:aV c.P c.Y true K (aE gs A)) (ab:cd c A a w):(Code.region id aY true).wpIn c.bB 9 c.P Q a w:=by
 refine wpIn_region_any hm (JJ hQ hgs ah aY.size (Array.replicate aY.size false) A a _ (by simp) ?_ ?_ ?_ ?_)
 ·intro i o _ h
  exfalso
  simp only[Array.getD_eq_getD_getElem?,Array.getElem?_replicate] at h;split at h <;>simp at h
 ·rw[Hc];simp
 ·have ao:=(jg hgs).1;simp only[zx6] at ao;simp only[oS,Hc];rw[←ao,abf];exact hwp
 ·obtain ⟨D,E,ab⟩:=ab;exact ⟨D,E,ab.grow (w' := { w with drawn:=w.drawn+1 }) ⟨rfl,rfl,rfl,zz3 _,fun _ _=>rfl⟩ (fun _ _ h=>h) (fun _ _ h _=>h) (fun b o h=>ab.aU b o h)⟩
end
inductive bx where
 |cg (on:Option (List (List Nat))) (gs:List aJ)
 |seq (x y:bx)
 |cond (b:aM) (x y:bx)
 |block (id:Nat) (x:bx)
 |loop (x:bx)
 |exit (id:Nat)
 |ret
 |skip
 |scope (x:bx)
 |label
 |wg
 |mS (f:aM) (ps:List Nat) (x y:bx)
 deriving Inhabited
def eN(P:Program)(n:Nat):Code→Option bx
 | .region _ aY draw=>match gh P n aY aY.toList with
  |some gs=>if (!draw||P.follows .mixedOrders)=true then some (.cg (bif draw then some (aY.toList.map cB) else none) gs) else none
  |none=>some .wg
 | .seq x y=>match eN P n x,eN P n y with
  |some x,some y=>some (.seq x y)
  |_,_=>none
 | .cond b x y=>match bq P 0 b,eN P n x,eN P n y with
  |some b,some x,some y=>some (.cond b x y)
  |_,_,_=>none
 | .block id x=>match eN P n x with
  |some x=>some (.block id x)
  |none=>none
 | .loop x=>match eN P n x with
  |some x=>some (.loop x)
  |none=>none
 | .exit id=>some (.exit id)
 | .ret=>some .ret
 | .skip=>some .skip
 | .scope x=>match eN P n x with
  |some x=>some (.scope x)
  |none=>none
 | .label _=>some .label
 | .rangeFunc f ps x y=>match bq P 0 f,eN P n x,eN P n y with
  |some f,some x,some y=>if (ps.toList.all fun p=>p<n)=true then some (.mS f ps.toList x y) else none
  |_,_,_=>none
 |_=>none
def uk(c:cV)(Q:Exit→ai→Prop):Exit→Act→World→Prop:=fun e a w=>∃ A,Q e A∧cd c A a w
def ae(c:cV)(x:bx)(Q:Exit→ai→Prop)(A:ai):Prop :=
 ∀ code,eN c.P c.n code=some x→∀ a w,cd c A a w→code.wpIn c.bB 9 c.P (uk c Q) a w
def ej(k:ai→Prop)(Q:Exit→ai→Prop):Exit→ai→Prop
 | .normal,A=>k A
 |e,A=>Q e A
def jF(id:Nat)(Q:Exit→ai→Prop):Exit→ai→Prop
 | .exit id',A=>if id'=id then Q .normal A else Q (.exit id') A
 |e,A=>Q e A
section
variable {c:cV} {A:ai} {Q:Exit→ai→Prop}
def OY(d:Option (List (List Nat)))(gs:List aJ)(cl:List Nat):Bool:=match d with
 |none=>true
 |some on=>tH on gs cl
theorem ae.cg{d:Option (List (List Nat))}{gs:List aJ}{cl:List Nat}(ah:OY d gs cl=true)(h:∀ K:ai→Prop,(∀ B,Q .normal B→K B)→aV c.P c.Y d.isSome K (aE gs A)):ae c (.cg d gs) Q A:=by
 intro code hc a w ab;cases code <;>simp only[eN] at hc <;>try (first | (cases hc;done) | ((repeat' split at hc) <;>cases hc;done))
 rename_i id aY draw;split at hc
 ·rename_i gs' hgs;split at hc
  case isFalse=>cases hc
  rename_i hok;simp only[v6,bx.cg.injEq] at hc;obtain ⟨rfl,rfl⟩:=hc;cases draw with
  |false=>exact wpIn_region_list (tY (K:=Q .normal) (fun B a w hk ab=>⟨B,hk,ab⟩) aY.toList gs' A a w hgs (h _ fun _ hb=>hb) ab)
  |true =>
   simp only[Bool.not_true,Bool.false_or] at hok;exact ade (K:=Q .normal) hok (fun B a w hk ab=>⟨B,hk,ab⟩) hgs (Pl (jg hgs).1 ah) (h _ fun _ hb=>hb) ab
 ·cases hc
theorem ae.seq{x y:bx}(h:ae c x (ej (fun B=>ae c y Q B) Q) A):ae c (.seq x y) Q A:=by
 intro code hc a w ab;cases code <;>simp only[eN] at hc <;>try (first | (cases hc;done) | ((repeat' split at hc) <;>cases hc;done))
 rename_i cx cy;split at hc
 ·rename_i x' y' hx hy;simp only[v6,bx.seq.injEq] at hc;obtain ⟨rfl,rfl⟩:=hc;refine wpIn_seq (wpIn_mono (h cx hx a w ab) ?_);rintro e a' w' ⟨B,hq,hs'⟩;cases e <;>simp only[ej,Exit.then] at * <;>first | exact hq cy hy a' w' hs' | exact ⟨B,hq,hs'⟩
 ·cases hc
theorem ae.cond{b:aM}{x y:bx}{t:Bool}(hb:aj A b=.bool t)(J:t=true→ae c x Q A)(U:t=false→ae c y Q A):ae c (.cond b x y) Q A:=by
 intro code hc a w ab;cases code <;>simp only[eN] at hc <;>try (first | (cases hc;done) | ((repeat' split at hc) <;>cases hc;done))
 rename_i cb cx cy;split at hc
 ·rename_i b' x' y' hb' hx hy;simp only[v6,bx.cond.injEq] at hc;obtain ⟨rfl,rfl,rfl⟩:=hc;obtain ⟨D,E,hs'⟩:=ab;have hv:=bS hs' hb';rw[hb] at hv;exact wpIn_cond_split (lg hv) (fun ht=>J ht cx hx a w ⟨D,E,hs'⟩) (fun ht=>U ht cy hy a w ⟨D,E,hs'⟩)
 ·cases hc
theorem ae.block{id:Nat}{x:bx}(h:ae c x (jF id Q) A):ae c (.block id x) Q A:=by
 intro code hc a w ab;cases code <;>simp only[eN] at hc <;>try (first | (cases hc;done) | ((repeat' split at hc) <;>cases hc;done))
 rename_i id' cx;split at hc
 ·rename_i x' hx;simp only[v6,bx.block.injEq] at hc;obtain ⟨rfl,rfl⟩:=hc;refine wpIn_block (wpIn_mono (h cx hx a w ab) ?_);rintro e a' w' ⟨B,hq,hs'⟩;cases e <;>simp only[jF,Exit.inBlock] at * <;>first
   |exact ⟨B,hq,hs'⟩
   |(split at hq
     ·rename_i he;rw[if_pos he];exact ⟨B,hq,hs'⟩
     ·rename_i he;rw[if_neg he];exact ⟨B,hq,hs'⟩)
 ·cases hc
theorem ae.exit{id:Nat}(h:Q (.exit id) A):ae c (.exit id) Q A:=by
 intro code hc a w ab;cases code <;>simp only[eN] at hc <;>try (first | (cases hc;done) | ((repeat' split at hc) <;>cases hc;done))
 simp only[v6,bx.exit.injEq] at hc;subst hc;exact wpIn_exit ⟨A,h,ab⟩
theorem ae.ret(h:Q .ret A):ae c .ret Q A:=by
 intro code hc a w ab;cases code <;>simp only[eN] at hc <;>try (first | (cases hc;done) | ((repeat' split at hc) <;>cases hc;done))
 exact wpIn_ret ⟨A,h,ab⟩
theorem ae.skip(h:Q .normal A):ae c .skip Q A:=by
 intro code hc a w ab;cases code <;>simp only[eN] at hc <;>try (first | (cases hc;done) | ((repeat' split at hc) <;>cases hc;done))
 exact wpIn_skip ⟨A,h,ab⟩
theorem CU{p:Nat→Prop}(h:∃ n,p n):∃ n,p n∧∀ m,p m→n≤m:=by
 obtain ⟨n,hn⟩:=h
 induction n using Nat.strongRecOn with
 |_ n ih =>
  by_cases hm:∃ m,m<n∧p m
  ·obtain ⟨m,J,U⟩:=hm;exact ih m J U
  ·exact ⟨n,hn,fun m hp=>Nat.le_of_not_lt fun hlt=>hm ⟨m,hlt,hp⟩⟩
open Classical in
noncomputable def least(p:Nat→Prop):Nat:=if h:∃ n,p n then (CU h).choose else 0
theorem Ey{p:Nat→Prop}(h:∃ n,p n):p (least p)∧∀ m,p m→least p≤m:=by
 simp only[least,dif_pos h];exact (CU h).choose_spec
theorem aeu{bB:Fence}{N:Nat}{P:Program}{code:Code}{QQ:Exit→Act→World→Prop}(aQ:Nat→Act→World→Prop)(round:∀ n a w,aQ n a w→code.wpIn bB N P (Exit.then (fun a' w'=>∃ m,m<n∧aQ m a' w') QQ) a w) :
  ∀ n a w,aQ n a w→(Code.loop code).wpIn bB N P QQ a w:=by
 intro n a w h;refine wpIn_loop (fun a w=>∃ n,aQ n a w) (fun a w=>least fun n=>aQ n a w) ⟨n,h⟩ ?_;intro a w hI;have hm:=(Ey hI).1;refine wpIn_mono (round _ a w hm) ?_;intro e a' w' hq;cases e <;>simp only[Exit.then] at hq ⊢ <;>try exact hq
 obtain ⟨m,J,U⟩:=hq;exact ⟨⟨m,U⟩,Nat.lt_of_le_of_lt ((Ey ⟨m,U⟩).2 m U) J⟩
def bp(A B:ai):Prop:=∀ (c:cV) (a:Act) (w:World),cd c A a w→cd c B a w
theorem bp.refl(A:ai):bp A A:=fun _ _ _ h=>h
theorem bp.trans{A B C:ai}(h:bp A B)(k:bp B C):bp A C:=fun c a w ab=>k c a w (h c a w ab)
theorem ae.sub{x:bx}{B:ai}(hsub:bp A B)(h:ae c x Q B):ae c x Q A:=fun code hc a w ab=>h code hc a w (hsub c a w ab)
theorem ae.mono{x:bx}{Q':Exit→ai→Prop}(h:ae c x Q A)(hq:∀ e B,Q e B→Q' e B):ae c x Q' A :=
 fun code hc a w ab=>wpIn_mono (h code hc a w ab) fun e a' w' ⟨B,J,U⟩=>⟨B,hq e B J,U⟩
theorem ae.loop{σ:Type}(S:σ→ai)(C:σ→Prop)(m:σ→Nat)(s0:σ){x:bx}(aR:C s0)(hsub:bp A (S s0))
  (round:∀ s,C s→ae c x (ej (fun B=>∃ s',C s'∧m s'<m s∧bp B (S s')) Q) (S s)):ae c (.loop x) Q A:=by
 intro code hc a w ab;cases code <;>simp only[eN] at hc <;>try (first | (cases hc;done) | ((repeat' split at hc) <;>cases hc;done))
 rename_i cx;split at hc
 ·rename_i x' hx;simp only[v6,bx.loop.injEq] at hc;subst hc;refine aeu (fun n a w=>∃ s,C s∧m s=n∧cd c (S s) a w) ?_ (m s0) a w ⟨s0,aR,rfl,hsub c a w ab⟩;rintro n a w ⟨s,hC,rfl,ab⟩;refine wpIn_mono (round s hC cx hx a w ab) ?_;rintro e a' w' ⟨B,hq,hs'⟩;cases e <;>simp only[ej,Exit.then] at * <;>first
   |exact ⟨B,hq,hs'⟩
   |(obtain ⟨s',J,U,af⟩:=hq;exact ⟨m s',U,s',J,rfl,af c a' w' hs'⟩)
 ·cases hc
end
inductive bQ where
 |tmp (t:Nat)
 |cell (a:Nat) (s:Option Nat)
def h3(P:Program):List ResultVar→Option (List bQ)
 | []=>some []
 | .tmp t::l=>(h3 P l).map (.tmp t :: ·)
 | .cell a t::l=>match gl P t,h3 P l with
  |some s,some l=>some (.cell a s::l)
  |_,_=>none
def u4(A:ai):bQ→Option I
 | .tmp t=>br true A (A.t t)
 | .cell a s=>match cM A (A.t a) with
  |some x=>if ca s x then br true A x else none
  |none=>none
def fC(A:ai):List bQ→Option (List I)
 | []=>some []
 |r::rs=>match u4 A r,fC A rs with
  |some x,some xs=>some (x::xs)
  |_,_=>none
def kB:List I→I
 | [x]=>x
 |xs=>.tuple xs
def pf(args:List I):ai:=⟨fun t=>args.getD t .undef,fun _=>none⟩
def lb(rs:List bQ)(r:I):Exit→ai→Prop
 | .ret,A=>∃ xs,fC A rs=some xs∧kB xs=r
 | .normal,A=>∃ xs,fC A rs=some xs∧kB xs=r
 |_,_=>False
def pg(args:List I)(os:List (Nat×aq)):ai:=⟨fun t=>args.getD t .undef,ak os⟩
theorem zI{P:Program}{n:Nat}{w:World}{D:aS}{E:bf}{Y:Value→List I→List (Nat×aq)→cL→Prop}{args:List I}{os:List (Nat×aq)}{vs:List Value}(hD:∀ b o,D b o→b<w.heap.size)(ho:kh (fun _=>True) w D E (ak os))
  (hv:aH w D E args vs) (hn:vs.length≤n) (hos:∀ m,ay os m=true→n≤m∧1000000≤m) (hy:pt ⟨P,w,D,n,cN E,E,Y,none,none⟩) :
  aX ⟨P,w,D,n,cN E,E,Y,none,none⟩ (pg args os) { tmps:=vs.toArray++Array.replicate (n-vs.toArray.size) undef,defers:=[] } w D E:=by
 refine ⟨by simp;omega,⟨[],rfl,.nil,fun _ h=>by simp at h⟩,fun t =>?_,ft.refl _ _,fun _ _ h _=>h,hD,fun m =>?_,ho.cU,fun m e h=>.inr ⟨e,h,.refl e⟩,fun m hm =>?_,fun _ _ h=>h,hy,.refl _ _⟩
 ·have key:∀ (args:List I) (vs:List Value) (t:Nat),aH w D E args vs→a8 w D E (args.getD t .undef) (vs.getD t undef):=by
   intro args
   induction args with
   |nil=>intro vs t h;simp only[aH] at h;subst h;simp[a8]
   |cons x xs ih =>
    intro vs t h;simp only[aH] at h;obtain ⟨v,rest,cs,rfl,J,U,af⟩:=h;cases t with
    |zero=>simpa using gL J U
    |succ t=>simpa using ih rest t af
  have:=key args vs t hv;have e:(vs.toArray++Array.replicate (n-vs.toArray.size) undef).getD t undef=vs.getD t undef:=by
   simp only[Array.getD_eq_getD_getElem?,zz1];rcases Nat.lt_or_ge t vs.length with h | h
   ·rw[Array.getElem?_append_left (by simpa using h)];simp
   ·rw[Array.getElem?_append_right (by simpa using h),zv1 h];simp only[Array.getElem?_replicate];split <;>rfl
  simp only[pg];rw[e];exact this
 ·have h:=ho.bU m;simp only[pg];cases hx:ak os m with
  |none=>rw[hx] at h;exact h
  |some x =>
   rw[hx] at h;cases x with
   |box x =>
    obtain ⟨b,cs,T,k1,_,k3⟩:=h;exact ⟨b,cs,T,k1,.inr ⟨m,_,k1,rfl⟩,k3⟩
   |bV T sz es =>
    obtain ⟨aK,k1,k2,k3⟩:=h;refine ⟨aK,k1,k2,?_⟩;cases aK with
    |none=>exact k3
    |some bc =>
     obtain ⟨b,cap⟩:=bc;obtain ⟨cs,pre,rest,_,k4⟩:=k3;exact ⟨cs,pre,rest,.inr ⟨m,_,k1,rfl⟩,k4⟩
   |dT T xs =>
    obtain ⟨aK,k1,k2,k3⟩:=h;refine ⟨aK,k1,k2,?_⟩;cases aK with
    |none=>exact k3
    |some bc =>
     obtain ⟨b,cap⟩:=bc;obtain ⟨cs,rest,_,k4⟩:=k3;exact ⟨cs,rest,.inr ⟨m,_,k1,rfl⟩,k4⟩
   |dR x =>
    obtain ⟨b,k1,_,k3⟩:=h;exact ⟨b,k1,.inr ⟨m,_,k1,rfl⟩,k3⟩
   |bD ks vs =>
    obtain ⟨b,es,ck,k1,_,k3⟩:=h;exact ⟨b,es,ck,k1,.inr ⟨m,_,k1,rfl⟩,k3⟩
   |it ks vs left cur =>
    obtain ⟨r,b,es,ck,eZ,se,la,k1,_,k3⟩:=h;exact ⟨r,b,es,ck,eZ,se,la,k1,.inr ⟨m,_,k1,rfl⟩,k3⟩
 ·have h:=ho.bU m;refine hos m ?_;cases hx:ak os m with
  |none=>rw[hx] at h;exact absurd h hm
  |some x=>simp[ay,hx]
def sq(tmps:Array Value):ResultVar→Sem Value
 | .tmp t=>pure (tmps.getD t undef)
 | .cell a t=>do loadVar t (←asAddr (tmps.getD a undef))
theorem adp(fn:Func)(tmps:Array Value):results fn tmps=(do
  let vs ←fn.results.mapM (sq tmps)
  pure (if h:vs.size=1 then vs[0] else .tuple vs)):=by
 unfold results;rfl
def sa(A:ai):bQ→Option I
 | .tmp t=>some (A.t t)
 | .cell a s=>match cM A (A.t a) with
  |some x=>if ca s x then some x else none
  |none=>none
def mP(A A0:ai)(os:List (Nat×aq)):List bQ→List I→Prop
 | [],[]=>True
 |r::rs,y::ys=>(∃ x,sa A r=some x∧((y=x∧x.bX=true∧x.only (ay os)=true)∨br true A0 x=some y))∧mP A A0 os rs ys
 |_,_=>False
def ai.lh(A:ai)(os:List (Nat×aq)):ai:=⟨A.t,fun n=>if ay os n then none else A.o n⟩
def jD(rs:List bQ)(post:cL)(A:ai):Prop :=
 ∃ (os:List (Nat×aq)) (xs:List I),(∀ n x,ak os n=some x→A.o n=some x∧x.only (ay os)=true∧x.eG=true)∧mP A (A.lh os) os rs xs∧post (kB xs) os
def oT(rs:List bQ)(post:cL):Exit→ai→Prop
 | .ret,A=>jD rs post A
 | .normal,A=>jD rs post A
 |_,_=>False
theorem zd{c:cV}{A:ai}{a:Act}{w:World}{D:aS}{E:bf}(ab:aX c A a w D E){A0:ai}(hu:eE A0 A){os:List (Nat×aq)}{D':aS}{E':bf}(hw:iP true A0 D E D')(aF:∀ n,ay os n=true→E' n=E n)(hE':∀ n,ay os n=false→E' n=none) :
  ∀ (rs:List ResultVar) (ls:List bQ) (xs:List I),h3 c.P rs=some ls→mP A A0 os ls xs→∃ vs:List Value,(rs.mapM (sq a.tmps)).run c.P w=.ok vs w∧aH w D' E' xs vs
 | [],ls,xs,hc,hr=>by
  simp only[h3,v6] at hc;subst hc;cases xs with
  |nil=>exact ⟨[],by simp,by simp[aH]⟩
  |cons x xs=>simp[mP] at hr
 |r::rs,ls,xs,hc,hr=>by
  have ao:ef w D E' w D' E':=⟨hw.dh,fun _ _ _ _ h=>h,fun _ _ _ h=>h,fun _ aK l h=>⟨aK,l,h,zz3 _,fun _=>rfl⟩,fun _ _ h=>h,fun _ _ h=>h,fun _ _ _ _ h=>h⟩
  have fin1:∀ {x y:I} {v:Value},a8 w D E x v→((y=x∧x.bX=true∧x.only (ay os)=true)∨br true A0 x=some y)→∃ cs,bC y v cs∧al w D' E' y cs:=by
   intro x y v hv hf;rcases hf with ⟨rfl,J,U⟩ | hf
   ·have af:=a8.later ao (a8.dq aF U hv);cases y <;>simp only[a8] at af <;>first | (simp[I.bX] at J;done) | exact af
   ·have J:aH w D E [x] [v]:=l6 [x] [v] (.cons hv .nil) (by
     intro z hz;simp only[zx1] at hz;subst hz;cases z <;>simp_all[br,I.bX])
    have U:=mw (E':=E') ab hu hw [x] [y] [v] J (by simp[cm,hf]);simp only[aH] at U;obtain ⟨v',rest,cs,e,k1,k2,_⟩:=U;simp only[zw3] at e;obtain ⟨rfl,_⟩:=e;exact ⟨cs,k1,k2⟩
  cases r with
  |tmp t =>
   simp only[h3,t8] at hc;obtain ⟨ls',hl',rfl⟩:=hc;cases xs with
   |nil=>simp[mP] at hr
   |cons y ys =>
    simp only[mP] at hr;obtain ⟨⟨x,J,U⟩,af⟩:=hr;simp only[sa,v6] at J;subst J;obtain ⟨vs,k1,k2⟩:=zd ab hu hw aF hE' rs ls' ys hl' af;obtain ⟨cs,k3,k4⟩:=fin1 (ab.eb t) U;refine ⟨a.tmps.getD t undef::vs,?_,?_⟩
    ·simp only[List.mapM_cons,Sem.run_bind,sq,Sem.run_pure,Result.andThen_ok,k1]
    ·simp only[aH];exact ⟨_,vs,cs,rfl,k3,k4,k2⟩
  |cell ad t =>
   simp only[h3] at hc;split at hc
   ·rename_i s ls' hk hl';simp only[v6] at hc;subst hc;cases xs with
    |nil=>simp[mP] at hr
    |cons y ys =>
     simp only[mP] at hr;obtain ⟨⟨x,J,U⟩,af⟩:=hr;obtain ⟨vs,k1,k2⟩:=zd ab hu hw aF hE' rs ls' ys hl' af;simp only[sa] at J;split at J
     ·rename_i z hz;split at J
      ·rename_i hok;simp only[v6] at J;subst J;obtain ⟨b,off,cs,q1,q2,q3⟩:=ab.AF (ab.eb ad) hz;obtain ⟨v,q4,q5⟩:=Hz hk hok q2 q3;obtain ⟨cs',k3,k4⟩:=fin1 q5 U;refine ⟨v::vs,?_,?_⟩
       ·have e:(sq a.tmps (.cell ad t)).run c.P w=.ok v w:=by
         simp only[sq,Sem.run_bind,q1,asAddr,Sem.run_pure,Result.andThen_ok,q4]
        simp only[List.mapM_cons,Sem.run_bind,Sem.run_pure,Result.andThen_ok,k1,e]
       ·simp only[aH];exact ⟨_,vs,cs',rfl,k3,k4,k2⟩
      ·cases J
     ·cases J
   ·cases hc
theorem aX.Cp{c:cV}{A:ai}{a:Act}{w:World}{D:aS}{E:bf}(h:aX c A a w D E)(hb:c.fx=none){B:Nat}{ds:List Deferred}(ah:a.defers = { target:=.collected B,args := #[] } :: ds) :
  w.heap[B]?=some (.deferred (some []))∧aX c A { a with defers:=ds } (w.putObj B (.deferred none)) D E:=by
 have hdf:=h.eS;rw[hb] at hdf;obtain ⟨Bs,J,U,af⟩:=hdf;rw[ah] at J;cases Bs with
 |nil=>cases J
 |cons B' Bs =>
  simp only[zz5,zw3,Deferred.mk.injEq,Target.collected.injEq,and_true] at J;obtain ⟨rfl,rfl⟩:=J;have hB:=af B (by simp);have hlt:B<w.heap.size:=(zy4.1 hB.2).1;have ao:ef w D E (w.putObj B (.deferred none)) D E :=
   ⟨fun _ _ h=>h,fun b o v _ hv=>wK hB.2 rfl hv,fun _ _ _ h=>h,fun _ aK l h=>⟨aK,l,h,zz3 _,fun _=>rfl⟩,fun _ _ h=>h,fun _ _ h=>h,fun b es ck _ hm=>(World.putObj_heap_other (fun e=>by rw[e,hB.2] at hm;cases hm)).trans hm⟩
  have hne:∀ {b:Nat} {cs:Array Value} {T:TypeId},w.heap[b]?=some (.cells cs T (0,0))→(w.putObj B (.deferred none)).heap[b]?=w.heap[b]?:=fun {b cs T} hb =>
   World.putObj_heap_other (fun e=>by rw[e,hB.2] at hb;cases hb)
  refine ⟨hB.2,h.sz,by rw[hb];refine ⟨Bs,rfl,(List.nodup_cons.1 U).2,fun B2 hB2=>⟨(af B2 (by simp[hB2])).1,?_⟩⟩;rw[World.putObj_heap_other (fun e=>(List.nodup_cons.1 U).1 (by rw[←e];exact hB2))];exact (af B2 (by simp[hB2])).2,fun t=>a8.later ao (h.eb t),h.dZ.trans ⟨rfl,rfl,rfl,by simp,fun k hk =>?_⟩,h.dh,fun b o ah=>by have:=h.aU b o ah;simpa using this,fun n =>?_,h.cU,h.ec,h.fe,h.cX,h.fp,h.lp ao⟩
  ·exact World.putObj_heap_other (fun e=>hk (e▸.inl hB.1))
  ·refine (h.bU n).later ao rfl fun e b he hb=>⟨?_,fun _ h=>h⟩
   have hob:=h.bU n;unfold dc at hob;split at hob
   ·rw[hob] at he;cases he
   ·obtain ⟨b',cs,T,k1,_,k3,_⟩:=hob;rw[k1,v6] at he;subst he;simp only[bR.aK,v6] at hb;subst hb;exact hne k3
   ·obtain ⟨aK,k1,_,k3⟩:=hob;rw[k1,v6] at he;subst he;split at k3
    ·simp[bR.aK] at hb
    ·obtain ⟨cs,pre,rest,_,k5,_⟩:=k3;simp only[bR.aK,v6] at hb;subst hb;exact hne k5
   ·obtain ⟨b',k1,_,k3,k4,_⟩:=hob;rw[k1,v6] at he;subst he;simp only[bR.aK,v6] at hb;subst hb;exact World.putObj_heap_other (fun e=>by rw[e,hB.2] at k3;cases k3;cases k4)
   ·obtain ⟨b',es,ck,k1,_,k3,_⟩:=hob;rw[k1,v6] at he;subst he;cases hb;exact World.putObj_heap_other (fun e=>by rw[e,hB.2] at k3;cases k3)
   ·obtain ⟨r,b',es,ck,eZ,se,la,k1,_,k3,_⟩:=hob;rw[k1,v6] at he;subst he;cases hb;exact World.putObj_heap_other (fun e=>by rw[e,hB.2] at k3;cases k3)
   ·obtain ⟨aK,k1,_,k3⟩:=hob;rw[k1,v6] at he;subst he;split at k3
    ·simp[bR.aK] at hb
    ·obtain ⟨cs,m,_,k5,_⟩:=k3;simp only[bR.aK,v6] at hb;subst hb;exact hne k5
def mf(w:World)(D:aS)(E:bf)(post:cL)(v:Value)(w':World):Prop :=
 ∃ D' E' r os',post r os'∧a8 w' D' E' r v∧kh (fun b=>w.heap.size≤b∨cN E b) w' D' E' (ak os') ∧
  ft (fun b=>w.heap.size≤b∨cN E b) w w'∧(∀ b o,D b o→D' b o)∧(∀ b o,D' b o→b<w'.heap.size)∧(∀ b o,D' b o→b<w.heap.size→¬ cN E b→D b o) ∧
  (∀ n e,E n=some e→ay os' n=true→∃ e',E' n=some e'∧e.le e')∧hZ w D w'
theorem aX.x3{P:Program}{n:Nat}{w:World}{D:aS}{E:bf}{Y:Value→List I→List (Nat×aq)→cL→Prop}{kE:Option Nat}{fx:Option (List Deferred)}{A:ai}{a:Act}{w':World}{D':aS}{E':bf}
  (ab:aX ⟨P,w,D,n,cN E,E,Y,kE,fx⟩ A a w' D' E') {os:List (Nat×aq)} (J:∀ n x,ak os n=some x→A.o n=some x∧x.only (ay os)=true∧x.eG=true) :
  ∃ D2 E2,iP true (A.lh os) D' E' D2∧(∀ n,ay os n=true→E2 n=E' n)∧(∀ n,ay os n=false→E2 n=none)∧kh (fun b=>w.heap.size≤b∨cN E b) w' D2 E2 (ak os) ∧
   ft (fun b=>w.heap.size≤b∨cN E b) w w'∧(∀ b o,D b o→D2 b o)∧(∀ b o,D2 b o→b<w'.heap.size)∧(∀ b o,D2 b o→b<w.heap.size→¬ cN E b→D b o) ∧
   (∀ n e,E n=some e→ay os n=true→∃ e',E2 n=some e'∧e.le e')∧hZ w D w':=by
 obtain ⟨c,hc⟩:∃ c:cV,c=⟨P,w,D,n,cN E,E,Y,kE,fx⟩:=⟨_,rfl⟩
 rw[←hc] at ab;have hM:c.fu=fun b=>w.heap.size≤b∨cN E b:=by rw[hc];rfl
 obtain ⟨E2,hE2⟩:∃ E2:bf,E2=fun n=>if ay os n then E' n else none:=⟨_,rfl⟩
 obtain ⟨D2,hD2⟩:∃ D2:aS,D2=fun b o=>b<w'.heap.size∧(D' b o∨(¬ cN E2 b∧c.fu b)):=⟨_,rfl⟩
 have e2:∀ n,ay os n=true→E2 n=E' n:=fun n hn=>by rw[hE2];simp only[hn,if_true]
 have cut:∀ n e,E2 n=some e→ay os n=true∧E' n=some e:=fun n e he=>by
  rw[hE2] at he;simp only at he;split at he
  ·exact ⟨by assumption,he⟩
  ·cases he
 have up2:∀ b o,D' b o→D2 b o:=fun b o ah=>by
  rw[hD2];exact ⟨ab.aU b o ah,.inl ah⟩
 have down:∀ b o,D2 b o→cN E2 b→D' b o:=fun b o ah hb=>by
  rw[hD2] at ah;rcases ah.2 with h | h
  ·exact h
  ·exact absurd hb h.1
 have hu:eE (A.lh os) A:=fun n x hx=>by
  simp only[ai.lh] at hx;split at hx
  ·cases hx
  ·exact hx
 have notOwn:∀ n e b,(A.lh os).o n≠none→E' n=some e→e.aK=some b→¬ cN E2 b:=fun n e b hn he hb ho=>by
  obtain ⟨m,e',k1,k3⟩:=ho;obtain ⟨k1,k2⟩:=cut m e' k1;have:=ab.cU n m e _ b he k2 hb k3;subst this;simp[ai.lh,k1] at hn
 have hw:iP true (A.lh os) D' E' D2:=by
  refine ⟨up2,fun n T sz es b cap hn aF o _ =>?_,fun _ n x b bg hn aF o _ =>?_,fun _ n ks vs b hn aF =>?_⟩
  ·rw[hD2];refine ⟨ab.gw aF rfl,.inr ⟨notOwn n _ b (by rw[hn];simp) aF rfl,?_⟩⟩;obtain ⟨aK,k1,k2,k3⟩:=ab.bV (hu n _ hn);rw[aF] at k1;simp only[v6,bR.rw.injEq,and_true] at k1;subst k1;obtain ⟨_,_,_,k4,_⟩:=k3;exact k4
  ·rw[hD2];refine ⟨ab.gw aF rfl,.inr ⟨notOwn n _ b (by rw[hn];simp) aF rfl,?_⟩⟩;obtain ⟨b',cs,T,k1,k2,_⟩:=ab.box (hu n _ hn);rw[k1] at aF;simp only[v6,bR.aP.injEq] at aF;obtain ⟨rfl,_⟩:=aF;exact k2
  ·rw[hD2];refine ⟨ab.gw aF rfl,.inr ⟨notOwn n _ b (by rw[hn];simp) aF rfl,?_⟩⟩;obtain ⟨b',es,ck,k1,k2,_⟩:=ab.map (hu n _ hn);rw[k1] at aF;cases aF;exact k2
 have hst:hZ w D w':=by
  have:=ab.fO;rw[hc] at this;exact this
 refine ⟨D2,E2,hw,e2,fun n hn=>by rw[hE2];simp[hn],⟨fun m =>?_,fun m m' e e' b g1 g2 g3 g4 =>?_⟩,?_,fun b o ah=>up2 b o (ab.cX b o (by rw[hc];exact ah)),fun b o ah=>by rw[hD2] at ah;exact ah.1,fun b o ah hlt hno =>?_,fun m e hm hin =>?_,hst⟩
 ·cases hx:ak os m with
  |none=>simp only[dc];rw[hE2];simp[ay,hx]
  |some x =>
   have hm:ay os m=true:=by simp[ay,hx]
   obtain ⟨k1,k2,k3⟩:=J m x hx;have ho:=ab.bU m;rw[k1] at ho;have hl2:ef w' D' E2 w' D2 E2:=⟨up2,fun _ _ _ _ h=>h,fun _ _ _ h=>h,fun _ aK l h=>⟨aK,l,h,zz3 _,fun _=>rfl⟩,fun _ _ h=>h,fun _ _ h=>h,fun _ _ _ _ h=>h⟩
   have nD:∀ e b,E' m=some e→e.aK=some b→∀ o,D2 b o→D' b o:=fun e b he hb o ah=>down b o ah ⟨m,e,(e2 m hm).trans he,hb⟩;cases x with
   |bV T sz es =>
    obtain ⟨aK,q1,q2,q3⟩:=ho;refine ⟨aK,(e2 m hm).trans q1,q2,?_⟩;cases aK with
    |none=>exact q3
    |some bc =>
     obtain ⟨b,cap⟩:=bc;obtain ⟨cs,pre,rest,g1,g2,g3,g4,g5,g6,g7,g8⟩:=q3;exact ⟨cs,pre,rest,by rw[←hM];exact g1,g2,g3,aN.later hl2 _ _ (aN.dq e2 _ _ (by simpa[aq.only] using k2) g4),g5,g6,g7,fun o ah=>g8 o (nD _ b q1 rfl o ah)⟩
   |box y =>
    obtain ⟨b',cs,T,q1,q2,q3,q4,q5⟩:=ho;exact ⟨b',cs,T,(e2 m hm).trans q1,by rw[←hM];exact q2,q3,al.later hl2 _ _ (al.dq e2 _ _ (by simpa[aq.only] using k2) q4),fun o ah=>q5 o (nD _ b' q1 rfl o ah)⟩
   |dR o =>
    obtain ⟨b',q1,q2,q3,q4,q5⟩:=ho;exact ⟨b',(e2 m hm).trans q1,by rw[←hM];exact q2,q3,q4,fun o ah=>q5 o (nD _ b' q1 rfl o ah)⟩
   |bD ks vs =>
    obtain ⟨b',es,ck,q1,q2,q3,q4,q5,q6,q7⟩:=ho;simp only[aq.only,zz0] at k2;exact ⟨b',es,ck,(e2 m hm).trans q1,by rw[←hM];exact q2,q3,q4,aH.later hl2 _ _ (aH.dq e2 _ _ k2.1 q5),aH.later hl2 _ _ (aH.dq e2 _ _ k2.2 q6),fun o ah=>q7 o (nD _ b' q1 rfl o ah)⟩
   |it ks vs left cur=>cases k3
   |dT T xs =>
    obtain ⟨aK,q1,q2,q3⟩:=ho;refine ⟨aK,(e2 m hm).trans q1,q2,?_⟩;cases aK with
    |none=>exact q3
    |some bc =>
     obtain ⟨b,cap⟩:=bc;obtain ⟨cs,r,g1,g2,g3,g4,g5,g6,g7⟩:=q3;exact ⟨cs,r,by rw[←hM];exact g1,g2,g3,g4,g5,g6,fun o ah=>g7 o (nD _ b q1 rfl o ah)⟩
 ·exact ab.cU m m' e e' b (cut m e g1).2 (cut m' e' g2).2 g3 g4
 ·rw[←hM];have:=ab.dZ;rw[hc] at this ⊢;exact this
 ·rw[hD2] at ah;have hnm:¬ c.fu b:=by
    rw[hM];rintro (h | h);· omega
    ·exact hno h
  rcases ah.2 with h | h
  ·have:=ab.dh b o h hnm;rw[hc] at this;exact this
  ·exact absurd h.2 hnm
 ·rw[e2 m hin];have ho:A.o m≠none:=by
   cases hx:ak os m with
   |none=>simp[ay,hx] at hin
   |some x=>rw[(J m x hx).1];simp
  rcases ab.ec m e (by rw[hc];exact hm) with h | h
  ·have hob:=ab.bU m;cases hx:A.o m with
   |none=>exact absurd hx ho
   |some x=>rw[hx] at hob;exact absurd h (uB hob)
  ·exact h
theorem aX.ui{P:Program}{n:Nat}{w:World}{D:aS}{E:bf}{Y:Value→List I→List (Nat×aq)→cL→Prop}{fx:Option (List Deferred)}{rs:List bQ}{post:cL}{fn:Func}{A:ai}{a:Act}{w':World}{D':aS}{E':bf}
  (ab:aX ⟨P,w,D,n,cN E,E,Y,none,fx⟩ A a w' D' E') (hrs:h3 P fn.results.toList=some rs) (h:jD rs post A):∃ v,(results fn a.tmps).run P w'=.ok v w'∧mf w D E post v w':=by
 obtain ⟨os,xs,J,U,af⟩:=h;obtain ⟨D2,E2,hw,e2,e2n,q1,q2,q3,q4,q5,q6⟩:=ab.x3 J;have hu:eE (A.lh os) A:=fun n x hx=>by
  simp only[ai.lh] at hx;split at hx
  ·cases hx
  ·exact hx
 obtain ⟨vs,k1,k2⟩:=zd ab hu (os:=os) (E':=E2) hw e2 e2n fn.results.toList rs xs hrs U;have hres:(results fn a.tmps).run P w'=.ok (if h:vs.toArray.size=1 then vs.toArray[0] else .tuple vs.toArray) w':=by
  rw[adp,Sem.run_bind,Array.mapM_eq_mapM_toList,Sem.run_map,k1];rfl
 refine ⟨_,hres,D2,E2,kB xs,os,af,?_,q1,q2,q3,q4,q5,q6⟩
 match xs,vs,k2 with
 | [x],vs,k2 =>
  simp only[aH] at k2;obtain ⟨v,rest,cs,rfl,q1,q2,rfl⟩:=k2;simpa[kB] using gL q1 q2
 | [],vs,k2 =>
  simp only[aH] at k2;subst k2;simp[kB,a8,aH]
 |x::y::xs,vs,k2 =>
  have ao:vs.length≠1:=by
   simp only[aH] at k2;obtain ⟨v,rest,cs,rfl,_,_,v2,rest2,cs2,rfl,_⟩:=k2;simp
  simp only[kB,a8];exact ⟨vs,by simp[ao],k2⟩
theorem Ez{P:Program}{n:Nat}{w:World}{D:aS}{E:bf}{Y:Value→List I→List (Nat×aq)→cL→Prop}{rs:List bQ}{post:cL}{fn:Func}{A:ai}{D':aS}{E':bf}(hrs:h3 P fn.results.toList=some rs)(h:jD rs post A) :
  ∀ (ds:List Deferred) (a:Act) (w':World),a.defers=ds→aX ⟨P,w,D,n,cN E,E,Y,none,none⟩ A a w' D' E'→LeavesInM Fence.wide 9 P fn a.tmps (fun e w'=>∃ v,e=.returned v∧mf w D E post v w') ds .returning w'
 | [],a,w',_,ab=>by
  obtain ⟨v,J,U⟩:=ab.ui hrs h;exact ⟨v,J,v,rfl,U⟩
 |d::ds,a,w',ah,ab=>by
  obtain ⟨Bs,J,_⟩:=ab.eS;rw[ah] at J;cases Bs with
  |nil=>cases J
  |cons B Bs =>
   simp only[zz5,zw3] at J;obtain ⟨rfl,rfl⟩:=J;obtain ⟨k1,k2⟩:=ab.Cp rfl ah;exact ⟨by simp,.inl ⟨B,_,rfl,run_takeDeferred k1,Ez hrs h _ { a with defers:=Bs.map _ } _ rfl k2⟩⟩
theorem sw{w:World}{D:aS}{E:bf} : ∀ {args:List I} {vs:List Value},aH w D E args vs→vs.length=args.length
 | [],vs,h=>by simp only[aH] at h;subst h;rfl
 |x::xs,vs,h=>by
  simp only[aH] at h;obtain ⟨v,rest,cs,rfl,_,_,af⟩:=h;simp[sw af]
def lu(P:Program)(f:FuncId)(Y:Value→List I→List (Nat×aq)→cL→Prop)(args:List I)(os:List (Nat×aq))(post:cL):Prop :=
 fy P f=true∧∀ (w:World) (D:aS) (E:bf) (vs:List Value),(∀ n,pt ⟨P,w,D,n,cN E,E,Y,none,none⟩)→(∀ b o,D b o→b<w.heap.size)→kh (fun _=>True) w D E (ak os)→aH w D E args vs →
  Calls P f vs.toArray w fun e w'=>∃ v,e=.returned v∧mf w D E post v w'
theorem lu.uC{P:Program}{f:FuncId}{fn:Func}{body:Code}{x:bx}{rs:List bQ}{Y:Value→List I→List (Nat×aq)→cL→Prop}{args:List I}{os:List (Nat×aq)}{post:cL}(hf:P.funcs[f]?=some fn)(hb:fn.body=some body)(hcall:fy P f=true)(hc:eN P fn.ntmps body=some x)
  (hrs:h3 P fn.results.toList=some rs) (hn:args.length≤fn.ntmps) (hos:∀ m,ay os m=true→fn.ntmps≤m∧1000000≤m) (h:∀ (w:World) (D:aS) (E:bf),ae ⟨P,w,D,fn.ntmps,cN E,E,Y,none,none⟩ x (oT rs post) (pg args os)):lu P f Y args os post:=by
 refine ⟨hcall,fun w D E vs hy hD ho hv =>?_⟩;have hlen:=sw hv;have hsim:=zI (P:=P) (n:=fn.ntmps) (Y:=Y) hD ho hv (by omega) hos (hy fn.ntmps);refine (callsIn_wide (n:=9)).1 (callsIn_of_wp_marks hf hb trivial ?_);refine wpIn_mono (h w D E body hc _ w ⟨D,E,hsim⟩) ?_;rintro e a w' ⟨A,hq,D',E',ab⟩;cases e <;>simp only[oT] at hq <;>first
  |exact Ez hrs hq a.defers a w' rfl ab
  |cases hq
theorem qI{P:Program}{w:World}{D:aS}{E:bf}{n:Nat}{fx:Option (List Deferred)}(ao:gb P w (cN E)):pt ⟨P,w,D,n,cN E,E,dA,none,fx⟩:=⟨ao,fun _ _ _ _ h=>h.elim⟩
theorem cY.Fj{P:Program}{f:FuncId}{args:List I}{os:List (Nat×aq)}{post:cL}(h:lu P f dA args os post):cY P f args os post :=
 ⟨h.1,fun w D E vs ao hD ho hv=>(h.2 w D E vs (fun _=>qI ao) hD ho hv).mono fun e w' ⟨v,he,D',E',r,os',k⟩=>⟨v,D',E',r,os',he,k⟩⟩
theorem bd.ach{P:Program}{f:FuncId}{args:List I}{r:I}(h:cY P f args [] (fun r' os'=>r'=r∧os'=[])):bd P f args r:=by
 refine ⟨h.1,fun w D vs ao hD hv =>?_⟩;have bz:kh (fun _=>True) w D cP (ak []):=⟨fun n=>rfl,fun n m e e' b h=>by simp[cP] at h⟩
 refine (h.2 w D cP vs (ao.oD fun b ⟨n,e,J,_⟩=>by simp[cP] at J) hD bz hv).mono fun e w' hq =>?_;obtain ⟨v,D',E',r',os',he,⟨J,U⟩,k1,k2,k3,k4,k5,k6,_⟩:=hq;subst J U;refine ⟨v,D',he,?_,?_,k5,fun b o ah hlt=>k6 b o ah hlt fun ⟨n,e,h,_⟩=>by simp[cP] at h⟩
 ·have:E'=cP:=by funext n;exact k2.bU n
  rw[←this];exact k1
 ·exact k3.J8 fun k hk hm=>by
   rcases hm with hm | ⟨n,e,h,_⟩
   ·omega
   ·simp[cP] at h
theorem adI(A:ai):A.lh []=A:=rfl
theorem Hm{A:ai} : ∀ {rs:List bQ} {xs:List I},fC A rs=some xs→mP A (A.lh []) [] rs xs
 | [],xs,h=>by simp only[fC,v6] at h;subst h;trivial
 |r::rs,xs,h=>by
  simp only[fC] at h;split at h
  ·rename_i x xs' J U;simp only[v6] at h;subst h;refine ⟨?_,Hm U⟩;rw[adI];cases r with
   |tmp t=>exact ⟨_,rfl,.inr J⟩
   |cell a s =>
    simp only[u4,sa] at J ⊢;split at J
    ·rename_i y hy;split at J
     ·rename_i hok;exact ⟨y,by simp[hok],.inr J⟩
     ·cases J
    ·cases J
  ·cases h
theorem adq{rs:List bQ}{r:I}{e:Exit}{A:ai}(h:lb rs r e A):oT rs (fun r' os'=>r'=r∧os'=[]) e A:=by
 cases e <;>simp only[lb] at h <;>first
  |exact h.elim
  |(obtain ⟨xs,J,U⟩:=h
    exact ⟨[],xs,fun n x hx=>by simp[ak] at hx,Hm J,U,rfl⟩)
theorem bd.uC{P:Program}{f:FuncId}{fn:Func}{body:Code}{x:bx}{rs:List bQ}{args:List I}{r:I}(hf:P.funcs[f]?=some fn)(hb:fn.body=some body)(hcall:fy P f=true)(hc:eN P fn.ntmps body=some x)
  (hrs:h3 P fn.results.toList=some rs) (hn:args.length≤fn.ntmps) (h:∀ (w:World) (D:aS) (E:bf),ae ⟨P,w,D,fn.ntmps,cN E,E,dA,none,none⟩ x (lb rs r) (pf args)):bd P f args r:=by
 refine bd.ach (cY.Fj (lu.uC hf hb hcall hc hrs hn (fun m hm=>by simp[ay,ak] at hm) fun w D E =>?_));exact (h w D E).mono fun e B hq=>adq hq
end Go.Abs
namespace Go.Abs
open Go Go.RowKit
def b6(ts:List (Nat×I)):List (Nat×I)→Prop
 | []=>True
 |(k,v)::r=>b9 ts k=v∧b6 ts r
def cF(os:List (Nat×aq)):List (Nat×aq)→Prop
 | []=>True
 |(k,v)::r=>ak os k=some v∧cF os r
def cn(p:Nat→Bool):List (Nat×I)→Prop
 | []=>True
 |(_,v)::r=>v.only p=true∧cn p r
theorem vr{ts:List (Nat×I)} : ∀ {ts':List (Nat×I)},b6 ts ts'→∀ k,b9 ts' k=.dF∨b9 ts' k=b9 ts k
 | [],_,k=>.inl rfl
 |(j,v)::r,h,k=>by
  simp only[b6] at h;simp only[b9];split
  ·rename_i hk;subst hk;exact .inr h.1.symm
  ·exact vr h.2 k
theorem HW{os:List (Nat×aq)} : ∀ {os':List (Nat×aq)},cF os os'→∀ k,ak os' k=none∨ak os' k=ak os k
 | [],_,k=>.inl rfl
 |(j,v)::r,h,k=>by
  simp only[cF] at h;simp only[ak];split
  ·rename_i hk;subst hk;exact .inr h.1.symm
  ·exact HW h.2 k
theorem yI{p:Nat→Bool} : ∀ {ts:List (Nat×I)},cn p ts→∀ k,(b9 ts k).only p=true
 | [],_,k=>by simp[b9,I.only]
 |(j,v)::r,h,k=>by
  simp only[cn] at h;simp only[b9];split
  ·exact h.1
  ·exact yI h.2 k
theorem Fq{p:Nat→Bool} : ∀ {os:List (Nat×aq)},ct p os→∀ k x,ak os k=some x→x.only p=true
 | [],_,k,x,hx=>by simp[ak] at hx
 |(j,v)::r,h,k,x,hx=>by
  simp only[ct] at h;simp only[ak] at hx;split at hx
  ·simp only[v6] at hx;subst hx;exact h.1
  ·exact Fq h.2 k x hx
theorem bp.cG{ts ts':List (Nat×I)}{os os':List (Nat×aq)}(J:b6 ts ts')(U:cF os os')(af:cn (ay os') ts')(ar:ct (ay os') os'):bp (aw ts os) (aw ts' os'):=by
 rintro c a w ⟨D,E,ab⟩;have hp:∀ n,ay os' n=true→(if ay os' n then E n else none)=E n:=fun n hn=>by simp[hn]
 refine ⟨D,fun n=>if ay os' n then E n else none,ab.sz,ab.eS,fun t =>?_,ab.dZ,ab.dh,ab.aU,fun n =>?_,fun n m e e' b J U af ar =>?_,fun n e hn =>?_,ab.fe,ab.cX,ab.fp,ab.fO⟩
 ·have:=vr J t;rcases this with h | h
  ·simp only[aw];rw[h];simp[a8]
  ·refine a8.dq (p:=ay os') hp (yI af t) ?_;have:=ab.eb t;simp only[aw] at *;rw[h];exact this
 ·have ho:=ab.bU n;simp only[aw] at *;rcases HW U n with h | h
  ·rw[h];simp[dc,ay,h]
  ·rw[h];by_cases hin:ak os n=none
   ·rw[hin];simp[dc,ay,h,hin]
   ·have aF:(if ay os' n then E n else none)=E n:=hp n (by simp[ay,h];cases bz:ak os n <;>simp_all);cases hx:ak os n with
    |none=>exact absurd hx hin
    |some x =>
     have hon:=Fq ar n x (h.trans hx);rw[hx] at ho;cases x with
     |box x =>
      obtain ⟨b,cs,T,k1,k2,k3,k4,k5⟩:=ho;exact ⟨b,cs,T,aF.trans k1,k2,k3,al.dq hp _ _ (by simpa[aq.only] using hon) k4,k5⟩
     |bV T sz es =>
      obtain ⟨aK,k1,k2,k3⟩:=ho;refine ⟨aK,aF.trans k1,k2,?_⟩;cases aK with
      |none=>exact k3
      |some bc =>
       obtain ⟨b,cap⟩:=bc;obtain ⟨cs,pre,rest,q1,q2,q3,q4,q5⟩:=k3;exact ⟨cs,pre,rest,q1,q2,q3,aN.dq hp _ _ (by simpa[aq.only] using hon) q4,q5⟩
     |dT T xs =>
      obtain ⟨aK,k1,k2,k3⟩:=ho;exact ⟨aK,aF.trans k1,k2,k3⟩
     |dR x =>
      obtain ⟨b,k1,k2⟩:=ho;exact ⟨b,aF.trans k1,k2⟩
     |bD ks vs =>
      obtain ⟨b,es,ck,k1,k2,k3,k4,k5,k6,k7⟩:=ho;simp only[aq.only,zz0] at hon;exact ⟨b,es,ck,aF.trans k1,k2,k3,k4,aH.dq hp _ _ hon.1 k5,aH.dq hp _ _ hon.2 k6,k7⟩
     |it ks vs left cur =>
      obtain ⟨r,b,es,ck,eZ,se,la,k1,k2,k3,k4,k5,k6,k7⟩:=ho;simp only[aq.only,zz0] at hon;exact ⟨r,b,es,ck,eZ,se,la,aF.trans k1,k2,k3,k4,aH.dq hp _ _ hon.1 k5,aH.dq hp _ _ hon.2 k6,k7⟩
 ·refine ab.cU n m e e' b ?_ ?_ af ar
  ·split at J
   ·exact J
   ·cases J
  ·split at U
   ·exact U
   ·cases U
 ·by_cases hi:ay os' n=true
  ·simp only[hi,if_true];exact ab.ec n e hn
  ·simp only[hi];exact .inl rfl
def bM:Nat→List I→List (Nat×I)
 |_,[]=>[]
 |k,a::as=>(k,a)::bM (k+1) as
theorem EN:∀ (as:List I) (k t:Nat),b9 (bM k as) t=if t<k then .dF else (as[t-k]?).getD .dF
 | [],k,t=>by simp[bM,b9]
 |a::as,k,t=>by
  simp only[bM,b9,EN as (k+1) t];by_cases h:t=k
  ·subst h;simp
  ·rw[if_neg h];by_cases U:t<k
   ·rw[if_pos (by omega),if_pos U]
   ·rw[if_neg (by omega),if_neg U,show t-k=(t-(k+1))+1 from by omega];simp
theorem vq(args:List I)(os:List (Nat×aq)):bp (pg args os) (aw (bM 0 args) os):=by
 rintro c a w ⟨D,E,ab⟩;refine ⟨D,E,ab.sz,ab.eS,fun t =>?_,ab.dZ,ab.dh,ab.aU,ab.bU,ab.cU,ab.ec,ab.fe,ab.cX,ab.fp,ab.fO⟩;have:=ab.eb t;simp only[aw,EN,pg,Nat.not_lt_zero,if_false,Nat.sub_zero] at *;cases h:args[t]? with
 |none=>simp[a8]
 |some x=>simpa[zz1,h] using this
theorem aea(args:List I):bp (pf args) (aw (bM 0 args) []):=vq args []
theorem uu(ts:List (Nat×I))(os:List (Nat×aq))(d:Nat)(v:I):(aw ts os).put d v=aw ((d,v)::ts) os:=rfl
theorem E6(ts:List (Nat×I))(os:List (Nat×aq))(d:Nat)(v:I):(aw ts os).aW (some d) v=aw ((d,v)::ts) os:=rfl
theorem abo(A:ai)(v:I):A.aW none v=A:=rfl
theorem rU(ts:List (Nat×I))(os:List (Nat×aq))(d:Nat)(x:aq):(aw ts os).aT d x=aw ts ((d,x)::os):=rfl
theorem abp(ts:List (Nat×I))(os:List (Nat×aq))(k:Nat):(aw ts os).t k=b9 ts k:=rfl
theorem abn(ts:List (Nat×I))(os:List (Nat×aq))(k:Nat):(aw ts os).o k=ak os k:=rfl
theorem bY(j:Nat)(v:I)(r:List (Nat×I))(k:Nat):b9 ((j,v)::r) k=if k=j then v else b9 r k:=rfl
theorem cQ(j:Nat)(v:aq)(r:List (Nat×aq))(k:Nat):ak ((j,v)::r) k=if k=j then some v else ak r k:=rfl
theorem rR(k:Nat):ak [] k=none:=rfl
theorem Pz(A:ai)(k:Nat):aj A (.t k)=A.t k:=rfl
theorem Py(A:ai)(x:I):aj A (.c x)=x:=rfl
noncomputable def dn(d:Option Nat)(rest:List aJ)(A:ai)(v:I):cS:=aE rest (A.aW d v)
theorem aaM(d:Option Nat)(rest:List aJ)(A:ai)(v:I):dn d rest A v=aE rest (A.aW d v):=rfl
theorem Ks(v:I)(k:I→cS):cT (some v) k=k v:=rfl
theorem JM(A:ai):aE [] A=.done A:=rfl
noncomputable def bO(A:ai)(d:Option Nat)(op:bW)(rest:List aJ):cS:=bt A d op rest (aE rest)
noncomputable def ic(x:I)(b:Bool)(d:Option Nat)(op:bW)(rest:List aJ)(A:ai):cS :=
 match x with
 | .bool b'=>if b'=b then bO A d op rest else aE rest (A.aW d .undef)
 | .undef=>aE rest (A.aW d .undef)
 |_=>.fail
theorem aV.guard{P:Program}{Y:Value→List I→List (Nat×aq)→cL→Prop}{dr:Bool}{K:ai→Prop}{x b:Bool}{d:Option Nat}{op:bW}{rest:List aJ}{A:ai}(J:x=b→aV P Y dr K (bO A d op rest))(U:x = !b→aV P Y dr K (aE rest (A.aW d .undef))):aV P Y dr K (ic (.bool x) b d op rest A):=by
 unfold ic;by_cases h:x=b
 ·simp only[if_pos h];exact J h
 ·simp only[if_neg h];exact U (by cases x <;>cases b <;>simp_all)
def I.ea:I→Option (List I)
 | .agg fs=>some fs
 |_=>none
def py(p:List Nat):Option I→Option I
 |some f=>f.at p
 |none=>none
def nj(i:Nat)(p:List Nat):Option (List I)→Option I
 |some fs=>py p fs[i]?
 |none=>none
theorem AB(c:I):c.at []=some c:=by cases c <;>rfl
theorem J1(c:I)(i:Nat)(p:List Nat):c.at (i::p)=nj i p c.ea:=by
 cases c <;>first | rfl | (rename_i fs;simp only[I.at,nj,I.ea,py])
def zw(fs:List I)(i:Nat)(p:List Nat)(v:I):Option I→I
 |some f=>.agg (fs.set i (f.ev p v))
 |none=>.agg fs
def vg(c:I)(i:Nat)(p:List Nat)(v:I):Option (List I)→I
 |some fs=>zw fs i p v fs[i]?
 |none=>c
theorem oZ(c v:I):c.ev [] v=v:=by cases c <;>rfl
theorem adK(c:I)(i:Nat)(p:List Nat)(v:I):c.ev (i::p) v=vg c i p v c.ea:=by
 cases c <;>first | rfl | (rename_i fs;simp only[I.ev,vg,I.ea];cases fs[i]? <;>rfl)
def fI(p:List Nat):Option aq→Option I
 |some (.box c)=>c.at p
 |_=>none
def h4(A:ai):I→Option I
 | .ref x=>some x
 | .ptr n p=>fI p (A.o n)
 |_=>none
theorem mj(A:ai)(x:I):cM A x=h4 A x:=by
 cases x <;>first | rfl | (rename_i n p;simp only[cM,h4];cases A.o n with | none=>rfl | some y=>cases y <;>rfl)
def uF(s:Option Nat)(x:I):Option I:=if ca s x=true then some x else none
def oL(s:Option Nat):Option I→Option I
 |some x=>uF s x
 |none=>none
open Classical in
noncomputable def du(fs:List I)(f off:Nat)(y:I):Option I:=if f<fs.length∧I.sizes (fs.take f)=off then some y else none
noncomputable def rj(n:Nat)(p:List Nat)(f off:Nat):Option (List I)→Option I
 |some fs=>du fs f off (.ptr n (p++[f]))
 |none=>none
noncomputable def pP(fs:List I)(f off:Nat):Option I→Option I
 |some v=>du fs f off (.ref v)
 |none=>none
noncomputable def rl(f off:Nat):Option (List I)→Option I
 |some fs=>pP fs f off fs[f]?
 |none=>none
def fW:Option I→Option (List I)
 |some x=>x.ea
 |none=>none
noncomputable def jJ(A:ai)(f off:Nat):I→Option I
 | .ref c=>rl f off c.ea
 | .ptr n p=>rj n p f off (fW (fI p (A.o n)))
 |_=>none
theorem acS(A:ai)(f off:Nat)(x:aM):bo A (.fa f off x)=jJ A f off (aj A x):=by
 simp only[bo];generalize aj A x=y;cases y with
 |ref c =>
  cases c <;>simp only[jJ,I.ea,rl]
  rename_i fs;cases h:fs[f]? with
  |none=>simp[pP]
  |some v =>
   have ao:f<fs.length:=(zz7.1 h).1;simp only[pP,du,ao,true_and]

 |ptr n p =>
  simp only[jJ,mj,h4];cases fI p (A.o n) with
  |none=>simp[fW,rj]
  |some c =>
   cases c <;>simp only[fW,I.ea,rj]
   simp only[du]

 |_=>simp only[jJ]
noncomputable def tS(f off:Nat)(s:Option Nat):Option (List I)→Option I
 |some fs=>match fs[f]? with
  |some v=>(du fs f off v).bind (uF s)
  |none=>none
 |none=>none
theorem acT(A:ai)(f off:Nat)(s:Option Nat)(x:aM):bo A (.fl f off s x)=tS f off s (aj A x).ea:=by
 simp only[bo];generalize aj A x=y;cases y <;>simp only[tS,I.ea]
 rename_i fs;cases h:fs[f]? with
 |none=>rfl
 |some v =>
  have ao:f<fs.length:=(zz7.1 h).1;simp only[du,ao,true_and];by_cases J:I.sizes (fs.take f)=off <;>by_cases U:ca s v=true <;>simp[J,U,uF]
open Classical in
noncomputable def mC(k:Int)(n:Nat)(y:Option I):Option I:=if 0≤k∧k<n then y else none
noncomputable def mB(n esz:Nat)(fs:List I)(y:Option I):Option I:=if jI n esz fs=true then y else none
noncomputable def ub(n esz:Nat)(k:Int):Option (List I)→Option I
 |some fs=>mB n esz fs ((fs[k.toNat]?).map .ref)
 |none=>none
noncomputable def rD(n esz m:Nat)(p:List Nat)(k:Int):Option (List I)→Option I
 |some fs=>mB n esz fs (some (.ptr m (p++[k.toNat])))
 |none=>none
noncomputable def oA(A:ai)(n esz:Nat)(k:Int):I→Option I
 | .ref c=>mC k n (ub n esz k c.ea)
 | .ptr m p=>mC k n (rD n esz m p k (fW (fI p (A.o m))))
 |_=>none
noncomputable def rC(A:ai)(n esz:Nat)(x:I):I→Option I
 | .int _ k=>oA A n esz k x
 |_=>none
theorem acU(A:ai)(n esz:Nat)(x i:aM):bo A (.ia n esz x i)=rC A n esz (aj A x) (aj A i):=by
 simp only[bo];generalize aj A x=y;generalize aj A i=z;cases z <;>simp only[rC]
 rename_i kk k;cases y with
 |ref c =>
  simp only[oA,mC];split
  ·cases c <;>simp only[I.ea,ub,mB]
  ·rfl
 |ptr m p =>
  simp only[oA,mC,mj,h4];split
  ·cases fI p (A.o m) with
   |none=>simp[fW,rD]
   |some c=>cases c <;>simp only[fW,I.ea,rD,mB]
  ·rfl
 |_=>simp only[oA];split <;>rfl
open Classical in
noncomputable def nw(m:Nat)(p:List Nat)(sz lo l esz:Nat)(k:Int):Option (List I)→Option I
 |some _=>if sz=esz∧0≤k∧k<l then some (.ptr m (p++[lo+k.toNat])) else none
 |none=>none
open Classical in
noncomputable def fi(A:ai)(esz:Nat)(k:Int):I→Option I
 | .slice sz es=>if sz=esz∧0≤k∧k<es.length then (es[k.toNat]?).map .ref else none
 | .own m l=>match A.o m with
  |some (.bV _ sz es)=>if l=es.length∧sz=esz∧0≤k∧k<es.length then (es[k.toNat]?).map .ref else none
  |_=>none
 | .view m p sz lo l=>nw m p sz lo l esz k (fW (fI p (A.o m)))
 |_=>none
noncomputable def rF(A:ai)(esz:Nat)(x:I):I→Option I
 | .int _ k=>fi A esz k x
 |_=>none
theorem acV(A:ai)(esz:Nat)(x i:aM):bo A (.is esz x i)=rF A esz (aj A x) (aj A i):=by
 simp only[bo];generalize aj A x=y;generalize aj A i=z;cases z <;>simp only[rF]
 cases y <;>simp only[fi]
 ·split <;>simp_all
 ·rename_i m p sz lo l;simp only[mj,h4];cases fI p (A.o m) with
  |none=>rfl
  |some c=>cases c <;>simp only[fW,I.ea,nw]
noncomputable def uf(n esz:Nat)(s:Option Nat)(k:Int):Option (List I)→Option I
 |some fs=>mC k n (mB n esz fs (oL s fs[k.toNat]?))
 |none=>none
noncomputable def rI(n esz:Nat)(s:Option Nat)(x:I):I→Option I
 | .int _ k=>uf n esz s k x.ea
 |_=>none
theorem acW(A:ai)(n esz:Nat)(s:Option Nat)(x i:aM):bo A (.ix n esz s x i)=rI n esz s (aj A x) (aj A i):=by
 simp only[bo];generalize aj A x=y;generalize aj A i=z;cases z <;>simp only[rI]
 rename_i kk k;cases y <;>simp only[I.ea,uf]
 case agg fs =>
  simp only[mC,mB];split
  ·split
   ·cases fs[k.toNat]? <;>rfl
   ·rfl
  ·rfl
 all_goals (split <;>rfl)
def j0(A:ai):I→Option I
 | .slice _ es=>some (.int .i64 es.length)
 | .nils _=>some (.int .i64 0)
 | .c0 _=>some (.int .i64 0)
 | .own m l=>match A.o m with | some (.bV _ _ es)=>if l=es.length then some (.int .i64 es.length) else none | _=>none
 | .view _ _ _ _ k=>some (.int .i64 k)
 |_=>none
theorem acY(A:ai)(x:aM):bo A (.len x)=j0 A (aj A x):=by
 simp only[bo];generalize aj A x=y;cases y <;>rfl
open Classical in
noncomputable def sK(n esz:Nat)(fs:List I)(y:I):Option I:=if jI n esz fs=true∧n≤maxLen∧n≠0 then some y else none
noncomputable def sL(n esz m:Nat)(p:List Nat):Option (List I)→Option I
 |some fs=>sK n esz fs (.view m p esz 0 n)
 |none=>none
noncomputable def Ib(n esz:Nat):Option (List I)→Option I
 |some fs=>sK n esz fs (.slice esz fs)
 |none=>none
noncomputable def pj(A:ai)(n esz:Nat):I→Option I
 | .ptr m p=>sL n esz m p (fW (fI p (A.o m)))
 | .ref c=>Ib n esz c.ea
 |_=>none
theorem acZ(A:ai)(n esz:Nat)(x:aM):bo A (.va n esz x)=pj A n esz (aj A x):=by
 simp only[bo];generalize aj A x=y;cases y with
 |ptr m p =>
  simp only[pj,mj,h4];cases fI p (A.o m) with
  |none=>simp[fW,sL]
  |some c=>cases c <;>simp only[fW,I.ea,sL,sK] <;>(split <;>simp_all)
 |ref c=>cases c <;>simp only[pj,I.ea,Ib,sK] <;>(split <;>simp_all)
 |_=>simp only[pj]
theorem acX(A:ai)(s:Option Nat)(x:aM):bo A (.ld s x)=oL s (h4 A (aj A x)):=by
 simp only[bo,mj];cases h4 A (aj A x) <;>simp only[oL,uF]
noncomputable def r6(A:ai)(d:Option Nat)(a b:aM)(rest:List aJ):I→cS
 | .bool t=>aE rest (A.aW d (if t then aj A a else aj A b))
 |_=>.fail
noncomputable def sI(op:UnOp)(x:I):Option I:=match op,x with
  | .not,.bool b=>some (.bool !b)
  | .neg,.int k n=>some (.int k (k.wrap (0-n)))
  | .xor,.int k n=>some (.int k (pG k n))
  |_,_=>none
def xf(i:Nat):I→Option I
 | .tuple fs=>fs[i]?
 |_=>none
def wO(k:IntKind):I→Option I
 | .int _ n=>some (.int k (k.wrap n))
 |_=>none
noncomputable def v8(A:ai)(d:Nat)(z:I)(rest:List aJ):Option aq→cS
 |none=>aE rest ((A.aT d (.box z)).put d (.ptr d []))
 |some _=>.fail
noncomputable def tp(A:ai)(d:Nat)(z:I)(rest:List aJ)(v:Bool):cS:=if v=true then aE rest ((A.aT d (.box z)).put d (.ptr d [])) else .fail
noncomputable def tn(A:ai)(d:Nat)(z:I)(rest:List aJ):Option aq→cS
 |none=>tp A d z rest z.bX
 |some _=>.fail
open Classical in
noncomputable def c7(A:ai)(s:Option Nat)(n:Nat)(p:List Nat)(b v:I)(rest:List aJ):Option I→cS
 |some old=>if yF s v old then aE rest (A.aT n (.box (b.ev p v))) else .fail
 |none=>.fail
noncomputable def vm(A:ai)(s:Option Nat)(n:Nat)(p:List Nat)(v:I)(rest:List aJ):Option aq→cS
 |some (.box b)=>c7 A s n p b v rest (b.at p)
 |_=>.fail
noncomputable def dP(A:ai)(s:Option Nat)(v:I)(rest:List aJ):I→cS
 | .ptr n p=>vm A s n p v rest (A.o n)
 |_=>.fail
noncomputable def qY(A:ai)(d:Option Nat)(args:List I)(rest:List aJ):I→cS
 | .func f caps=>.call (lP f) (iS f args caps) (cm true A (iS f args caps)) (cm false A (iS f args caps)) d rest A
 | .raw v=>.lG v args d rest A
 |_=>.fail
section
variable (d:Option Nat) (rest:List aJ) (A:ai)
theorem Jy(op:bW):aE (⟨d,op,none⟩::rest) A=bO A d op rest:=rfl
theorem Jz(op:bW)(t:Nat)(b:Bool):aE (⟨d,op,some (t,b)⟩::rest) A=ic (A.t t) b d op rest A:=rfl
theorem ZG(op:bW):ic (.bool true) true d op rest A=bO A d op rest:=by simp[ic]
theorem ZD(op:bW):ic (.bool false) false d op rest A=bO A d op rest:=by simp[ic]
theorem ZF(op:bW):ic (.bool true) false d op rest A=aE rest (A.aW d .undef):=by simp[ic]
theorem ZE(op:bW):ic (.bool false) true d op rest A=aE rest (A.aW d .undef):=by simp[ic]
theorem ZH(op:bW)(b:Bool):ic .undef b d op rest A=aE rest (A.aW d .undef):=rfl
theorem ab5(x:aM):bO A d (.mv x) rest=aE rest (A.aW d (aj A x)):=rfl
theorem ab9(c a b:aM):bO A d (.pick c a b) rest=r6 A d a b rest (aj A c):=by
 simp only[bO,bt,bo];cases aj A c <;>simp only[cT,r6]
theorem abG(op:BinOp)(x y:aM):bO A d (.bin op x y) rest=cT (cu op (aj A x) (aj A y)) (dn d rest A):=rfl
theorem abP(ty:cK)(neg:Bool)(x y:aM):bO A d (.eqv ty neg x y) rest=cT ((cj ty (aj A x) (aj A y)).map fun b=>.bool (if neg then !b else b)) (dn d rest A):=rfl
theorem acf(op:UnOp)(x:aM):bO A d (.un op x) rest=cT (sI op (aj A x)) (dn d rest A):=rfl
theorem abN(k:IntKind)(x:aM):bO A d (.conv k x) rest=cT (wO k (aj A x)) (dn d rest A):=by
 simp only[bO,bt,bo];cases aj A x <;>rfl
theorem abW(s:Option Nat)(x:aM):bO A d (.ld s x) rest=cT (oL s (h4 A (aj A x))) (dn d rest A):=by rw[←acX];rfl
theorem abR(f off:Nat)(x:aM):bO A d (.fa f off x) rest=cT (jJ A f off (aj A x)) (dn d rest A):=by rw[←acS];rfl
theorem abS(f off:Nat)(s:Option Nat)(x:aM):bO A d (.fl f off s x) rest=cT (tS f off s (aj A x).ea) (dn d rest A):=by rw[←acT];rfl
theorem abT(n esz:Nat)(x i:aM):bO A d (.ia n esz x i) rest=cT (rC A n esz (aj A x) (aj A i)) (dn d rest A):=by rw[←acU];rfl
theorem abU(esz:Nat)(x i:aM):bO A d (.is esz x i) rest=cT (rF A esz (aj A x) (aj A i)) (dn d rest A):=by rw[←acV];rfl
theorem abV(n esz:Nat)(s:Option Nat)(x i:aM):bO A d (.ix n esz s x i) rest=cT (rI n esz s (aj A x) (aj A i)) (dn d rest A):=by rw[←acW];rfl
theorem abX(x:aM):bO A d (.len x) rest=cT (j0 A (aj A x)) (dn d rest A):=by rw[←acY];rfl
theorem acg(n esz:Nat)(x:aM):bO A d (.va n esz x) rest=cT (pj A n esz (aj A x)) (dn d rest A):=by rw[←acZ];rfl
theorem abH(zs:List I)(ps:List (Nat×aM)):bO A d (.bld zs ps) rest=cT ((dS zs (ps.map fun p=>(p.1,aj A p.2))).map .agg) (dn d rest A):=rfl
theorem abQ(x:aM)(i:Nat):bO A d (.ext x i) rest=cT (xf i (aj A x)) (dn d rest A):=by
 simp only[bO,bt,bo];cases aj A x <;>rfl
theorem ab1(f:FuncId)(caps:List aM):bO A d (.mk f caps) rest=cT (if ((caps.map (aj A)).all fun y=>y.bX)=true then some (.func f (caps.map (aj A))) else none) (dn d rest A):=rfl
theorem abE(d:Nat)(z:I):bO A (some d) (.alloc z) rest=v8 A d z rest (A.o d):=by
 simp only[bO,bt];cases A.o d <;>rfl
theorem abI(d:Nat)(x:aM):bO A (some d) (.box x) rest=tn A d (aj A x) rest (A.o d):=by
 simp only[bO,bt];cases A.o d <;>simp only[tn,tp]
theorem ace(s:Option Nat)(x v:aM):bO A none (.bh s x v) rest=dP A s (aj A v) rest (aj A x):=by
 simp only[bO,bt];cases aj A x <;>simp only[dP]
 rename_i n p;cases A.o n with
 |none=>rfl
 |some y =>
  cases y <;>simp only[vm]
  rename_i b;cases b.at p <;>simp only[c7]
theorem abK(f:FuncId)(args:List aM):bO A d (.call f args) rest=.call f (args.map (aj A)) (cm true A (args.map (aj A))) (cm false A (args.map (aj A))) d rest A:=rfl
theorem abL(x:aM)(args:List aM):bO A d (.gi x args) rest=qY A d (args.map (aj A)) rest (aj A x):=by
 simp only[bO,bt];cases aj A x <;>rfl
end
end Go.Abs
namespace Go.Abs
open Go Go.RowKit
mutual
/-- Closed,and as a result is told: no nil slice but as the empty one. -/
def I.done:I→Bool
 | .agg fs=>I.iR fs
 | .slice _ es=>I.cv es
 | .ref x=>x.bG
 | .func f caps=>decide (f<1000000)&&I.iR caps
 | .iface _ v=>v.bG
 | .dx ks vs=>I.cv ks&&I.cv vs
 | .bool _ | .int _ _ | .bm _ | .nilp | .dK | .dL | .any | .raw _=>true
 |_=>false
def I.iR:List I→Bool
 | []=>true
 |x::xs=>x.done&&I.iR xs
end
mutual
theorem wW:∀ x:I,x.done=true→x.bG=true
 | .agg fs,h=>by simp only[I.done,I.bG] at *;exact wX fs h
 | .slice _ es,h=>by simpa only[I.done,I.bG] using h
 | .ref x,h=>by simpa only[I.done,I.bG] using h
 | .func _ caps,h=>by simp only[I.done,I.bG,zz0] at *;exact wX caps h.2
 | .iface _ v,h=>by simpa only[I.done,I.bG] using h
 | .bool _,_ | .int _ _,_ | .bm _,_ | .nilp,_ | .dK,_ | .dL,_ | .any,_ | .raw _,_=>by simp[I.bG]
 | .dx _ _,h=>by simpa only[I.done,I.bG] using h
 | .nils _,h | .c0 _,h | .ptr _ _,h | .own _ _,h | .view _ _ _ _ _,h | .mref _,h | .dC _,h | .undef,h | .dF,h | .tuple _,h=>by simp[I.done] at h
theorem wX:∀ xs:List I,I.iR xs=true→I.cv xs=true
 | [],_=>rfl
 |x::xs,h=>by
  simp only[I.iR,I.cv,zz0] at *;exact ⟨wW x h.1,wX xs h.2⟩
end
mutual
theorem C2(aP:Bool)(A:ai):∀ x:I,x.done=true→br aP A x=some x
 | .agg fs,h=>by simp only[I.done,br] at *;rw[xv aP A fs h];rfl
 | .slice _ es,h=>by simp only[I.done] at h;simp[br,h]
 | .ref x,h=>by simp only[I.done] at h;simp[br,h]
 | .func _ caps,h=>by simp only[I.done,br,zz0,decide_eq_true_eq] at *;rw[if_pos h.1,xv aP A caps h.2];rfl
 | .iface _ v,h=>by simp only[I.done] at h;simp[br,h]
 | .bool _,_ | .int _ _,_ | .bm _,_ | .nilp,_ | .dK,_ | .dL,_ | .any,_ | .raw _,_=>by simp[br]
 | .dx _ _,h=>by simp only[I.done] at h;simp[br,h]
 | .nils _,h | .c0 _,h | .ptr _ _,h | .own _ _,h | .view _ _ _ _ _,h | .mref _,h | .dC _,h | .undef,h | .dF,h | .tuple _,h=>by simp[I.done] at h
theorem xv(aP:Bool)(A:ai):∀ xs:List I,I.iR xs=true→cm aP A xs=some xs
 | [],_=>by simp[cm]
 |x::xs,h=>by
  simp only[I.iR,zz0] at h;simp only[cm,C2 aP A x h.1,xv aP A xs h.2]
end
theorem Ph{x:I}(h:x.done=true):x.bX=true:=by cases x <;>simp_all[I.done,I.bX]
class Enc (α:Type) where
 enc:α→I
 sz:Nat
 bg:cW
 ij:Bool
 done:∀ x,(enc x).done=true
 size:∀ x,(enc x).size=sz
 jy:∀ x,(enc x).bg=bg
 agg:∀ x,(enc x).isAgg=ij
open Enc (enc)
instance:Enc Int where
 enc n:=.int .i64 n
 sz:=1
 bg:=.one
 ij:=false
 done _:=rfl
 size _:=by simp[I.size]
 jy _:=by simp[I.bg]
 agg _:=rfl
instance:Enc Bool where
 enc b:=.bool b
 sz:=1
 bg:=.one
 ij:=false
 done _:=rfl
 size _:=by simp[I.size]
 jy _:=by simp[I.bg]
 agg _:=rfl
theorem ji{α:Type}[Enc α](l:List α):I.cv (l.map enc)=true:=by
 induction l with
 |nil=>rfl
 |cons x l ih=>simp only[zz5,I.cv,wW _ (Enc.done x),ih,Bool.and_self]
theorem Pj{α:Type}[Enc α](l:List α):I.iR (l.map enc)=true:=by
 induction l with
 |nil=>rfl
 |cons x l ih=>simp only[zz5,I.iR,Enc.done x,ih,Bool.and_self]
theorem adO{α:Type}[Enc α](l:List α):I.sizes (l.map enc)=l.length*Enc.sz α:=by
 rw[I.iM (sz:=Enc.sz α) _ (by simp only[zy9];rintro x ⟨y,_,rfl⟩;exact Enc.size y)];simp
theorem zA{α:Type}[Enc α](l:List α):I.de (l.map enc)=List.replicate l.length (Enc.bg α):=by
 induction l with
 |nil=>rfl
 |cons x l ih=>simp only[zz5,I.de,Enc.jy x,ih,zx8,List.replicate_succ]
instance {α:Type} [Enc α]:Enc (List α) where
 enc l:=.slice (Enc.sz α) (l.map enc)
 sz:=1
 bg:=.one
 ij:=false
 done l:=by simp only[I.done];exact ji l
 size _:=by simp[I.size]
 jy _:=by simp[I.bg]
 agg _:=rfl
structure zP (n:Nat) (α:Type) where
 l:List α
 h:l.length=n
instance {n:Nat} {α:Type} [Enc α]:Enc (zP n α) where
 enc x:=.agg (x.l.map enc)
 sz:=n*Enc.sz α
 bg:=.db (List.replicate n (Enc.bg α))
 ij:=true
 done x:=by simp only[I.done];exact Pj x.l
 size x:=by simp only[I.size,adO,x.h]
 jy x:=by simp only[I.bg,zA,x.h]
 agg _:=rfl
section
variable {α:Type} [Enc α]
theorem ml(aP:Bool)(A:ai)(x:α):br aP A (enc x)=some (enc x):=C2 aP A _ (Enc.done x)
theorem lL(x:α):(enc x).bG=true:=wW _ (Enc.done x)
theorem b7(p:Nat→Bool)(x:α):(enc x).only p=true:=kW p _ (lL x)
theorem eF(x:α):(enc x).bX=true:=Ph (Enc.done x)
theorem mq(x:α):ca none (enc x) = !(Enc.ij α):=by simp[ca,Enc.agg]
theorem fB(n:Nat)(x:α):ca (some n) (enc x)=(Enc.ij α&&Enc.sz α==n):=by simp[ca,Enc.agg,Enc.size]
theorem lN(x:α):(enc x).size=Enc.sz α:=Enc.size x
theorem eX(x:α):(enc x).bg=Enc.bg α:=Enc.jy x
theorem eP(n:Int):(enc n:I)=.int .i64 n:=rfl
theorem Pn(n:Bool):(enc n:I)=.bool n:=rfl
theorem hh(l:List α):(enc l:I)=.slice (Enc.sz α) (l.map enc):=rfl
theorem kR:Enc.sz (List α)=1:=rfl
theorem mn:Enc.ij (List α)=false:=rfl
theorem oj:Enc.bg (List α)=.one:=rfl
theorem JH(l:List α):∀ x∈l.map (enc (α:=α)),x.size=Enc.sz α:=by
 simp only[zy9];rintro x ⟨y,_,rfl⟩;exact Enc.size y
end
theorem iy(n:Int)(J:-9223372036854775808≤n)(U:n≤9223372036854775807):IntKind.i64.wrap n=n:=IntWalk.i64_in n ⟨J,U⟩
theorem bd.mk{P:Program}{f:FuncId}{fn:Func}{x:bx}{rs:List bQ}{args:List I}{r:I}(hf:P.funcs[f]?=some fn)(hcall:fy P f=true)(hc:(fn.body.bind (eN P fn.ntmps))=some x)
  (hrs:h3 P fn.results.toList=some rs) (hn:args.length≤fn.ntmps) (h:∀ (w:World) (D:aS) (E:bf),ae ⟨P,w,D,fn.ntmps,cN E,E,dA,none,none⟩ x (lb rs r) (aw (bM 0 args) [])):bd P f args r:=by
 obtain ⟨body,hb,hc'⟩:=zv6.1 hc;exact bd.uC hf hb hcall hc' hrs hn (fun w D E=>(h w D E).sub (aea args))
end Go.Abs
