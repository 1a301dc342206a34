/-
  A part of the proof that the law MarchWritten returns true for every input; three tables of Go's library start as the text lays them (the card ties them); conditions: none beyond the statement's own. (part 5 of 6)
-/
import Derived.Shelf.Sort.Plain
import Derived.Shelf.Slices.In.SortNone
import Derived.Shelf.Strconv.Itoa3
import Derived.Lib.ItoaLen
import Derived.Test.YthbdbocionnfgaaGreatDoorNcd
set_option linter.unusedSimpArgs false
set_option linter.unusedVariables false
set_option maxHeartbeats 16000000
set_option maxRecDepth 100000
namespace Go.Proofs.YthbdbocionnfgaaGreatDoor
open Go Go.Abs Go.Shelf
open Go.Abs.Enc (enc)
def WA:Go.Shelf.Ren:=⟨fun | 189=>89 | 125=>117 | 257=>116 | 128=>142 | 129=>143 | 294=>133 | 295=>134 | 296=>135 | 297=>136 | 298=>137 | 299=>138 | 216=>139 | 300=>140 | 301=>141 | 328=>153 | 329=>154 | 330=>155 | 331=>156 | 332=>157 | 215=>158 | 343=>169 | n=>n,fun | 28=>54 | 3=>3 | 46=>151 | 0=>0 | 51=>169 | 53=>171 | 4=>4 | 183=>161 | 182=>160 | 131=>166 | 5=>5 | 9=>9 | 218=>178 | 222=>182 | 228=>195 | 229=>196 | n=>n,fun | n=>n⟩
theorem BZ:Go.Proofs.Lays.n189 Tryz.prog WA := {
 mixed:=by kernel_rfl
 f125:=Tryz.func117.trans (congrArg some (by kernel_rfl))
 f128:=Tryz.func142.trans (congrArg some (by kernel_rfl))
 f129:=Tryz.func143.trans (congrArg some (by kernel_rfl))
 f189:=Tryz.func89.trans (congrArg some (by kernel_rfl))
 f215:=Tryz.func158.trans (congrArg some (by kernel_rfl))
 f216:=Tryz.func139.trans (congrArg some (by kernel_rfl))
 f257:=Tryz.func116.trans (congrArg some (by kernel_rfl))
 f294:=Tryz.func133.trans (congrArg some (by kernel_rfl))
 f295:=Tryz.func134.trans (congrArg some (by kernel_rfl))
 f296:=Tryz.func135.trans (congrArg some (by kernel_rfl))
 f297:=Tryz.func136.trans (congrArg some (by kernel_rfl))
 f298:=Tryz.func137.trans (congrArg some (by kernel_rfl))
 f299:=Tryz.func138.trans (congrArg some (by kernel_rfl))
 f300:=Tryz.func140.trans (congrArg some (by kernel_rfl))
 f301:=Tryz.func141.trans (congrArg some (by kernel_rfl))
 f328:=Tryz.func153.trans (congrArg some (by kernel_rfl))
 f329:=Tryz.func154.trans (congrArg some (by kernel_rfl))
 f330:=Tryz.func155.trans (congrArg some (by kernel_rfl))
 f331:=Tryz.func156.trans (congrArg some (by kernel_rfl))
 f332:=Tryz.func157.trans (congrArg some (by kernel_rfl))
 f343:=Tryz.func169.trans (congrArg some (by kernel_rfl))
 t0:=Tryz.underlying0
 a0:=Tryz.isAgg0
 z0:=Tryz.sizeOf0
 v0:=Tryz.zeroValue0
 t3:=Tryz.underlying3
 a3:=Tryz.isAgg3
 z3:=Tryz.sizeOf3
 v3:=Tryz.zeroValue3
 t4:=Tryz.underlying4
 a4:=Tryz.isAgg4
 z4:=Tryz.sizeOf4
 v4:=Tryz.zeroValue4
 t5:=Tryz.underlying5
 a5:=Tryz.isAgg5
 z5:=Tryz.sizeOf5
 v5:=Tryz.zeroValue5
 t9:=Tryz.underlying9
 a9:=Tryz.isAgg9
 z9:=Tryz.sizeOf9
 v9:=Tryz.zeroValue9
 t28:=Tryz.underlying54
 a28:=Tryz.isAgg54
 z28:=Tryz.sizeOf54
 v28:=Tryz.zeroValue54
 t46:=Tryz.underlying151
 a46:=Tryz.isAgg151
 z46:=Tryz.sizeOf151
 v46:=Tryz.zeroValue151
 t51:=Tryz.underlying169
 a51:=Tryz.isAgg169
 z51:=Tryz.sizeOf169
 v51:=Tryz.zeroValue169
 t53:=Tryz.underlying171
 a53:=Tryz.isAgg171
 z53:=Tryz.sizeOf171
 v53:=Tryz.zeroValue171
 t131:=Tryz.underlying166
 a131:=Tryz.isAgg166
 z131:=Tryz.sizeOf166
 v131:=Tryz.zeroValue166
 t182:=Tryz.underlying160
 a182:=Tryz.isAgg160
 z182:=Tryz.sizeOf160
 v182:=Tryz.zeroValue160
 t183:=Tryz.underlying161
 a183:=Tryz.isAgg161
 z183:=Tryz.sizeOf161
 v183:=Tryz.zeroValue161
 t218:=Tryz.underlying178
 a218:=Tryz.isAgg178
 z218:=Tryz.sizeOf178
 v218:=Tryz.zeroValue178
 t222:=Tryz.underlying182
 a222:=Tryz.isAgg182
 z222:=Tryz.sizeOf182
 v222:=Tryz.zeroValue182
 t228:=Tryz.underlying195
 a228:=Tryz.isAgg195
 z228:=Tryz.sizeOf195
 v228:=Tryz.zeroValue195
 t229:=Tryz.underlying196
 a229:=Tryz.isAgg196
 z229:=Tryz.sizeOf196
 v229:=Tryz.zeroValue196 }
def j0(k:Nat)(ws:List Int):List (Nat×aq):=[(k,.box (.agg (ws.map enc)))]
theorem Ck(p:Nat→Bool)(l:List Int):(I.agg (l.map enc)).only p=true:=by simp only[I.only];exact fu p l
def Y7(ws:List Int):cG:=fun r os'=>r=.tuple []∧os'=j0 1000000 ws
def cm(xs:List Int):List Int:=xs.mergeSort fun x y=>decide (x≤y)
theorem Eo{w:World}{D:aP}{E:aZ} : ∀ {xs:List Int} {cs:List Value},aM w D E (xs.map enc) cs→cs=xs.map (Value.int .i64)∧∀ x∈xs,IntKind.i64.min≤x∧x≤IntKind.i64.max
 | [],cs,h=>by
  simp only[zy6,aM] at h;subst h;exact ⟨rfl,by simp⟩
 |x::xs,cs,h=>by
  simp only[Z4,aM] at h;obtain ⟨c1,c2,rfl,J,U⟩:=h;obtain ⟨rfl,ah⟩:=Eo U;have h1':c1=[.int .i64 x]∧IntKind.i64.min≤x∧x≤IntKind.i64.max:=J;obtain ⟨rfl,au⟩:=h1';refine ⟨rfl,fun y hy =>?_⟩;rcases zx3.1 hy with rfl | hy
  ·exact au
  ·exact ah y hy
theorem rh{w:World}{D:aP}{E:aZ} : ∀ {xs:List Int},(∀ x∈xs,IntKind.i64.min≤x∧x≤IntKind.i64.max)→aM w D E (xs.map enc) (xs.map (Value.int .i64))
 | [],_=>rfl
 |x::xs,h=>⟨[.int .i64 x],xs.map (Value.int .i64),rfl,⟨rfl,h x (by simp)⟩,rh fun y hy=>h y (by simp[hy])⟩
theorem rD(xs:List Int):(I.agg (xs.map enc)).aX=.eJ (List.replicate xs.length .one):=by
 show cO.eJ (I.cV _)=_
 congr 1
 induction xs with
 |nil=>rfl
 |cons x xs ih=>simp only[Z4,I.cV,ih,zx5,List.replicate_succ];rfl
theorem Yz{xs ys q:List Int}(ao:ys.length=xs.length){cs:Array Value}(hc:cs.toList=(xs++q).map (Value.int .i64)):(Sort.putCells (Value.int .i64) 0 ys.toArray cs).toList=(ys++q).map (Value.int .i64):=by
 apply List.ext_getElem?;intro k;have J:cs[k]?=((xs++q).map (Value.int .i64))[k]?:=by rw[←hc,zy8]
 rw[zy8,Sort.putCells,Array.getElem?_mapIdx,J];simp only[zz9,List.size_toArray,zy9,true_and,Z1,Nat.sub_zero];by_cases hk:k<ys.length
 ·simp only[hk,if_true];rw[zz5 (by omega),zz5 hk,zz4 (by omega),zz4 hk];simp[hk]
 ·simp only[hk,if_false];rw[zx4 (by omega),zx4 (by omega),ao];cases (q[k-xs.length]?) <;>rfl
open Go.Sort Go.RowKit in
theorem GA(xs q:List Int)(hn:xs.length≤1000):cS Tryz.prog 89 [.view 1000000 [] 1 0 xs.length] (j0 1000000 (xs++q)) (Y7 (cm xs++q)):=by
 refine ⟨z8,fun w D E vs _ hD hO hv =>?_⟩;have ho:=hO.bO 1000000;simp only[j0,aj,if_true] at ho;obtain ⟨b,cs,T,aA,-,hb,hr,hnD⟩:=ho;have hEn:∀ n,n≠1000000→E n=none:=fun n hn=>by
  have:=hO.bO n;simpa only[j0,aj,if_neg hn,cX] using this
 simp only[aI] at hv;obtain ⟨v,rest,cs',rfl,hp,hr',rfl⟩:=hv;obtain ⟨b',aX,off,l,hE',hoff,hpart,rfl,hl1,hl2,hl3⟩:=hr';rw[aA] at hE';simp only[v6,bL.aN.injEq] at hE';obtain ⟨rfl,rfl⟩:=hE';have hoff':off=0:=by
  have:(some 0:Option Nat)=some off:=by rw[←hoff];rw[rD];rfl
  injection this with this;exact this.symm
 subst hoff';have hp':v=.slice (some ⟨b,0,none⟩) xs.length (l.length-0):=by
  have:[Value.slice (some ⟨b,0+0*1,none⟩) xs.length (l.length-0)]=[v]:=hp;simpa using this.symm
 subst hp';obtain ⟨hcs,hrg⟩:=Eo hr;have hbs:b<w.heap.size:=(zz1.1 hb).1;have hH:Holds (Value.int .i64) w b 0 xs.toArray:=fun j hj=>by
  simp only[List.size_toArray] at hj;constructor
  ·simp only[World.cell?,hb,Option.isSome_none,Z2,if_false,Z1];rw[←zy8,hcs];rw[zz2,zz5 (by simpa using hj)];simp[hj]
  ·simp[World.frozen?,hb]
 have hlen:(cm xs).length=xs.length:=by simp[cm]
 refine (Any.slices_Sort_int BZ b 0 (l.length-0) xs w hH hbs (by omega)).mono ?_;rintro e w' ⟨rfl,n,os,rfl⟩;have hb1:(putRow (Value.int .i64) (Sort.ahead w n) b 0 (cm xs).toArray).heap[b]?=some (.cells (putCells (Value.int .i64) 0 (cm xs).toArray cs) T (0,0)):=by
  simp[putRow,mapBlock,Sort.ahead,Array.getElem?_modify,hb,onCells]
 have hother:∀ k,k<w.heap.size→k≠b→(grow (putRow (Value.int .i64) (Sort.ahead w n) b 0 (cm xs).toArray) os).heap[k]?=w.heap[k]?:=fun k hk hkb=>by
  rw[heap_grow_old _ _ (by simpa[Sort.ahead] using hk)];simp[putRow,mapBlock,Sort.ahead,Array.getElem?_modify,Ne.symm hkb]
 have hb2:(grow (putRow (Value.int .i64) (Sort.ahead w n) b 0 (cm xs).toArray) os).heap[b]?=some (.cells (putCells (Value.int .i64) 0 (cm xs).toArray cs) T (0,0)):=by
  rw[heap_grow_old _ _ (by simpa[Sort.ahead] using hbs)];exact hb1
 have hsz:w.heap.size≤(grow (putRow (Value.int .i64) (Sort.ahead w n) b 0 (cm xs).toArray) os).heap.size:=by simp[Sort.ahead]
 have hshow:(grow (putRow (Value.int .i64) (Sort.ahead w n) b 0 (xs.mergeSort fun x y=>decide (x≤y)).toArray) os)=(grow (putRow (Value.int .i64) (Sort.ahead w n) b 0 (cm xs).toArray) os):=rfl;rw[hshow];have hw1:(grow (putRow (Value.int .i64) (Sort.ahead w n) b 0 (cm xs).toArray) os).os=w.os:=rfl;have hw2:(grow (putRow (Value.int .i64) (Sort.ahead w n) b 0 (cm xs).toArray) os).tape=w.tape:=rfl;have hw3:(grow (putRow (Value.int .i64) (Sort.ahead w n) b 0 (cm xs).toArray) os).output=w.output:=rfl;revert hother hb2 hsz hw1 hw2 hw3;generalize grow (putRow (Value.int .i64) (Sort.ahead w n) b 0 (cm xs).toArray) os=w2;intro hother hb2 hsz hw1 hw2 hw3;have hmem:∀ x∈cm xs++q,IntKind.i64.min≤x∧x≤IntKind.i64.max:=fun x hx=>hrg x (by
  rcases zy7.1 hx with h | h
  ·exact List.mem_append_left _ (by simpa[cm] using h)
  ·exact List.mem_append_right _ h)
 refine ⟨.tuple #[],D,E,.tuple [],j0 1000000 (cm xs++q),rfl,⟨rfl,rfl⟩,⟨[],rfl,rfl⟩,⟨fun m =>?_,hO.cN⟩,⟨hw1,hw2,hw3,hsz,fun k hk =>?_⟩,fun _ _ h=>h,fun b0 o h=>Nat.lt_of_lt_of_le (hD b0 o h) hsz,fun _ _ h _ _=>h,fun m e h _=>⟨e,h,bL.le.refl e⟩,⟨fun b0 o u af hc =>?_,fun b0 es ck af hc =>?_⟩⟩
 ·by_cases hm:m=1000000
  ·subst hm;simp only[j0,aj,if_true];refine ⟨b,_,T,?_,.inr ⟨1000000,_,aA,rfl⟩,hb2,?_,hnD⟩
   ·rw[aA,rD,rD,Z6,Z6,hlen]
   ·show aM w2 D E _ _
    rw[Yz hlen hcs];exact rh hmem
  ·simp only[j0,aj,if_neg hm,cX];exact hEn m hm
 ·by_cases hk2:k<w.heap.size
  ·exact hother k hk2 fun e=>hk (.inr ⟨1000000,_,aA,by rw[e];rfl⟩)
  ·exact absurd (.inl (Nat.le_of_not_lt hk2)) hk
 ·have hne:b0≠b:=fun e=>hnD o (e▸af);simp only[World.cell?,hother b0 (hD b0 o af) hne] at hc ⊢;exact hc
 ·have hne:b0≠b:=fun e=>hnD 0 (e▸af);rw[hother b0 (hD b0 0 af) hne];exact hc
theorem GB(v:I)(hv0:v=.nils 1∨v=enc ([]:List Int)):bd Tryz.prog 89 [v] (.tuple []):=by
 refine ⟨z8,fun w D vs _ hD hv =>?_⟩;simp only[aI] at hv;obtain ⟨u,rest,cs',rfl,hp,hr',rfl⟩:=hv;have hu:∃ a cap,u=.slice a 0 cap:=by
  rcases hv0 with rfl | rfl
  ·have J:cs'=[.slice none 0 0]:=hr';have U:cs'=[u]:=hp;rw[J] at U;exact ⟨none,0,by simpa using U.symm⟩
  ·obtain ⟨a,cap,J,_⟩:=hr';have U:cs'=[u]:=hp;rw[J] at U;exact ⟨a,cap,by simpa using U.symm⟩
 obtain ⟨a,cap,rfl⟩:=hu;refine (Any.slices_Sort_int_none BZ a cap w).mono ?_;rintro e w' ⟨rfl,rfl⟩;exact ⟨.tuple #[],D,rfl,⟨[],rfl,rfl⟩,⟨rfl,rfl,rfl,Z3 _,fun _ _=>rfl⟩,hD,fun _ _ h _=>h⟩
end Go.Proofs.YthbdbocionnfgaaGreatDoor
namespace Go.Proofs.YthbdbocionnfgaaGreatDoor
open Go Go.Abs
open Go.Abs.Enc (enc)
theorem AS(n:Nat)(ts:List (Nat×I)):∀ t,Abs.bW (lL [n] ts) t=if (Abs.bW ts t).only (fun j => ![n].contains j)=true then Abs.bW ts t else .dv:=by
 intro t;simp only[lL]
 induction ts with
 |nil=>simp[Abs.bW]
 |cons q ts ih =>
  obtain ⟨k,v⟩:=q;simp only[Z4,Abs.bW];split
  ·rfl
  ·exact ih
theorem ui{p q:Nat→Bool}(h:∀ n,p n=true→q n=true){y:aq}(hy:y.only p=true):y.only q=true:=by
 cases y with
 |box x=>exact iK h _ hy
 |bU T sz es=>exact ig h _ hy
 |dK o=>rfl
 |dL T xs=>rfl
 |bt ks vs=>simp only[aq.only,t8] at hy ⊢;exact ⟨ig h _ hy.1,ig h _ hy.2⟩
 |it ks vs l c=>simp only[aq.only,t8] at hy ⊢;exact ⟨ig h _ hy.1,ig h _ hy.2⟩
theorem CH{n k:Nat} : ∀ {ts:List (Nat×I)},(∀ q∈ts,qV n k q.2)→∀ t,qV n k (Abs.bW ts t)
 | [],_,_=>.inr rfl
 |(a,v)::ts,h,t=>by
  simp only[Abs.bW];split
  ·exact h (a,v) (by simp)
  ·exact CH (fun q hq=>h q (by simp[hq])) t
theorem tr{p:Nat→Bool}{n k:Nat}(hp:p=fun j => ![n].contains j)(f:aq→aq)(hf:∀ y:aq,y.only p=true→f y=y):∀ {os:List (Nat×aq)},cJ p (eL [n] os)→cJ p (eL [n] (os.map fun q=>(q.1,f q.2)))
 | [],_=>trivial
 |(m,y)::os,h=>by
  simp only[Z4,eL,List.filter_cons] at h ⊢;split
  ·rename_i hm;rw[if_pos hm] at h;refine ⟨?_,tr (k:=k) hp f hf h.2⟩;rw[hf y h.1];exact h.1
  ·rename_i hm;rw[if_neg hm] at h;exact tr (k:=k) hp f hf h
theorem MV{ys q:List Int}{k:Nat}(hk:ys.length=k):lM 1 0 k (some ((ys++q).map enc))=some (enc ys):=by
 have h:(((ys++q).map (enc (α:=Int))).drop 0).take k=ys.map enc:=by
  rw[List.drop_zero,zz2,List.take_append_of_le_length (by simp[hk]),List.take_of_length_le (by simp[hk])]
 simp only[lM,h];rw[if_pos (iA ys),hl];rfl
theorem Fj{n k:Nat} : ∀ y:aq,y.only (fun j => ![n].contains j)=true→jG (iV n k) y=y:=fun y hy=>by
 cases y <;>try rfl
 simp only[aq.only] at hy;simp only[jG,ua (iK (fun j hj=>by simpa using hj) _ hy)]
theorem Fh{n:Nat} : ∀ y:aq,y.only (fun j => ![n].contains j)=true→jG (iU n) y=y:=fun y hy=>by
 cases y <;>try rfl
 simp only[aq.only] at hy;simp only[jG,Fi (iK (fun j hj=>by simpa using hj) _ hy)]
theorem Fg{ts ts':List (Nat×I)}(h:∀ q∈ts',Abs.bW ts q.1=q.2):cw ts ts':=by
 induction ts' with
 |nil=>trivial
 |cons q ts' ih=>exact ⟨h q (by simp),ih fun q hq=>h q (by simp[hq])⟩
theorem ae.Zo{W0:World}{bG:aP}{nn:Nat}{ow:Nat→Prop}{E1:aZ}{Y:Value→List I→List (Nat×aq)→cG→Prop}{lj:Option Nat}{ba:Option (List Deferred)}{y:bq}{Q:Exit→ai→Prop}{ts:List (Nat×I)}{os:List (Nat×aq)}{a b d n:Nat}{xs:List Int}
  (af:Abs.bW ts d=.own n xs.length) (hn:aj os n=some (.dL 3 xs)) (hlt:n<1000000) (ao:xs.length≤1000) (ht:∀ t,qV n xs.length (Abs.bW ts t)) (ho:cJ (fun j => ![n].contains j) (eL [n] os))
  (ts':List (Nat×I)) (J:∀ q∈ts',q.1≠a∧q.1≠b∧Abs.bW ts q.1=q.2∧q.2.only (fun j=>j != n)=true)
  (hda:d≠a) (hdb:d≠b)
  (h:ae ⟨Tryz.prog,W0,bG,nn,ow,E1,Y,lj,ba⟩ y Q (av ((d,enc (cm xs))::ts') (eL [n] os))) :
  ae ⟨Tryz.prog,W0,bG,nn,ow,E1,Y,lj,ba⟩ (.seq (.cd none [⟨some a,.mv (.t d),none⟩,⟨some b,.call 89 [.t a],none⟩]) y) Q (av ts os):=by
 have hdrop:∀ m,aj (eL [n] os) m=if m=n then none else aj os m:=fun m=>by
  have:=nR [n] os m;simpa using this
 have ho':∀ m y,aj os m=some y→m≠n→y.only (fun j=>j != n)=true:=fun m y hy hm=>by
  have:=wR ho m y (by rw[hdrop,if_neg hm];exact hy);exact ui (fun j hj=>by simpa using hj) this
 by_cases hx:xs=[]
 ·subst hx;refine ae.sub (bx.ZE hn (bx.refl _)) ?_;refine ae.seq (ae.cd (cl:=[]) (by rfl) fun K hK =>?_);have hd':Abs.bW (ts.map fun q=>(q.1,iU n q.2)) d=.nils 1:=by
   rw[po _ rfl,af];simp[iU]
  simp only[bF,simprocAttr,hd'];refine .flat _ (GB _ (.inr rfl)) rfl ?_
  try simp only[bF,simprocAttr]
  refine .done (hK _ ?_);clear hK K;refine ae.sub ((bx.jN [n] d (x:=.nils 1) (y:=enc ([]:List Int)) ?_ (by rfl) ?_).trans (bx.slots ?_ fun m =>?_)) h
  ·simp only[Abs.bW,hda,hdb,if_false];exact hd'
  ·exact tr (k:=0) rfl (jG (iU n)) Fh ho
  ·refine ⟨by simp[Abs.bW,cm],Fg fun q hq =>?_⟩;obtain ⟨k1,k2,k3,k4⟩:=J q hq;have hqd:q.1≠d:=fun e=>by
    rw[e,af] at k3;rw[←k3] at k4;simp[I.only] at k4
   have h5:Abs.bW (ts.map fun p=>(p.1,iU n p.2)) q.1=q.2:=by
    rw[po _ rfl,k3,Fi k4]
   simp only[Abs.bW,AS,k1,k2,hqd,if_false,h5];rw[if_pos (iK (fun j hj=>by simpa using hj) _ k4)]
  ·rw[hdrop,nR,ta];by_cases hm:m=n
   ·simp[hm]
   ·cases h6:aj os m with
    |none=>simp[hm]
    |some y =>
     have h7:jG (iU n) y=y:=Fh _ (ui (fun j hj=>by simpa using hj) (ho' _ _ h6 hm));simp[hm,h7]
 ·refine ae.ZD hn hx hlt ht (fun m y hy hm=>.inr (ho' m y hy hm)) fun q =>?_;refine ae.seq (ae.cd (cl:=[]) (by rfl) fun K hK =>?_);have hd':Abs.bW (ts.map fun p=>(p.1,iV n xs.length p.2)) d=.view n [] 1 0 xs.length:=by
   rw[po _ rfl,af];simp[iV]
  simp only[bF,simprocAttr,hd'];refine .bO false [(1000000,n)] (j0 1000000 (xs++List.replicate q 0)) [.view 1000000 [] 1 0 xs.length] _ rfl (GA xs _ (by omega)) ?_ ?_ ?_ ?_
  ·refine ⟨fun m y hy =>?_,fun m m' h h' _=>by rw[mL.1 h,mL.1 h']⟩;simp only[j0,aj] at hy;split at hy
   ·rename_i hm;cases hy;subst hm;exact ⟨by simp only[bI,if_true,aj,aq.bm,I.bm,tJ],Ck _ _,rfl⟩
   ·cases hy
  ·exact ⟨.inl ⟨by simp[I.bm,bI],mL.2 rfl,rfl⟩,trivial⟩
  ·rintro rr os2 ⟨rfl,rfl⟩;refine ⟨fun m y hy =>?_,fun m m' h h' _=>by rw[mL.1 h,mL.1 h'],fun m hm=>by rw[mL.1 hm];exact mL.2 rfl,fun m a b=>by rw[mL.1 a] at b;simp[j0,aw,aj] at b,rfl,fun _=>rfl⟩;simp only[j0,aj] at hy;split at hy
   ·cases hy;exact ⟨Ck _ _,rfl,fun h=>by cases h⟩
   ·cases hy
  ·rintro rr os2 ⟨rfl,rfl⟩
   try simp only[j0,dF,Z4,zy6,aq.bm,I.bm,tJ,bI,reduceIte,Z7,zx6,I.dX,bF,simprocAttr]
   refine .done (hK _ ?_);clear hK K;refine ae.sub ((bx.jN [n] d (x:=.view n [] 1 0 xs.length) (y:=enc (cm xs)) ?_ ?_ ?_).trans (bx.slots ?_ fun m =>?_)) h
   ·simp only[Abs.bW,hda,hdb,if_false];exact hd'
   ·have:aj (mO [n] ((n,aq.box (I.agg ((cm xs++List.replicate q 0).map enc)))::(n,aq.box (I.agg ((xs++List.replicate q 0).map enc)))::os.map fun p=>(p.1,jG (iV n xs.length) p.2))) n=some (.box (.agg ((cm xs++List.replicate q 0).map enc))):=by
     rw[pj];simp[aj]
    try simp only[this,bF,simprocAttr]
    exact MV (by simp[cm])
   ·have:=tr (k:=0) rfl (jG (iV n xs.length)) Fj ho;simpa[eL] using this
   ·refine ⟨by simp[Abs.bW],Fg fun q hq =>?_⟩;obtain ⟨k1,k2,k3,k4⟩:=J q hq;have hqd:q.1≠d:=fun e=>by
     rw[e,af] at k3;rw[←k3] at k4;simp[I.only] at k4
    have h5:Abs.bW (ts.map fun p=>(p.1,iV n xs.length p.2)) q.1=q.2:=by
     rw[po _ rfl,k3,ua k4]
    simp only[Abs.bW,AS,k1,k2,hqd,if_false,h5];rw[if_pos (iK (fun j hj=>by simpa using hj) _ k4)]
   ·rw[hdrop,nR];by_cases hm:m=n
    ·simp[hm]
    ·simp only[aj,if_neg hm,ta];cases h6:aj os m with
     |none=>simp[hm]
     |some y =>
      have h7:jG (iV n xs.length) y=y:=Fj _ (ui (fun j hj=>by simpa using hj) (ho' _ _ h6 hm));simp[hm,h7]
def iM(ks:List Int)(ay:List Nat):List Int:=ay.map fun i=>ks.getD i 0
theorem Yi(ks:List Int)(ay:List Nat)(i:Nat):iM ks (ay++[i])=iM ks ay++[ks.getD i 0]:=by simp[iM]
theorem Yh(ks:List Int)(ay:List Nat):(iM ks ay).length=ay.length:=by simp[iM]
theorem Yg{ks:List Int}{ay:List Nat}(h:ay.Perm (List.range ks.length)):(iM ks ay).Perm ks:=by
 have e:(List.range ks.length).map (fun i=>ks.getD i 0)=ks:=by
  refine List.ext_getElem (by simp) fun i J U =>?_;simp[Z0,U]
 simp only[iM];have:=h.map fun i=>ks.getD i 0
 rwa [e] at this
theorem Zm{xs ys:List Int}(h:xs.Perm ys):cm xs=cm ys:=by
 unfold cm;have hx:=List.pairwise_mergeSort (le:=fun x y:Int=>decide (x≤y)) (by intro a b c;simp;omega) (by intro a b;simp;omega) xs;have hy:=List.pairwise_mergeSort (le:=fun x y:Int=>decide (x≤y)) (by intro a b c;simp;omega) (by intro a b;simp;omega) ys;refine List.Perm.eq_of_pairwise (fun a b _ _ h k =>?_) hx hy ((List.mergeSort_perm _ _).trans (h.trans (List.mergeSort_perm _ _).symm));simp only[decide_eq_true_eq] at h k;omega
theorem CM(p:Nat→Bool)(f:Nat→dc):∀ l:List Nat,I.ct p (l.map fun i=>.ref (enc (f i)))=true
 | []=>rfl
 |i::l=>by simp[I.ct,I.only,cA,CM p f l]
def yh(s:aD)(t:List Nat×List Nat×Option Nat):ai :=
 av [(3,.own 905 (iM s.bz t.1).length),(9,.dq 9)] [(9,.it (s.bz.map enc) (s.aQ.map fun i=>.ref (enc (s.b9 i))) t.2.1 t.2.2),(905,.dL 3 (iM s.bz t.1))]
theorem x6(s:aD)(ao:s.aQ.length≤1000):bd Tryz.prog 85 [dH s] (enc (cm s.bz)):=by
 refine bd.b6 Tryz.func85 IV JW Lf (u8 rfl) (fun hwf W0 bG E1 =>?_);simp only[zE,Eg,bH];clear hwf;have hlen:s.bz.length=s.aQ.length:=by simp[aD.bz]
 refine .gC (by decide +kernel) fun K hK =>?_;simp only[Bp,bF,simprocAttr];refine .done (hK _ ?_);clear hK K;refine .gC (by decide +kernel) fun K hK =>?_;simp only[Bq,bF,simprocAttr];refine .done (hK _ ?_);clear hK K;refine ae.seq (ae.seq ?_);refine .kq (by decide +kernel) fun K hK =>?_;simp only[Br,bF,simprocAttr]
 try simp only[eF,jC,bA,mQ,bF,simprocAttr]
 refine .done (hK _ ?_);clear hK K;try simp only[eA]
 refine ae.block (ae.loop (yh s) (fun t=>(t.1++t.2.1).Perm (List.range s.bz.length)) (fun t=>t.2.1.length) ([],List.range s.bz.length,none) (by simp) ?_ ?_)
 ·refine bx.GU 3 905 3 1 rfl rfl ?_;refine bx.slots ?_ (fun n =>?_)
  ·simp[cw,cq,iM]
  ·simp only[iM,zy6,dx,qK,Z9,hlen]
   (repeat' split) <;>simp_all
 rintro ⟨ay,left,cur⟩ hC;simp only at hC;have hdl:ay.length+left.length=s.bz.length:=by simpa using hC.length_eq
 have hpl:=Yh s.bz ay;simp only[yh];by_cases hn:left=[]
 ·subst hn;refine .gC (by decide +kernel) fun K hK =>?_;simp only[vT,bF,simprocAttr]
  try simp only[mQ,CB,bF,simprocAttr]
  refine .done (hK _ ?_);clear hK K;refine ae.seq ?_;refine ae.jQ ?_;simp only[aB,bF,simprocAttr];refine ⟨fun h =>?_,fun h =>?_⟩
  case refine_1=>cases h
  refine ae.exit ?_;try simp only[eA,jK,simprocAttr]
  have hdn:(iM s.bz ay).Perm s.bz:=Yg (by simpa using hC);rw[←Zm hdn];generalize iM s.bz ay=xs at hpl;refine ae.Zo (a:=18) (b:=19) (d:=3) (n:=905) (xs:=xs) rfl rfl (by decide) (by omega) (CH (by simp[qV,I.only,I.ct])) (by simp only[eL,List.filter_cons,List.filter_nil,List.contains_cons];simp[cJ,aq.only,fu,CM,-List.map_map]) [] (by simp) (by decide) (by decide) ?_;have R:=aC
  repeat' ((first |refine ae.aF (by decide +kernel) rfl fun K hK =>?_|(refine .ay [0,2,3,4,9,11] hK ?_;clear hK K)|(with_reducible refine .done (hK _ ?_);clear hK K)|refine ae.of rfl ?_|(with_reducible refine aB.aE (fun h =>?_) (fun h =>?_) <;>try simp only[h])) <;>try simp only[aG,R,simprocAttr])
  all_goals clear R
 ·refine .gC (by decide +kernel) fun K hK =>?_;simp only[vT,bF,simprocAttr]
  try simp only[mQ,bF,simprocAttr]
  refine aR.ib hn fun i hi =>?_;have hib:i<s.bz.length:=zw0.1 (hC.mem_iff.1 (by simp[hi]));have hib2:i<s.aQ.length:=by omega
  obtain ⟨hm,hC2⟩:=B8 hC hi;have hk1:(s.bz.map (enc (α:=Int)))[i]?=some (enc s.bz[i]):=by simp[hib]
  have hk2:(s.aQ.map fun i=>I.ref (enc (s.b9 i)))[i]?=some (.ref (enc (s.b9 s.aQ[i]))):=by simp[hib2]
  refine ⟨_,_,hk1,hk2,?_⟩;have hent:mH (s.bz.map enc) (s.aQ.map fun i=>I.ref (enc (s.b9 i))) (some i)=some (.tuple [enc s.bz[i],.ref (enc (s.b9 s.aQ[i]))]):=by
   simp only[mH,hk1,hk2]
  have hx:s.bz.getD i 0=s.bz[i]:=by simp[Z0,hib]
  have hsn:=Yi s.bz ay i;rw[hx] at hsn;have hbs:fm 1 (some [.int .i64 s.bz[i]])=some (enc [s.bz[i]]):=iw 1 s.bz[i] rfl;have hap:=fun (A:ai) d rest=>G6 (A:=A) (d:=d) (e:=3) (bytes:=8) (n:=905) (l:=(iM s.bz ay).length) (xs:=iM s.bz ay) (y:=s.bz[i]) (rest:=rest) rfl (by simp[maxLen];omega) (by omega)
  try simp only[bF,simprocAttr]
  refine .done (hK _ ?_);clear hK K;refine ae.seq ?_;refine ae.jQ ?_;simp only[aB,bF,simprocAttr];refine ⟨fun h =>?_,fun h =>?_⟩
  case refine_2=>cases h
  refine ae.skip ?_;try simp only[eA,simprocAttr]
  refine ae.block ?_;have R:=y6 @hent (y6 @hbs (y6 @hap aC))
  repeat' ((first |refine ae.aF (by decide +kernel) rfl fun K hK =>?_|(refine .ay [0,2,3,4,9,11] hK ?_;clear hK K)|(with_reducible refine .done (hK _ ?_);clear hK K)|refine ae.of rfl ?_|(with_reducible refine aB.aE (fun h =>?_) (fun h =>?_) <;>try simp only[h])) <;>try simp only[aG,R,simprocAttr])
  all_goals clear R
  refine ⟨(ay++[i],left.filter (· != i),some i),hC2,hm,?_⟩;simp only[hsn];refine bx.slots ?_ (fun n =>?_)
  ·simp[cw,cq]
  ·simp only[dx,qK];(repeat' split) <;>simp_all
theorem Y5:(∀ A d rest l,tN A d rest (jO l)=az rest ((A.aS d (.it (l.map enc) (List.replicate l.length (.bool true)) (List.range (l.map (enc (α:=Int))).length) none)).put d (.dq d))):=fun _ _ _ _=>rfl
def ng(s:aD):List dc:=(cm s.bz).map fun n=>s.b9 (n.toNat-1)
def tL(p:bu):List dc×Int:=match dn p with
 |none=>([],91)
 |some s=>(ng s,0)
theorem Hi{s:aD}{n:Int}(h:n∈s.bz):∃ j,s.at n=some j∧n=(j:Int)+1∧j∈s.aQ:=by
 obtain ⟨j,hj,rfl⟩:=zy0.1 h;have ab:(s.at ((j:Int)+1)).isSome=true:=by
  simp only[aD.at,List.find?_isSome];exact ⟨j,hj,by simp⟩
 obtain ⟨k,hk⟩:=zz8.1 ab;obtain ⟨J,U⟩:=jn hk;exact ⟨k,hk,U,J⟩
theorem Zl{l:List Int}{n:Int} : n∈cm l↔n∈l:=by simp[cm]
theorem xq:∀ {l:List bg} {s s':aD},fI s l=some s'→s'.aQ.length≤s.aQ.length+l.length
 | [],s,s',h=>by cases h;simp
 |x::l,s,s',h=>by
  simp only[fI] at h;cases hx:gp s x with
  |none=>rw[hx] at h;cases h
  |some s2 =>
   rw[hx] at h;have J:=xq h;have he:∀ b,(s.aQ.erase b).length≤s.aQ.length:=fun b=>List.length_erase_le;have U:s2.aQ.length≤s.aQ.length+1:=by
    simp only[gp] at hx;split at hx
    ·simp only[ed] at hx
     (repeat' split at hx) <;>first
      |(cases hx;done)
      |(cases hx;exact zw3 (he _) (Nat.le_succ _))
      |(cases hx;exact Nat.le_succ _)
      |(cases hx;simp)
    ·cases hx
   simp only[zx5];omega
theorem X2{p:bu}{s:aD}(h:dn p=some s):s.aQ.length≤200:=by
 obtain ⟨_,_,_,au,_,h6⟩:=iL h;have:=xq h6;simp only[eM,List.length_nil] at this;omega
theorem Cc(s:aD){i:Nat}(h:i<(cm s.bz).length):fp (.i .i64) .nilp (.int .i64 (cm s.bz)[i]) (s.bz.map enc) (s.aQ.map fun i=>.ref (enc (s.b9 i)))=some (.ref (enc (s.b9 ((cm s.bz)[i].toNat-1))),true):=by
 have hm:(cm s.bz)[i]∈s.bz:=Zl.1 (List.getElem_mem h);obtain ⟨j,hj,e,_⟩:=Hi hm;rw[wk (s:=s) (fun i=>.ref (enc (s.b9 i))),hj];have:(cm s.bz)[i].toNat-1=j:=by omega
 simp only[this]
theorem MT{xs:List dc} : ke xs.length (some (.bU 48 4 (xs.map enc)))=some (enc xs):=oZ 4 rfl rfl
def uy(p:bu)(s:aD)(t:Nat×List dc):ai :=
 av [(1,.ptr 1 []),(4,dH s),(6,.own 905 t.2.length),(18,enc (cm s.bz)),(19,.int .i64 (cm s.bz).length),(20,.int .i64 t.1)] [(905,.bU 48 4 (t.2.map enc)),(1,.box (enc p))]
theorem F7(p:bu):bd Tryz.prog 46 [enc p] (.tuple [enc (tL p).1,enc (tL p).2]):=by
 refine bd.b6 Tryz.func46 Iu Jz KR (u8 rfl) (fun hwf W0 bG E1 =>?_);simp only[ze,DP,bH];clear hwf;have hF:=pU p;simp only[tL];cases ho:dn p with
 |none =>
  rw[ho] at hF;simp only[km] at hF;have R:=y6 @cn (y6 @bo (y6 @bZ (y6 @bC (y6 @bA aC))))
  repeat' ((first |refine ae.aF (by decide +kernel) rfl fun K hK =>?_|refine .lead _ (hF) ?_|(refine .ay [0,1,2,3,4,5,6,8,15,18,19,20,21] hK ?_;clear hK K)|(with_reducible refine .done (hK _ ?_);clear hK K)|refine ae.of rfl ?_|(with_reducible refine aB.aE (fun h =>?_) (fun h =>?_) <;>try simp only[h])) <;>try simp only[aG,R,simprocAttr])
  all_goals clear R
  rfl
 |some s =>
  have ao:=X2 ho;have hN:=x6 s (by omega);have hlen:(cm s.bz).length=s.aQ.length:=by simp[cm,aD.bz]
  have hrl:(ng s).length=(cm s.bz).length:=by simp[ng]
  have hso:∀ p,(dH s).only p=true:=fun p=>kl p _ (oy s);rw[ho] at hF;simp only[km] at hF;have R:=y6 @Y5 (y6 @eF (y6 @cn (y6 @bo (y6 @bZ (y6 @bC (y6 @bA aC))))))
  repeat' ((first |refine ae.aF (by decide +kernel) rfl fun K hK =>?_|refine .lead _ (hF) ?_|refine .lead _ (hN) ?_|(refine .ay [0,1,2,3,4,5,6,8,15,18,19,20,21] hK ?_;clear hK K)|(with_reducible refine .done (hK _ ?_);clear hK K)|refine ae.of rfl ?_|(with_reducible refine aB.aE (fun h =>?_) (fun h =>?_) <;>try simp only[h])) <;>try simp only[aG,R,simprocAttr])
  all_goals clear R
  refine ae.loop (uy p s) (fun t=>t.1≤(cm s.bz).length∧t.2=(ng s).take t.1) (fun t=>(cm s.bz).length-t.1) (0,[]) ⟨zy9 _,rfl⟩ ?_ ?_
  ·refine bx.pX 6 905 48 4 4 rfl rfl ?_;simp only[uy];refine bx.df ?_ ?_ ?_ ?_ <;>simp[*,cw,cY,cH,cJ,aw,cq,dx,I.only,I.ct,aq.only,cA]
  rintro ⟨i,xs⟩ ⟨hi,hxs⟩;simp only at hi hxs;have htl:xs.length=i:=by rw[hxs,zy4];omega
  simp only[uy];by_cases hlt:i<(cm s.bz).length
  ·have hc:=gx hlt;have he:=fun A=>fb (A:=A) 1 hlt rfl;have hw:=gq (i:=i) (by omega);have hlk:=Cc s hlt;obtain ⟨r,hr⟩:∃ r,r=s.b9 ((cm s.bz)[i].toNat-1):=⟨_,rfl⟩
   rw[←hr] at hlk;have hbs:fm 4 (some [enc r])=some (enc [r]):=iw 4 _ rfl;have hap:=fun (A:ai) d rest=>nA (A:=A) (d:=d) 48 4 32 905 (l:=xs.length) (es:=xs) (ys:=[r]) (rest:=rest) rfl rfl (by simp) (by simp[maxLen];omega) (by simp;omega);have htk:(ng s).take (i+1)=xs++[r]:=by
    have hik:i<(ng s).length:=by rw[hrl];exact hlt
    rw[zz3 hik,hxs,hr];simp[ng]
   have R:=y6 @hc (y6 @he (y6 @hw (y6 @hlk (y6 @hbs (y6 @hap (y6 @eF (y6 @cn (y6 @bo (y6 @bZ (y6 @bC (y6 @bA aC)))))))))))
   repeat' ((first |refine ae.aF (by decide +kernel) rfl fun K hK =>?_|(refine .ay [0,1,2,3,4,5,6,8,15,18,19,20,21] hK ?_;clear hK K)|(with_reducible refine .done (hK _ ?_);clear hK K)|refine ae.of rfl ?_|(with_reducible refine aB.aE (fun h =>?_) (fun h =>?_) <;>try simp only[h])) <;>try simp only[aG,R,simprocAttr])
   all_goals clear R
   refine ⟨(i+1,xs++[r]),⟨by simp only;omega,htk.symm⟩,by simp only;omega,?_⟩;simp only;clear hxs htk htl;refine bx.df ?_ ?_ ?_ ?_ <;>simp[*,cw,cY,cH,cJ,aw,cq,dx,I.only,I.ct,aq.only,fu,lZ,cA]
  ·have hge:i=(cm s.bz).length:=by omega
   have hc:=gL hlt;have htk:xs=ng s:=by rw[hxs];exact List.take_of_length_le (by omega)
   rw[←htk];have R:=y6 @hc (y6 @MT (y6 @eF (y6 @cn (y6 @bo (y6 @bZ (y6 @bC (y6 @bA aC)))))))
   repeat' ((first |refine ae.aF (by decide +kernel) rfl fun K hK =>?_|(refine .ay [0,1,2,3,4,5,6,8,15,18,19,20,21] hK ?_;clear hK K)|(with_reducible refine .done (hK _ ?_);clear hK K)|refine ae.of rfl ?_|(with_reducible refine aB.aE (fun h =>?_) (fun h =>?_) <;>try simp only[h])) <;>try simp only[aG,R,simprocAttr])
   all_goals clear R
theorem uK(a b:Int):(dT [.int .i64 0,.int .i64 0] [(0,.int .i64 a),(1,.int .i64 b)]).map I.agg=some (.agg [.int .i64 a,.int .i64 b]):=by simp[dT,I.bR,I.size]
instance:Enc aD where
 enc s:=dH s
 sz:=1
 aX:=.one
 gN:=false
 done s:=by simp only[dH,I.done,As]
 size _:=rfl
 iQ _:=rfl
 agg _:=rfl
theorem Mq(s:aD):(enc s:I)=dH s:=rfl
def hX(l:List bu)(i:Nat):bu:=l.getD i default
theorem wW{l:List bu}{i:Nat}(h:i<l.length):l[i]=hX l i:=by simp[hX,Z0,h]
def iD(l:List bu)(i:Nat):Bool:=(dn (hX l i)).isSome&&(i==0||decide ((hX l (i-1)).ar<(hX l i).ar))
def sf(l:List bu):Bool:=(List.range l.length).all (iD l)
def nr(l:List bu):List aD:=l.filterMap dn
def j8(l:List bu)(b:Int):List aD×Int:=if sf l then (if c4 1 9999 b then (nr l,0) else ([],1)) else ([],96)
theorem CO{p:bu}(h:(dn p).isSome=true):0≤p.ar∧p.ar≤5:=by
 obtain ⟨s,ab⟩:=zz8.1 h;have h5:=(iL ab).2.2.2.2.1;simp only[ic,c4,t8,decide_eq_true_eq] at h5;exact h5.1
theorem Wb{l:List bu}{n:Nat}(h:∀ j,j<n→iD l j=true):∀ j,j<n→(j:Int)≤(hX l j).ar:=by
 intro j
 induction j with
 |zero =>
  intro hj;have aY:=h 0 hj;simp only[iD,t8] at aY;exact (CO aY.1).1
 |succ j ih =>
  intro hj;have J:=ih (by omega);have U:=h (j+1) hj;simp only[iD,t8,Bool.or_eq_true,beq_iff_eq,decide_eq_true_eq] at U;rcases U.2 with ah | ah
  ·omega
  ·have:j+1-1=j:=rfl;rw[this] at ah;omega
theorem BG{l:List bu}{n:Nat}(h:∀ j,j<n→iD l j=true):n≤6:=by
 rcases Nat.lt_or_ge 6 n with hn | hn
 ·have J:=Wb h 6 hn;have U:=h 6 hn;simp only[iD,t8] at U;have:=(CO U.1).2;omega
 ·exact hn
theorem Zx{l:List bu}{i:Nat}(h:i<l.length):nr (l.take (i+1))=nr (l.take i)++(match dn (hX l i) with | some s=>[s] | none=>[]):=by
 rw[zz3 h,wW h];simp only[nr,List.filterMap_append,List.filterMap_cons,List.filterMap_nil];cases dn (hX l i) <;>rfl
theorem Fe(l:List bu):(nr l).length≤l.length:=List.length_filterMap_le _ _
theorem AX{xs:List aD} : ke xs.length (some (.bU 80 1 (xs.map enc)))=some (enc xs):=oZ 1 rfl rfl
def uA(l:List bu)(b:Int)(t:Nat×List aD):ai :=
 av [(0,enc l),(1,.int .i64 b),(6,.own 905 t.2.length),(11,enc l),(12,.int .i64 l.length),(13,.int .i64 t.1)] [(905,.bU 80 1 (t.2.map enc))]
theorem Gz(l:List bu)(b:Int):bd Tryz.prog 83 [enc l,enc b] (.tuple [enc (j8 l b).1,enc (j8 l b).2]):=by
 refine bd.b6 Tryz.func83 IU JV Le (u8 rfl) (fun hwf W0 bG E1 =>?_);simp only[zD,Ef,bH,Z1];have hlen:l.length≤maxLen:=((nt l).1 hwf.1).1;simp only[maxLen] at hlen;clear hwf;have R:=y6 @cn (y6 @bo (y6 @bZ (y6 @bC (y6 @bA aC))))
 repeat' ((first |(with_reducible refine .guard (fun hb =>?_) (fun hb =>?_) <;>try simp only[hb])|refine ae.aF (by decide +kernel) rfl fun K hK =>?_|(refine .ay [0,1,4,5,6,7,8,9,10,11,12,13,14,39,47] hK ?_;clear hK K)|(with_reducible refine .done (hK _ ?_);clear hK K)|refine ae.of rfl ?_|(with_reducible refine aB.aE (fun h =>?_) (fun h =>?_) <;>try simp only[h])) <;>try simp only[aG,R,simprocAttr])
 all_goals clear R
 refine ae.loop (uA l b) (fun t=>t.1≤l.length∧(∀ j,j<t.1→iD l j=true)∧t.2=nr (l.take t.1)) (fun t=>l.length-t.1) (0,[]) ⟨zy9 _,by simp,rfl⟩ ?_ ?_
 ·refine bx.pX 6 905 80 1 1 rfl rfl ?_;simp only[uA];refine bx.df ?_ ?_ ?_ ?_ <;>simp[cw,cY,cH,cJ,aw,cq,dx,I.only,I.ct,aq.only,cA]
  all_goals rfl
 rintro ⟨i,xs⟩ ⟨hi,hg,hxs⟩;simp only at hi hg hxs;have hi6:=BG hg;have hxl:xs.length≤i:=by
  rw[hxs];refine zw3 (Fe _) ?_;rw[zy4];omega
 simp only[uA];by_cases hlt:i<l.length
 ·have hc:=gx hlt;have he:=fun A=>fb (A:=A) 3 hlt rfl;rw[wW hlt] at he;have hw:=gq (i:=i) (by omega);have hF:=pU (hX l i);have hbad:iD l i=false→j8 l b=([],96):=fun h=>by
   have:sf l=false:=by
    simp only[sf,List.all_eq_false];exact ⟨i,zw0.2 hlt,by simp[h]⟩
   simp[j8,this]
  cases ho:dn (hX l i) with
  |none =>
   rw[ho] at hF;simp only[km] at hF;rw[hbad (by simp[iD,ho])];have R:=y6 @hc (y6 @he (y6 @cn (y6 @bo (y6 @bZ (y6 @bC (y6 @bA aC))))))
   repeat' ((first |(with_reducible refine .guard (fun hb =>?_) (fun hb =>?_) <;>try simp only[hb])|refine ae.aF (by decide +kernel) rfl fun K hK =>?_|refine .lead _ (hF) ?_|(refine .ay [0,1,4,5,6,7,8,9,10,11,12,13,14,39,47] hK ?_;clear hK K)|(with_reducible refine .done (hK _ ?_);clear hK K)|refine ae.of rfl ?_|(with_reducible refine aB.aE (fun h =>?_) (fun h =>?_) <;>try simp only[h])) <;>try simp only[aG,R,simprocAttr])
   all_goals clear R
   rfl
  |some s =>
   rw[ho] at hF;simp only[km] at hF;have hbs:fm 1 (some [dH s])=some (enc [s]):=iw 1 s rfl;have hap:=fun (A:ai) d rest=>nA (A:=A) (d:=d) 80 1 8 905 (l:=xs.length) (es:=xs) (ys:=[s]) (rest:=rest) rfl rfl (by simp) (by simp[maxLen];omega) (by simp;omega);have hst:nr (l.take (i+1))=xs++[s]:=by rw[Zx hlt,ho,hxs]
   have hso:∀ p,(dH s).only p=true:=fun p=>kl p _ (oy s);by_cases aY:i=0
   ·have hz:decide ((i:Int)>0)=false:=by simp;omega
    have hgi:iD l i=true:=by simp only[iD,ho];simp[aY]
    have R:=y6 @hc (y6 @he (y6 @hz (y6 @hw (y6 @hbs (y6 @hap (y6 @cn (y6 @eF (y6 @bo (y6 @bZ (y6 @bC (y6 @bA aC)))))))))))
    repeat' ((first |(with_reducible refine .guard (fun hb =>?_) (fun hb =>?_) <;>try simp only[hb])|refine ae.aF (by decide +kernel) rfl fun K hK =>?_|refine .lead _ (hF) ?_|(refine .ay [0,1,4,5,6,7,8,9,10,11,12,13,14,39,47] hK ?_;clear hK K)|(with_reducible refine .done (hK _ ?_);clear hK K)|refine ae.of rfl ?_|(with_reducible refine aB.aE (fun h =>?_) (fun h =>?_) <;>try simp only[h])) <;>try simp only[aG,R,simprocAttr])
    all_goals clear R
    refine ⟨(i+1,xs++[s]),⟨by simp only;omega,fun j hj =>?_,hst.symm⟩,by simp only;omega,?_⟩
    ·by_cases e:j=i
     ·rw[e];exact hgi
     ·exact hg j (by simp only at hj;omega)
    ·simp only;clear hxs hst;refine bx.df ?_ ?_ ?_ ?_ <;>simp[*,cw,cY,cH,cJ,aw,cq,dx,I.only,I.ct,aq.only,fu,lZ,cA]
   ·have hz:decide ((i:Int)>0)=true:=by simp;omega
    have hw1:IntKind.i64.wrap ((i:Int)-1)=((i-1:Nat):Int):=by rw[hZ _ (by omega) (by omega)];omega
    have he1:∀ A,jP A 3 ((i-1:Nat):Int) (enc l)=some (.ref (enc (hX l (i-1)))):=fun A=>by
     have hlt1:i-1<l.length:=by omega
     have:=fb (A:=A) 3 hlt1 rfl;rw[wW hlt1] at this;exact this
    rcases q:decide ((hX l (i-1)).ar≥(hX l i).ar)
    ·have hgi:iD l i=true:=by
      have:(hX l (i-1)).ar<(hX l i).ar:=by have:=of_decide_eq_false q;omega
      simp[iD,ho,this]
     have R:=y6 @hc (y6 @he (y6 @hz (y6 @hw1 (y6 @he1 (y6 @q (y6 @hw (y6 @hbs (y6 @hap (y6 @cn (y6 @eF (y6 @bo (y6 @bZ (y6 @bC (y6 @bA aC))))))))))))))
     repeat' ((first |(with_reducible refine .guard (fun hb =>?_) (fun hb =>?_) <;>try simp only[hb])|refine ae.aF (by decide +kernel) rfl fun K hK =>?_|refine .lead _ (hF) ?_|(refine .ay [0,1,4,5,6,7,8,9,10,11,12,13,14,39,47] hK ?_;clear hK K)|(with_reducible refine .done (hK _ ?_);clear hK K)|refine ae.of rfl ?_|(with_reducible refine aB.aE (fun h =>?_) (fun h =>?_) <;>try simp only[h])) <;>try simp only[aG,R,simprocAttr])
     all_goals clear R
     refine ⟨(i+1,xs++[s]),⟨by simp only;omega,fun j hj =>?_,hst.symm⟩,by simp only;omega,?_⟩
     ·by_cases e:j=i
      ·rw[e];exact hgi
      ·exact hg j (by simp only at hj;omega)
     ·simp only;clear hxs hst;refine bx.df ?_ ?_ ?_ ?_ <;>simp[*,cw,cY,cH,cJ,aw,cq,dx,I.only,I.ct,aq.only,fu,lZ,cA]
    ·have hgi:iD l i=false:=by
      have:¬ (hX l (i-1)).ar<(hX l i).ar:=by have:=of_decide_eq_true q;omega
      simp[iD,this,aY]
     rw[hbad hgi];have R:=y6 @hc (y6 @he (y6 @hz (y6 @hw1 (y6 @he1 (y6 @q (y6 @hw (y6 @hbs (y6 @hap (y6 @cn (y6 @eF (y6 @bo (y6 @bZ (y6 @bC (y6 @bA aC))))))))))))))
     repeat' ((first |(with_reducible refine .guard (fun hb =>?_) (fun hb =>?_) <;>try simp only[hb])|refine ae.aF (by decide +kernel) rfl fun K hK =>?_|refine .lead _ (hF) ?_|(refine .ay [0,1,4,5,6,7,8,9,10,11,12,13,14,39,47] hK ?_;clear hK K)|(with_reducible refine .done (hK _ ?_);clear hK K)|refine ae.of rfl ?_|(with_reducible refine aB.aE (fun h =>?_) (fun h =>?_) <;>try simp only[h])) <;>try simp only[aG,R,simprocAttr])
     all_goals clear R
     rfl
 ·have hge:i=l.length:=by omega
  have hc:=gL hlt;have hx2:xs=nr l:=by rw[hxs,hge,zw1]
  have hgood:sf l=true:=zy1.2 fun j hj=>hg j (by have:=zw0.1 hj;omega);have hB:=pV b;simp only[j8,hgood,if_true,←hx2];rw[hge];rw[hge] at hc;rcases q:c4 1 9999 b
  ·rw[q] at hB;have R:=y6 @hc (y6 @AX (y6 @cn (y6 @bo (y6 @bZ (y6 @bC (y6 @bA aC))))))
   repeat' ((first |(with_reducible refine .guard (fun hb =>?_) (fun hb =>?_) <;>try simp only[hb])|refine ae.aF (by decide +kernel) rfl fun K hK =>?_|refine .flat _ (hB) rfl ?_|(refine .ay [0,1,4,5,6,7,8,9,10,11,12,13,14,39,47] hK ?_;clear hK K)|(with_reducible refine .done (hK _ ?_);clear hK K)|refine ae.of rfl ?_|(with_reducible refine aB.aE (fun h =>?_) (fun h =>?_) <;>try simp only[h])) <;>try simp only[aG,R,simprocAttr])
   all_goals clear R
   rfl
  ·rw[q] at hB;have R:=y6 @hc (y6 @AX (y6 @cn (y6 @bo (y6 @bZ (y6 @bC (y6 @bA aC))))))
   repeat' ((first |(with_reducible refine .guard (fun hb =>?_) (fun hb =>?_) <;>try simp only[hb])|refine ae.aF (by decide +kernel) rfl fun K hK =>?_|refine .flat _ (hB) rfl ?_|(refine .ay [0,1,4,5,6,7,8,9,10,11,12,13,14,39,47] hK ?_;clear hK K)|(with_reducible refine .done (hK _ ?_);clear hK K)|refine ae.of rfl ?_|(with_reducible refine aB.aE (fun h =>?_) (fun h =>?_) <;>try simp only[h])) <;>try simp only[aG,R,simprocAttr])
   all_goals clear R
def ue(l:List bu)(b:Int):List Int×Int:=(((j8 l b).1.filter fun s=>decide (b∈s.here)).map (·.ar),(j8 l b).2)
theorem GW(l:List bu)(b:Int):(j8 l b).1.length≤6:=by
 simp only[j8];split
 ·rename_i hg;split
  ·have J:=BG (l:=l) (n:=l.length) fun j hj=>zy1.1 hg j (zw0.2 hj);exact zw3 (Fe l) J
  ·simp
 ·simp
def pP(all:List aD)(b:Int):List Int:=(all.filter fun s=>decide (b∈s.here)).map (·.ar)
theorem ZL(all:List aD)(b:Int){i:Nat}(h:i<all.length):pP (all.take (i+1)) b=pP (all.take i) b++if b∈all[i].here then [all[i].ar] else []:=by
 rw[zz3 h];simp only[pP,List.filter_append,zz2,List.filter_cons,List.filter_nil,decide_eq_true_eq]
 congr 1
 split <;>rfl
def ux(all:List aD)(e b:Int)(t:Nat×List Int):ai :=
 av [(1,.int .i64 b),(7,.int .i64 e),(8,.own 905 t.2.length),(17,enc all),(18,.int .i64 all.length),(19,.int .i64 t.1)] [(905,.bU 3 1 (t.2.map enc))]
theorem AV{xs:List Int} : ke xs.length (some (.bU 3 1 (xs.map enc)))=some (enc xs):=oZ 1 rfl rfl
theorem F5(l:List bu)(b:Int):bd Tryz.prog 37 [enc l,enc b] (.tuple [enc (ue l b).1,enc (ue l b).2]):=by
 refine bd.b6 Tryz.func37 Is Jx KP (u8 rfl) (fun hwf W0 bG E1 =>?_);simp only[zc,DN,bH,Z1];clear hwf;have hF:=Gz l b;have hal:=GW l b;simp only[ue];generalize (j8 l b).1=all at *;generalize (j8 l b).2=e at *;have R:=y6 @cn (y6 @bo (y6 @bZ (y6 @bC (y6 @bA aC))))
 repeat' ((first |refine ae.aF (by decide +kernel) rfl fun K hK =>?_|refine .lead _ (hF) ?_|(refine .ay [0,1,4,5,6,7,8,10,17,18,19,20,28] hK ?_;clear hK K)|(with_reducible refine .done (hK _ ?_);clear hK K)|refine ae.of rfl ?_|(with_reducible refine aB.aE (fun h =>?_) (fun h =>?_) <;>try simp only[h])) <;>try simp only[aG,R,simprocAttr])
 all_goals clear R
 refine ae.loop (ux all e b) (fun t=>t.1≤all.length∧t.2=pP (all.take t.1) b) (fun t=>all.length-t.1) (0,[]) ⟨zy9 _,rfl⟩ ?_ ?_
 ·refine bx.pX 8 905 3 1 1 rfl rfl ?_;simp only[ux];refine bx.df ?_ ?_ ?_ ?_ <;>simp[cw,cY,cH,cJ,aw,cq,dx,I.only,I.ct,aq.only,cA]
  all_goals rfl
 rintro ⟨i,xs⟩ ⟨hi,hxs⟩;simp only at hi hxs;have hxl:xs.length≤i:=by
  rw[hxs,pP,Z9];refine zw3 (List.length_filter_le _ _) ?_;rw[zy4];omega
 simp only[ux];by_cases hlt:i<all.length
 ·have hc:=gx hlt;have he:=fun A=>fb (A:=A) 1 hlt rfl;have hw:=gq (i:=i) (by omega);have hsn:=ZL all b hlt;rw[←hxs] at hsn;obtain ⟨s,ab⟩:∃ s,s=all[i]:=⟨_,rfl⟩
  rw[←ab] at he hsn;simp only[Mq] at he;have hlk:=gn eS b s.here;rw[eH] at hlk;have hbs:fm 1 (some [.int .i64 s.ar])=some (enc [s.ar]):=iw 1 s.ar rfl;have hap:=fun (A:ai) d rest=>nA (A:=A) (d:=d) 3 1 8 905 (l:=xs.length) (es:=xs) (ys:=[s.ar]) (rest:=rest) rfl rfl (by simp) (by simp[maxLen];omega) (by simp;omega);rcases q:decide (b∈s.here)
  ·have bK:b∉s.here:=of_decide_eq_false q;rw[if_neg bK,zx0] at hsn;have R:=y6 @hc (y6 @he (y6 @hw (y6 @hlk (y6 @q (y6 @eF (y6 @cn (y6 @bo (y6 @bZ (y6 @bC (y6 @bA aC))))))))))
   repeat' ((first |refine ae.aF (by decide +kernel) rfl fun K hK =>?_|(refine .ay [0,1,4,5,6,7,8,10,17,18,19,20,28] hK ?_;clear hK K)|(with_reducible refine .done (hK _ ?_);clear hK K)|refine ae.of rfl ?_|(with_reducible refine aB.aE (fun h =>?_) (fun h =>?_) <;>try simp only[h])) <;>try simp only[aG,R,simprocAttr])
   all_goals clear R
   refine ⟨(i+1,xs),⟨by simp only;omega,hsn.symm⟩,by simp only;omega,?_⟩;simp only;clear hxs hsn;refine bx.df ?_ ?_ ?_ ?_ <;>simp[cw,cY,cH,cJ,aw,cq,dx,I.only,aq.only,fu,cA]
  ·have bK:b∈s.here:=of_decide_eq_true q;rw[if_pos bK] at hsn;have R:=y6 @hc (y6 @he (y6 @hw (y6 @hlk (y6 @q (y6 @hbs (y6 @hap (y6 @eF (y6 @cn (y6 @bo (y6 @bZ (y6 @bC (y6 @bA aC))))))))))))
   repeat' ((first |refine ae.aF (by decide +kernel) rfl fun K hK =>?_|(refine .ay [0,1,4,5,6,7,8,10,17,18,19,20,28] hK ?_;clear hK K)|(with_reducible refine .done (hK _ ?_);clear hK K)|refine ae.of rfl ?_|(with_reducible refine aB.aE (fun h =>?_) (fun h =>?_) <;>try simp only[h])) <;>try simp only[aG,R,simprocAttr])
   all_goals clear R
   refine ⟨(i+1,xs++[s.ar]),⟨by simp only;omega,hsn.symm⟩,by simp only;omega,?_⟩;simp only;clear hxs hsn;refine bx.df ?_ ?_ ?_ ?_ <;>simp[cw,cY,cH,cJ,aw,cq,dx,I.only,I.ct,aq.only,fu,lZ,cA,eH]
 ·have hge:i=all.length:=by omega
  have hc:=gL hlt;have hx2:xs=pP all b:=by rw[hxs,hge,zw1]
  rw[show ((all.filter fun s=>decide (b∈s.here)).map (·.ar))=xs from hx2.symm];have R:=y6 @hc (y6 @AV (y6 @cn (y6 @bo (y6 @bZ (y6 @bC (y6 @bA aC))))))
  repeat' ((first |refine ae.aF (by decide +kernel) rfl fun K hK =>?_|(refine .ay [0,1,4,5,6,7,8,10,17,18,19,20,28] hK ?_;clear hK K)|(with_reducible refine .done (hK _ ?_);clear hK K)|refine ae.of rfl ?_|(with_reducible refine aB.aE (fun h =>?_) (fun h =>?_) <;>try simp only[h])) <;>try simp only[aG,R,simprocAttr])
  all_goals clear R
structure fW where
 kind:Int
 cQ:Int
 no:Int
 aK:Int
 deriving DecidableEq,Inhabited
instance:Enc fW where
 enc g:=.agg [.int .i64 g.kind,.int .i64 g.cQ,.int .i64 g.no,.int .i64 g.aK]
 sz:=4
 aX:=.eJ [.one,.one,.one,.one]
 gN:=true
 done g:=by simp only[I.done,I.h2,Bool.and_self]
 size g:=by simp only[I.size,I.sizes]
 iQ g:=by simp only[I.aX,I.cV]
 agg _:=rfl
structure b8 where
 ar:Int
 here:List Int
 dG:Int
 bp:List dc
 bj:List fW
 deriving Inhabited
def gE(a:Int)(h:I)(s:Int)(r e:I):I:=.agg [.int .i64 a,h,.int .i64 s,r,e]
instance:Enc b8 where
 enc g:=gE g.ar (enc g.here) g.dG (enc g.bp) (enc g.bj)
 sz:=5
 aX:=.eJ [.one,.one,.one,.one,.one]
 gN:=true
 done g:=by simp only[gE,I.done,I.h2,Enc.done,Bool.and_self]
 size g:=by simp only[gE,I.size,I.sizes,kU,kd]
 iQ g:=by simp only[gE,I.aX,I.cV,eI,mG]
 agg _:=rfl
theorem cu:(∀ g:b8,(enc g).dR=some [.int .i64 g.ar,enc g.here,.int .i64 g.dG,enc g.bp,enc g.bj])∧(∀ a h s r e,(gE a h s r e).dR=some [.int .i64 a,h,.int .i64 s,r,e])∧(∀ g:fW,(enc g).dR=some [.int .i64 g.kind,.int .i64 g.cQ,.int .i64 g.no,.int .i64 g.aK]) ∧
  (∀ g:b8,bY (some 5) (enc g)=true)∧(∀ g:fW,bY (some 4) (enc g)=true)∧(∀ g:List Int,bY none (enc g)=true)∧(∀ g:List dc,bY none (enc g)=true)∧(∀ g:List fW,bY none (enc g)=true) ∧
  (∀ (a b:Int) (h:List Int) (r:List dc) (e:List fW) v,dD [.int .i64 a,enc h,.int .i64 b,enc r,enc e] 0 0 v=some v)∧(∀ (a b:Int) (h:List Int) (r:List dc) (e:List fW) v,dD [.int .i64 a,enc h,.int .i64 b,enc r,enc e] 1 1 v=some v)∧(∀ (a b:Int) (h:List Int) (r:List dc) (e:List fW) v,dD [.int .i64 a,enc h,.int .i64 b,enc r,enc e] 2 2 v=some v) ∧
  (∀ (a b:Int) (h:List Int) (r:List dc) (e:List fW) v,dD [.int .i64 a,enc h,.int .i64 b,enc r,enc e] 3 3 v=some v)∧(∀ (a b:Int) (h:List Int) (r:List dc) (e:List fW) v,dD [.int .i64 a,enc h,.int .i64 b,enc r,enc e] 4 4 v=some v) ∧
  (∀ A n b rest (q:b8) x y,db A (some 5) n [] b (enc q) rest (some (.agg [.int .i64 x,.nils 1,.int .i64 y,.nils 4,.nils 4]))=az rest (A.aS n (.box (enc q))))∧(∀ A n b rest (q r:b8),db A (some 5) n [] b (enc q) rest (some (enc r))=az rest (A.aS n (.box (enc q)))) ∧
  (∀ A n b rest (q:dc) x y z w,db A (some 4) n [] b (enc q) rest (some (.agg [.int .i64 x,.int .i64 y,.int .i64 z,.bool w]))=az rest (A.aS n (.box (enc q))))∧(∀ A n b rest (q:fW) x y z w,db A (some 4) n [] b (enc q) rest (some (.agg [.int .i64 x,.int .i64 y,.int .i64 z,.int .i64 w]))=az rest (A.aS n (.box (enc q)))) ∧
  (∀ (A:ai) n (q:b8) (l k:List Int) rest,db A none n [1] (enc q) (enc l) rest (some (enc k))=az rest (A.aS n (.box (enc ({ q with here:=l } : b8)))))∧(∀ (A:ai) n (q:b8) (v u:Int) rest,db A none n [2] (enc q) (.int .i64 v) rest (some (.int .i64 u))=az rest (A.aS n (.box (enc ({ q with dG:=v } : b8))))) :=
 ⟨fun _=>rfl,fun _ _ _ _ _=>rfl,fun _=>rfl,fun _=>by rw[fh];rfl,fun _=>by rw[fh];rfl,fun _=>by simp[kS,kR],fun _=>by simp[kS,kR],fun _=>by simp[kS,kR],
  fun _ _ _ _ _ _=>jy (by simp) rfl,fun _ _ _ _ _ _=>jy (by simp) rfl,fun _ _ _ _ _ _=>jy (by simp) (by simp[I.sizes,I.size,kU,kd]),fun _ _ _ _ _ _=>jy (by simp) (by simp[I.sizes,I.size,kU,kd]),fun _ _ _ _ _ _=>jy (by simp) (by simp[I.sizes,I.size,kU,kd]),
  fun A n b rest q x y=>dE (eh _) (by rw[fh];rfl) (eI _),fun A n b rest q r=>dE (eh _) (by rw[fh];rfl) ((eI _).trans (eI _).symm),fun A n b rest q x y z w=>dE (eh _) (by rw[fh];rfl) (eI _),fun A n b rest q x y z w=>dE (eh _) (by rw[fh];rfl) (eI _),
  fun A n q l k rest=>dE (eh _) (by simp[kS,kR]) rfl,fun A n q v u rest=>dE rfl rfl rfl⟩
theorem Gv(l:List Int)(n:Int):bd Tryz.prog 78 [enc l,enc n] (enc (decide (n∈l))):=by
 refine bd.b6 Tryz.func78 IP JS La (u8 rfl) (fun hwf W0 bG E1 =>?_);simp only[zA,Ec,bH,Z1];have hlen:l.length≤maxLen:=((nt l).1 hwf.1).1;simp only[maxLen] at hlen;clear hwf;have R:=y6 @bo aC
 repeat' ((first |refine ae.aF (by decide +kernel) rfl fun K hK =>?_|(refine .ay [0,1,4,6,7,8,9,10,15] hK ?_;clear hK K)|(with_reducible refine .done (hK _ ?_);clear hK K)|refine ae.of rfl ?_|(with_reducible refine aB.aE (fun h =>?_) (fun h =>?_) <;>try simp only[h])) <;>try simp only[aG,R,simprocAttr])
 all_goals clear R
 refine ae.loop (fun i:Nat=>av [(1,.int .i64 n),(7,enc l),(8,.int .i64 l.length),(9,.int .i64 i)] []) (fun i=>i≤l.length∧n∉l.take i) (fun i=>l.length-i) 0 ⟨zy9 _,by simp⟩ ?_ (fun i hi =>?_)
 ·refine bx.df ?_ ?_ ?_ ?_ <;>simp[cw,cY,cH,cJ,cq,I.only,cA]
 obtain ⟨hi1,hi2⟩:=hi;by_cases hlt:i<l.length
 ·have hc:=gx hlt;have he:=fun A=>fb (A:=A) 1 hlt rfl;have hw:=gq (i:=i) (by omega);rcases hp:(l[i]==n)
  ·have R:=y6 @hc (y6 @he (y6 @hp (y6 @hw aC)))
   repeat' ((first |refine ae.aF (by decide +kernel) rfl fun K hK =>?_|(refine .ay [0,1,4,6,7,8,9,10,15] hK ?_;clear hK K)|(with_reducible refine .done (hK _ ?_);clear hK K)|refine ae.of rfl ?_|(with_reducible refine aB.aE (fun h =>?_) (fun h =>?_) <;>try simp only[h])) <;>try simp only[aG,R,simprocAttr])
   all_goals clear R
   refine ⟨i+1,⟨by omega,?_⟩,by omega,?_⟩
   ·rw[zz3 hlt];have:¬ l[i]=n:=by simpa using hp
    simp only[zy7,zy3];exact fun h=>h.elim hi2 fun e=>this e.symm
   ·refine bx.df ?_ ?_ ?_ ?_ <;>simp[cw,cY,cH,cJ,cq,I.only,cA]
  ·have hm:n∈l:=by
    have:l[i]=n:=by simpa using hp
    rw[←this];exact List.getElem_mem hlt
   have R:=y6 @hc (y6 @he (y6 @hp aC))
   repeat' ((first |refine ae.aF (by decide +kernel) rfl fun K hK =>?_|(refine .ay [0,1,4,6,7,8,9,10,15] hK ?_;clear hK K)|(with_reducible refine .done (hK _ ?_);clear hK K)|refine ae.of rfl ?_|(with_reducible refine aB.aE (fun h =>?_) (fun h =>?_) <;>try simp only[h])) <;>try simp only[aG,R,simprocAttr])
   all_goals clear R
   simp[hm]
 ·have hc:=gL hlt;have hge:i=l.length:=by omega
  have R:=y6 @hc aC
  repeat' ((first |refine ae.aF (by decide +kernel) rfl fun K hK =>?_|(refine .ay [0,1,4,6,7,8,9,10,15] hK ?_;clear hK K)|(with_reducible refine .done (hK _ ?_);clear hK K)|refine ae.of rfl ?_|(with_reducible refine aB.aE (fun h =>?_) (fun h =>?_) <;>try simp only[h])) <;>try simp only[aG,R,simprocAttr])
  all_goals clear R
  rw[hge,zw1] at hi2;simp[hi2]
def iu(s:b8)(b:Int):Bool:=s.bp.any fun r=>decide (r.aK=b)
theorem uk(s:b8)(b:Int)(hlen:s.bp.length≤1000):bd Tryz.prog 108 [enc s,enc b] (enc (iu s b)):=by
 refine bd.b6 Tryz.func108 H2 I9 Kh (u8 rfl) (fun hwf W0 bG E1 =>?_);simp only[yJ,Dd,bH,Z1];clear hwf;have R:=y6 @cu (y6 @bo aC)
 repeat' ((first |refine ae.aF (by decide +kernel) rfl fun K hK =>?_|(refine .ay [0,1,2,4,6,8,9,10,11,17] hK ?_;clear hK K)|(with_reducible refine .done (hK _ ?_);clear hK K)|refine ae.of rfl ?_|(with_reducible refine aB.aE (fun h =>?_) (fun h =>?_) <;>try simp only[h])) <;>try simp only[aG,R,simprocAttr])
 all_goals clear R
 refine ae.loop (fun i:Nat=>av [(1,.int .i64 b),(2,.ptr 2 []),(8,enc s.bp),(9,.int .i64 s.bp.length),(10,.int .i64 i)] [(2,.box (enc s))]) (fun i=>i≤s.bp.length∧((s.bp.take i).any fun r=>decide (r.aK=b))=false) (fun i=>s.bp.length-i) 0 ⟨zy9 _,by simp⟩ ?_ (fun i hi =>?_)
 ·refine bx.df ?_ ?_ ?_ ?_ <;>simp[cw,cY,cH,cJ,aw,cq,dx,I.only,aq.only,cA]
 obtain ⟨hi1,hi2⟩:=hi;by_cases hlt:i<s.bp.length
 ·have hc:=gx hlt;have he:=fun A=>fb (A:=A) 4 hlt rfl;have hw:=gq (i:=i) (by omega);rcases hp:((s.bp[i]).aK==b)
  ·have R:=y6 @hc (y6 @he (y6 @hp (y6 @hw (y6 @cu aC))))
   repeat' ((first |refine ae.aF (by decide +kernel) rfl fun K hK =>?_|(refine .ay [0,1,2,4,6,8,9,10,11,17] hK ?_;clear hK K)|(with_reducible refine .done (hK _ ?_);clear hK K)|refine ae.of rfl ?_|(with_reducible refine aB.aE (fun h =>?_) (fun h =>?_) <;>try simp only[h])) <;>try simp only[aG,R,simprocAttr])
   all_goals clear R
   refine ⟨i+1,⟨by omega,?_⟩,by omega,?_⟩
   ·rw[zz3 hlt,List.any_append,hi2];have:¬ (s.bp[i]).aK=b:=by simpa using hp
    simp[this]
   ·refine bx.df ?_ ?_ ?_ ?_ <;>simp[cw,cY,cH,cJ,aw,cq,dx,I.only,aq.only,cA]
  ·have hm:iu s b=true:=by
    have:(s.bp[i]).aK=b:=by simpa using hp
    simp only[iu,List.any_eq_true];exact ⟨s.bp[i],List.getElem_mem hlt,by simp[this]⟩
   rw[hm];have R:=y6 @hc (y6 @he (y6 @hp (y6 @cu aC)))
   repeat' ((first |refine ae.aF (by decide +kernel) rfl fun K hK =>?_|(refine .ay [0,1,2,4,6,8,9,10,11,17] hK ?_;clear hK K)|(with_reducible refine .done (hK _ ?_);clear hK K)|refine ae.of rfl ?_|(with_reducible refine aB.aE (fun h =>?_) (fun h =>?_) <;>try simp only[h])) <;>try simp only[aG,R,simprocAttr])
   all_goals clear R
 ·have hc:=gL hlt;have hge:i=s.bp.length:=by omega
  rw[hge,zw1] at hi2;rw[show iu s b=false from hi2];have R:=y6 @hc (y6 @cu aC)
  repeat' ((first |refine ae.aF (by decide +kernel) rfl fun K hK =>?_|(refine .ay [0,1,2,4,6,8,9,10,11,17] hK ?_;clear hK K)|(with_reducible refine .done (hK _ ?_);clear hK K)|refine ae.of rfl ?_|(with_reducible refine aB.aE (fun h =>?_) (fun h =>?_) <;>try simp only[h])) <;>try simp only[aG,R,simprocAttr])
  all_goals clear R
def jB(s:b8)(no:Int):Option Nat:=s.bp.findIdx? fun r=>decide (r.no=no)
def kv(s:b8)(no:Int):Int:=match jB s no with
 |some i=>(i:Int)
 |none=>-1
theorem Gw(s:b8)(no:Int)(hlen:s.bp.length≤1000):bd Tryz.prog 79 [enc s,enc no] (enc (kv s no)):=by
 refine bd.b6 Tryz.func79 IQ JT Lb (u8 rfl) (fun hwf W0 bG E1 =>?_);simp only[zB,Ed,bH,Z1];clear hwf;have R:=y6 @cu (y6 @bo aC)
 repeat' ((first |refine ae.aF (by decide +kernel) rfl fun K hK =>?_|(refine .ay [0,1,2,4,5,6,8,9,10,11,18] hK ?_;clear hK K)|(with_reducible refine .done (hK _ ?_);clear hK K)|refine ae.of rfl ?_|(with_reducible refine aB.aE (fun h =>?_) (fun h =>?_) <;>try simp only[h])) <;>try simp only[aG,R,simprocAttr])
 all_goals clear R
 refine ae.loop (fun i:Nat=>av [(1,.int .i64 no),(2,.ptr 2 []),(8,enc s.bp),(9,.int .i64 s.bp.length),(10,.int .i64 i)] [(2,.box (enc s))]) (fun i=>i≤s.bp.length∧∀ k,k<i→∀ h:k<s.bp.length,(s.bp[k]).no≠no) (fun i=>s.bp.length-i) 0 ⟨zy9 _,fun k h=>by omega⟩ ?_ (fun i hi =>?_)
 ·refine bx.df ?_ ?_ ?_ ?_ <;>simp[cw,cY,cH,cJ,aw,cq,dx,I.only,aq.only,cA]
 obtain ⟨hi1,hi2⟩:=hi;by_cases hlt:i<s.bp.length
 ·have hc:=gx hlt;have he:=fun A=>fb (A:=A) 4 hlt rfl;have hw:=gq (i:=i) (by omega);rcases hp:((s.bp[i]).no==no)
  ·have R:=y6 @hc (y6 @he (y6 @hp (y6 @hw (y6 @cu aC))))
   repeat' ((first |refine ae.aF (by decide +kernel) rfl fun K hK =>?_|(refine .ay [0,1,2,4,5,6,8,9,10,11,18] hK ?_;clear hK K)|(with_reducible refine .done (hK _ ?_);clear hK K)|refine ae.of rfl ?_|(with_reducible refine aB.aE (fun h =>?_) (fun h =>?_) <;>try simp only[h])) <;>try simp only[aG,R,simprocAttr])
   all_goals clear R
   refine ⟨i+1,⟨by omega,fun k hk h =>?_⟩,by omega,?_⟩
   ·by_cases e:k=i
    ·subst e;simpa using hp
    ·exact hi2 k (by omega) h
   ·refine bx.df ?_ ?_ ?_ ?_ <;>simp[cw,cY,cH,cJ,aw,cq,dx,I.only,aq.only,cA]
  ·have hm:jB s no=some i:=by
    refine List.findIdx?_eq_some_iff_getElem.2 ⟨hlt,by simpa using hp,fun j hj =>?_⟩;simpa using hi2 j hj (by omega)
   rw[show kv s no=(i:Int) by simp[kv,hm]];have R:=y6 @hc (y6 @he (y6 @hp (y6 @cu aC)))
   repeat' ((first |refine ae.aF (by decide +kernel) rfl fun K hK =>?_|(refine .ay [0,1,2,4,5,6,8,9,10,11,18] hK ?_;clear hK K)|(with_reducible refine .done (hK _ ?_);clear hK K)|refine ae.of rfl ?_|(with_reducible refine aB.aE (fun h =>?_) (fun h =>?_) <;>try simp only[h])) <;>try simp only[aG,R,simprocAttr])
   all_goals clear R
 ·have hc:=gL hlt;have hm:jB s no=none:=by
   refine List.findIdx?_eq_none_iff.2 fun x hx =>?_;obtain ⟨k,hk,rfl⟩:=List.mem_iff_getElem.1 hx;simpa using hi2 k (by omega) hk
  rw[show kv s no=-1 by simp[kv,hm]];have R:=y6 @hc (y6 @cu aC)
  repeat' ((first |refine ae.aF (by decide +kernel) rfl fun K hK =>?_|(refine .ay [0,1,2,4,5,6,8,9,10,11,18] hK ?_;clear hK K)|(with_reducible refine .done (hK _ ?_);clear hK K)|refine ae.of rfl ?_|(with_reducible refine aB.aE (fun h =>?_) (fun h =>?_) <;>try simp only[h])) <;>try simp only[aG,R,simprocAttr])
  all_goals clear R
def je(s:b8)(cQ no:Int):Int:=match s.bj.find? fun x=>decide (x.cQ=cQ∧x.no=no) with
 |some x=>x.kind
 |none=>0
theorem x7(s:b8)(cQ no:Int)(hlen:s.bj.length≤1000):bd Tryz.prog 88 [enc s,enc cQ,enc no] (enc (je s cQ no)):=by
 refine bd.b6 Tryz.func88 IW JX Lg (u8 rfl) (fun hwf W0 bG E1 =>?_);simp only[zF,Ei,bH,Z1,Nat.reduceAdd];clear hwf;have R:=y6 @cu (y6 @bo aC)
 repeat' ((first |(with_reducible refine .guard (fun hb =>?_) (fun hb =>?_) <;>try simp only[hb])|refine ae.aF (by decide +kernel) rfl fun K hK =>?_|(refine .ay [0,1,2,3,6,8,10,11,12,13,25] hK ?_;clear hK K)|(with_reducible refine .done (hK _ ?_);clear hK K)|refine ae.of rfl ?_|(with_reducible refine aB.aE (fun h =>?_) (fun h =>?_) <;>try simp only[h])) <;>try simp only[aG,R,simprocAttr])
 all_goals clear R
 refine ae.loop (fun i:Nat=>av [(1,.int .i64 cQ),(2,.int .i64 no),(3,.ptr 3 []),(10,enc s.bj),(11,.int .i64 s.bj.length),(12,.int .i64 i)] [(3,.box (enc s))]) (fun i=>i≤s.bj.length∧((s.bj.take i).find? fun x=>decide (x.cQ=cQ∧x.no=no))=none) (fun i=>s.bj.length-i) 0 ⟨zy9 _,by simp⟩ ?_ (fun i hi =>?_)
 ·refine bx.df ?_ ?_ ?_ ?_ <;>simp[cw,cY,cH,cJ,aw,cq,dx,I.only,aq.only,cA]
 obtain ⟨hi1,hi2⟩:=hi;by_cases hlt:i<s.bj.length
 ·have hc:=gx hlt;have he:=fun A=>fb (A:=A) 4 hlt rfl;have hw:=gq (i:=i) (by omega);have hst:(s.bj.take (i+1)).find? (fun x=>decide (x.cQ=cQ∧x.no=no))=if (s.bj[i]).cQ=cQ∧(s.bj[i]).no=no then some s.bj[i] else none:=by
   rw[zz3 hlt,List.find?_append,hi2];simp only[Option.none_or,List.find?_cons,List.find?_nil];by_cases h:(s.bj[i]).cQ=cQ∧(s.bj[i]).no=no
   ·simp[h]
   ·rw[decide_eq_false h,if_neg h]
  rcases hp:((s.bj[i]).cQ==cQ)
  ·have J:¬ (s.bj[i]).cQ=cQ:=by simpa using hp
   rw[if_neg (fun h=>J h.1)] at hst;have R:=y6 @hc (y6 @he (y6 @hp (y6 @hw (y6 @cu aC))))
   repeat' ((first |(with_reducible refine .guard (fun hb =>?_) (fun hb =>?_) <;>try simp only[hb])|refine ae.aF (by decide +kernel) rfl fun K hK =>?_|(refine .ay [0,1,2,3,6,8,10,11,12,13,25] hK ?_;clear hK K)|(with_reducible refine .done (hK _ ?_);clear hK K)|refine ae.of rfl ?_|(with_reducible refine aB.aE (fun h =>?_) (fun h =>?_) <;>try simp only[h])) <;>try simp only[aG,R,simprocAttr])
   all_goals clear R
   refine ⟨i+1,⟨by omega,hst⟩,by omega,?_⟩;refine bx.df ?_ ?_ ?_ ?_ <;>simp[cw,cY,cH,cJ,aw,cq,dx,I.only,aq.only,cA]
  ·have J:(s.bj[i]).cQ=cQ:=by simpa using hp
   rcases hp2:((s.bj[i]).no==no)
   ·have U:¬ (s.bj[i]).no=no:=by simpa using hp2
    rw[if_neg (fun h=>U h.2)] at hst;have R:=y6 @hc (y6 @he (y6 @hp (y6 @hp2 (y6 @hw (y6 @cu aC)))))
    repeat' ((first |(with_reducible refine .guard (fun hb =>?_) (fun hb =>?_) <;>try simp only[hb])|refine ae.aF (by decide +kernel) rfl fun K hK =>?_|(refine .ay [0,1,2,3,6,8,10,11,12,13,25] hK ?_;clear hK K)|(with_reducible refine .done (hK _ ?_);clear hK K)|refine ae.of rfl ?_|(with_reducible refine aB.aE (fun h =>?_) (fun h =>?_) <;>try simp only[h])) <;>try simp only[aG,R,simprocAttr])
    all_goals clear R
    refine ⟨i+1,⟨by omega,hst⟩,by omega,?_⟩;refine bx.df ?_ ?_ ?_ ?_ <;>simp[cw,cY,cH,cJ,aw,cq,dx,I.only,aq.only,cA]
   ·have U:(s.bj[i]).no=no:=by simpa using hp2
    rw[if_pos ⟨J,U⟩] at hst;have hk:je s cQ no=(s.bj[i]).kind:=by
     have:s.bj.find? (fun x=>decide (x.cQ=cQ∧x.no=no))=some s.bj[i]:=by
      have e:=congrArg (List.find? fun x=>decide (x.cQ=cQ∧x.no=no)) (List.take_append_drop (i+1) s.bj);rw[List.find?_append,hst,Option.some_or] at e;exact e.symm
     simp only[je,this]
    rw[hk];have R:=y6 @hc (y6 @he (y6 @hp (y6 @hp2 (y6 @cu aC))))
    repeat' ((first |(with_reducible refine .guard (fun hb =>?_) (fun hb =>?_) <;>try simp only[hb])|refine ae.aF (by decide +kernel) rfl fun K hK =>?_|(refine .ay [0,1,2,3,6,8,10,11,12,13,25] hK ?_;clear hK K)|(with_reducible refine .done (hK _ ?_);clear hK K)|refine ae.of rfl ?_|(with_reducible refine aB.aE (fun h =>?_) (fun h =>?_) <;>try simp only[h])) <;>try simp only[aG,R,simprocAttr])
    all_goals clear R
 ·have hc:=gL hlt;have hge:i=s.bj.length:=by omega
  rw[hge,zw1] at hi2;rw[show je s cQ no=0 by simp only[je,hi2]];have R:=y6 @hc (y6 @cu aC)
  repeat' ((first |(with_reducible refine .guard (fun hb =>?_) (fun hb =>?_) <;>try simp only[hb])|refine ae.aF (by decide +kernel) rfl fun K hK =>?_|(refine .ay [0,1,2,3,6,8,10,11,12,13,25] hK ?_;clear hK K)|(with_reducible refine .done (hK _ ?_);clear hK K)|refine ae.of rfl ?_|(with_reducible refine aB.aE (fun h =>?_) (fun h =>?_) <;>try simp only[h])) <;>try simp only[aG,R,simprocAttr])
  all_goals clear R
def gZ(l:List Int)(n:Int):List Int:=l.filter fun x=>x != n
def uw(l:List Int)(n:Int)(t:Nat×List Int):ai:=av [(1,.int .i64 n),(5,.own 905 t.2.length),(8,enc l),(9,.int .i64 l.length),(10,.int .i64 t.1)] [(905,.bU 3 1 (t.2.map enc))]
theorem xT(l:List Int)(n:Int)(hlen:l.length≤1000):bd Tryz.prog 110 [enc l,enc n] (enc (gZ l n)):=by
 refine bd.b6 Tryz.func110 H5 Jc Kk (u8 rfl) (fun hwf W0 bG E1 =>?_);simp only[yM,Dg,bH,Z1];clear hwf;have R:=y6 @bo aC
 repeat' ((first |refine ae.aF (by decide +kernel) rfl fun K hK =>?_|(refine .ay [0,1,4,5,7,8,9,10,11,16] hK ?_;clear hK K)|(with_reducible refine .done (hK _ ?_);clear hK K)|refine ae.of rfl ?_|(with_reducible refine aB.aE (fun h =>?_) (fun h =>?_) <;>try simp only[h])) <;>try simp only[aG,R,simprocAttr])
 all_goals clear R
 refine ae.loop (uw l n) (fun t=>t.1≤l.length∧t.2=gZ (l.take t.1) n) (fun t=>l.length-t.1) (0,[]) ⟨zy9 _,rfl⟩ ?_ ?_
 ·refine bx.pX 5 905 3 1 1 rfl rfl ?_;simp only[uw];refine bx.df ?_ ?_ ?_ ?_ <;>simp[cw,cY,cH,cJ,aw,cq,dx,I.only,I.ct,aq.only,cA]
 rintro ⟨i,xs⟩ ⟨hi,hxs⟩;simp only at hi hxs;have hxl:xs.length≤i:=by
  rw[hxs,gZ];refine zw3 (List.length_filter_le _ _) ?_;rw[zy4];omega
 simp only[uw];by_cases hlt:i<l.length
 ·have hc:=gx hlt;have he:=fun A=>fb (A:=A) 1 hlt rfl;have hw:=gq (i:=i) (by omega);have hsn:gZ (l.take (i+1)) n=xs++if l[i] != n then [l[i]] else []:=by
   rw[zz3 hlt,gZ,List.filter_append,hxs];simp only[gZ,List.filter_cons,List.filter_nil]
  obtain ⟨y,hy⟩:∃ y,y=l[i]:=⟨_,rfl⟩
  rw[←hy] at he hsn;have hbs:fm 1 (some [.int .i64 y])=some (enc [y]):=iw 1 y rfl;have hap:=fun (A:ai) d rest=>nA (A:=A) (d:=d) 3 1 8 905 (l:=xs.length) (es:=xs) (ys:=[y]) (rest:=rest) rfl rfl (by simp) (by simp[maxLen];omega) (by simp;omega);rcases q:(y != n)
  ·rw[q,if_neg (by decide),zx0] at hsn;have R:=y6 @hc (y6 @he (y6 @hw (y6 @q (y6 @bo aC))))
   repeat' ((first |refine ae.aF (by decide +kernel) rfl fun K hK =>?_|(refine .ay [0,1,4,5,7,8,9,10,11,16] hK ?_;clear hK K)|(with_reducible refine .done (hK _ ?_);clear hK K)|refine ae.of rfl ?_|(with_reducible refine aB.aE (fun h =>?_) (fun h =>?_) <;>try simp only[h])) <;>try simp only[aG,R,simprocAttr])
   all_goals clear R
   refine ⟨(i+1,xs),⟨by simp only;omega,hsn.symm⟩,by simp only;omega,?_⟩;simp only;clear hxs hsn;refine bx.df ?_ ?_ ?_ ?_ <;>simp[cw,cY,cH,cJ,aw,cq,dx,I.only,aq.only,fu,cA]
  ·rw[q,if_pos rfl] at hsn;have R:=y6 @hc (y6 @he (y6 @hw (y6 @q (y6 @hbs (y6 @hap (y6 @bo aC))))))
   repeat' ((first |refine ae.aF (by decide +kernel) rfl fun K hK =>?_|(refine .ay [0,1,4,5,7,8,9,10,11,16] hK ?_;clear hK K)|(with_reducible refine .done (hK _ ?_);clear hK K)|refine ae.of rfl ?_|(with_reducible refine aB.aE (fun h =>?_) (fun h =>?_) <;>try simp only[h])) <;>try simp only[aG,R,simprocAttr])
   all_goals clear R
   refine ⟨(i+1,xs++[y]),⟨by simp only;omega,hsn.symm⟩,by simp only;omega,?_⟩;simp only;clear hxs hsn;refine bx.df ?_ ?_ ?_ ?_ <;>simp[cw,cY,cH,cJ,aw,cq,dx,I.only,I.ct,aq.only,fu,lZ,cA,eH]
 ·have hge:i=l.length:=by omega
  have hc:=gL hlt;have hx2:xs=gZ l n:=by rw[hxs,hge,zw1]
  rw[←hx2];have R:=y6 @hc (y6 @AV (y6 @bo aC))
  repeat' ((first |refine ae.aF (by decide +kernel) rfl fun K hK =>?_|(refine .ay [0,1,4,5,7,8,9,10,11,16] hK ?_;clear hK K)|(with_reducible refine .done (hK _ ?_);clear hK K)|refine ae.of rfl ?_|(with_reducible refine aB.aE (fun h =>?_) (fun h =>?_) <;>try simp only[h])) <;>try simp only[aG,R,simprocAttr])
  all_goals clear R
section
variable {α:Type} [Enc α] {P:Program} {ab:List FuncId} {Y:Value→List I→List (Nat×aq)→cG→Prop} {K:ai→Prop} {rest:List aH} {d e esz bytes:Nat}
def kF(esz:Nat)(v:I)(os:List (Nat×aq))(l:List α)(S:List Nat):Prop:=(l=[]∧v=.c0 esz)∨∃ n q,n∈S∧v=.view n [] esz 0 l.length∧aj os n=some (.box (.agg ((l++q).map enc)))
theorem Hb{A:ai}{q:Nat}(z:I){l:List α}(hsz:Enc.sz α=esz)(ao:l≠[])(hf:A.o d=none)(hb:l.length*bytes≤140737488355328)(hml:l.length≤maxLen) :
  ∃ p:Nat→Prop,fJ A (some d) e esz bytes z (enc l) rest (.c0 q)=.any p fun m=>az rest ((A.aS d (.box (.agg (l.map enc++List.replicate m z)))).aT (some d) (.view d [] esz 0 l.length)):=by
 have hne:l.map (enc (α:=α))≠[]:=by simpa using ao
 have J:eK A esz (.c0 q)=some []:=rfl;refine ⟨fun m=>l.length+m≤maxLen,?_⟩;simp only[fJ,J,np A esz l hsz,e7,if_neg hne,fX,hf,List.length_nil,Z1,Z9,if_pos (y6 hb hml),zx6]
theorem Ha{A:ai}(z:I)(hsz:Enc.sz α=esz){n l:Nat}{xs ys:List α}(hy:ys≠[])(ho:A.o n=some (.box (.agg (xs.map enc))))(ao:l≤xs.length)(hr:xs.length<l+ys.length)(hf:A.o d=none)(hb:(l+ys.length)*bytes≤140737488355328)(hml:l+ys.length≤maxLen) :
  ∃ p:Nat→Prop,fJ A (some d) e esz bytes z (enc ys) rest (.view n [] esz 0 l)=.any p fun m=>az rest ((A.aS d (.box (.agg ((xs.take l).map enc++(ys.map enc++List.replicate m z))))).aT (some d) (.view d [] esz 0 (l+ys.length))):=by
 have J:=tR (A:=A) (esz:=esz) (lo:=0) (k:=l) ho (by omega);have U:(I.agg (xs.map (enc (α:=α)))).at []=some (.agg (xs.map enc)):=rfl;have au:(xs.take l).length=l:=by rw[zy4];omega
 refine ⟨fun m=>l+ys.length+m≤maxLen,?_⟩;simp only[fJ,J,List.drop_zero,np A esz ys hsz,e7];rw[if_neg (by simpa using hy)];simp only[ho,U,Z9,Z1];rw[if_neg (by omega)];simp only[fX,hf,Z9,au];rw[if_pos ⟨hb,hml⟩]
theorem BH(z:α){ts:List (Nat×I)}{os:List (Nat×aq)}{v:I}{l ys:List α}{S:List Nat}(hsz:Enc.sz α=esz)(hg:kF esz v os l S)(hf:aj os d=none)(hb:(l.length+ys.length)*bytes≤140737488355328)(hml:l.length+ys.length≤maxLen) :
  (∃ v' os',fJ (av ts os) (some d) e esz bytes (enc z) (enc ys) rest v=az rest (av ((d,v')::ts) os')∧kF esz v' os' (l++ys) (d::S)∧∀ m,m∉d::S→aj os' m=aj os m) ∨
  (∃ p,∃ v':Nat→I,∃ os':Nat→List (Nat×aq),fJ (av ts os) (some d) e esz bytes (enc z) (enc ys) rest v=.any p (fun m=>az rest (av ((d,v' m)::ts) (os' m)))∧∀ k,kF esz (v' k) (os' k) (l++ys) (d::S)∧∀ m,m∉d::S→aj (os' k) m=aj os m):=by
 by_cases hy:ys=[]
 ·subst hy;rw[zx0];rcases hg with ⟨rfl,rfl⟩ | ⟨n,q,hn,rfl,ho⟩
  ·exact .inl ⟨.c0 esz,os,Hc _ hsz,.inl ⟨rfl,rfl⟩,fun _ _=>rfl⟩
  ·refine .inl ⟨_,os,?_,.inr ⟨n,q,List.mem_cons_of_mem _ hn,rfl,ho⟩,fun _ _=>rfl⟩;have J:=tR (A:=av ts os) (esz:=esz) (lo:=0) (k:=l.length) ho (by simp);simp only[fJ,J,np _ esz ([]:List α) hsz,e7,zy6,if_true];rfl
 ·rcases hg with ⟨rfl,rfl⟩ | ⟨n,q,hn,rfl,ho⟩
  ·obtain ⟨p,J⟩:=Hb (A:=av ts os) (rest:=rest) (e:=e) (q:=esz) (enc z) hsz hy hf (by simpa using hb) (by simpa using hml);refine .inr ⟨p,fun m=>.view d [] esz 0 ys.length,fun m=>(d,.box (.agg (ys.map enc++List.replicate m (enc z))))::os,J,fun k=>⟨.inr ⟨d,List.replicate k z,List.mem_cons_self,by simp,?_⟩,fun m hm =>?_⟩⟩
   ·simp[aj]
   ·rw[dx,if_neg (fun h=>by rw[h] at hm;exact hm List.mem_cons_self)]
  ·by_cases hr:l.length+ys.length≤(l++q).length
   ·have J:=ym (A:=av ts os) (rest:=rest) (d:=some d) (e:=e) (bytes:=bytes) (esz:=esz) (enc z) hsz hy ho hr;have e1:(l++q).take l.length++(ys++(l++q).drop (l.length+ys.length))=(l++ys)++q.drop ys.length:=by simp[List.drop_append]
    rw[e1] at J;refine .inl ⟨_,(n,.box (.agg (((l++ys)++q.drop ys.length).map enc)))::os,J,.inr ⟨n,q.drop ys.length,List.mem_cons_of_mem _ hn,by simp,by simp[aj]⟩,fun m hm =>?_⟩;rw[dx,if_neg (fun h=>by rw[h] at hm;exact hm (List.mem_cons_of_mem _ hn))]
   ·obtain ⟨p,J⟩:=Ha (A:=av ts os) (rest:=rest) (d:=d) (e:=e) (bytes:=bytes) (esz:=esz) (enc z) hsz hy ho (by simp) (by omega) hf hb hml;refine .inr ⟨p,fun m=>.view d [] esz 0 (l.length+ys.length),fun m=>(d,.box (.agg (((l++q).take l.length).map enc++(ys.map enc++List.replicate m (enc z)))))::os,J,fun k=>⟨.inr ⟨d,List.replicate k z,List.mem_cons_self,by simp,?_⟩,fun m hm =>?_⟩⟩
    ·simp[aj]
    ·rw[dx,if_neg (fun h=>by rw[h] at hm;exact hm List.mem_cons_self)]
theorem bN.gW(z:α){ts:List (Nat×I)}{os:List (Nat×aq)}{v:I}{l ys:List α}{S:List Nat}(hsz:Enc.sz α=esz)(hg:kF esz v os l S)(hf:aj os d=none)(hb:(l.length+ys.length)*bytes≤140737488355328)(hml:l.length+ys.length≤maxLen)
  (h:∀ v' os',kF esz v' os' (l++ys) (d::S)→(∀ m,m∉d::S→aj os' m=aj os m)→bN P Y ab K (az rest (av ((d,v')::ts) os'))):bN P Y ab K (fJ (av ts os) (some d) e esz bytes (enc z) (enc ys) rest v):=by
 rcases BH (rest:=rest) (e:=e) z hsz hg hf hb hml (ts:=ts) with ⟨v',os',J,U,ah⟩ | ⟨p,v',os',J,U⟩
 ·rw[J];exact h v' os' U ah
 ·rw[J];exact .any fun m _=>h _ _ (U m).1 (U m).2
theorem aR.gW(z:α){ts:List (Nat×I)}{os:List (Nat×aq)}{v:I}{l ys:List α}{S:List Nat}(hsz:Enc.sz α=esz)(hg:kF esz v os l S)(hf:aj os d=none)(hb:(l.length+ys.length)*bytes≤140737488355328)(hml:l.length+ys.length≤maxLen)
  (h:∀ v' os',kF esz v' os' (l++ys) (d::S)→(∀ m,m∉d::S→aj os' m=aj os m)→aR P Y false K (az rest (av ((d,v')::ts) os'))):aR P Y false K (fJ (av ts os) (some d) e esz bytes (enc z) (enc ys) rest v):=by
 rcases BH (rest:=rest) (e:=e) z hsz hg hf hb hml (ts:=ts) with ⟨v',os',J,U,ah⟩ | ⟨p,v',os',J,U⟩
 ·rw[J];exact h v' os' U ah
 ·rw[J];exact .any rfl fun m _=>h _ _ (U m).1 (U m).2
theorem lR(os:List (Nat×aq))(S:List Nat):kF esz (.c0 esz) os ([]:List α) S:=.inl ⟨rfl,rfl⟩
theorem lQ{v:I}{os:List (Nat×aq)}{l:List α}{S:List Nat}{A:ai}(hsz:Enc.sz α=esz)(h:kF esz v os l S)(hA:∀ m∈S,A.o m=aj os m):bh true A v=some (enc l):=by
 rcases h with ⟨rfl,rfl⟩ | ⟨n,q,hn,rfl,ho⟩
 ·simp only[bh,hl,zy6,hsz]
 ·have J:bh true A (.view n [] esz 0 l.length)=lM esz 0 l.length (some ((l++q).map enc)):=by
   rw[vG,hA n hn,ho];rfl
  rw[J,vF hsz,List.take_left]
end
def en:List Int→Int→List Int
 | [],n=>[n]
 |x::l,n=>if x<n then x::en l n else if x=n then x::l else n::x::l
theorem C6:∀ (l:List Int) (n:Int) (i:Nat) (h:i<l.length),(∀ k,k<i→∀ hk:k<l.length,l[k]<n)→l[i]=n→en l n=l
 | [],_,_,h,_,_=>by simp at h
 |x::l,n,0,_,_,U=>by simp at U;simp[en,U]
 |x::l,n,i+1,h,J,U=>by
  have hx:=J 0 (by omega) (by simp);simp only[List.getElem_cons_zero] at hx;rw[en,if_pos hx,C6 l n i (by simpa using h) (fun k hk ao=>J (k+1) (by omega) (by simpa using ao)) (by simpa using U)]
theorem w8:∀ (l:List Int) (n:Int) (i:Nat),i≤l.length→(∀ k,k<i→∀ hk:k<l.length,l[k]<n)→(∀ h:i<l.length,n<l[i])→en l n=l.take i++n::l.drop i
 | [],n,i,h,_,_=>by simp[en]
 |x::l,n,0,_,_,U=>by
  have:=U (by simp);simp only[List.getElem_cons_zero] at this;simp[en,show ¬ x<n by omega,show ¬ x=n by omega]
 |x::l,n,i+1,h,J,U=>by
  have hx:=J 0 (by omega) (by simp);simp only[List.getElem_cons_zero] at hx;rw[en,if_pos hx,w8 l n i (by simpa using h) (fun k hk ao=>J (k+1) (by omega) (by simpa using ao)) (fun ao=>U (by simpa using ao))];rfl
theorem xH{α:Type}[Enc α]{A:ai}(esz:Nat){l:List α}{i:Nat}(h:i≤l.length)(ab:Enc.sz α=esz):ji A esz (some (.int .i64 i)) none none (enc l)=some (enc (l.drop i)):=by
 simp only[ji,hl,ab,if_true,iR,jo,Z9];rw[if_pos ⟨by omega,by omega,by omega,by omega⟩];simp[List.take_of_length_le]
theorem rX(l:List Int)(n:Int)(ao:l.length≤1000):bd Tryz.prog 109 [enc l,enc n] (enc (en l n)):=by
 refine bd.b6 Tryz.func109 H3 Ja Ki (u8 rfl) (fun hwf W0 bG E1 =>?_);simp only[yK,De,bH,Z1];clear hwf;have R:=y6 @bo aC
 repeat' ((first |(with_reducible refine .guard (fun hb =>?_) (fun hb =>?_) <;>try simp only[hb])|refine ae.aF (by decide +kernel) rfl fun K hK =>?_|(refine .ay [0,1,4,5,17,31] hK ?_;clear hK K)|(with_reducible refine .done (hK _ ?_);clear hK K)|refine ae.of rfl ?_|(with_reducible refine aB.aE (fun h =>?_) (fun h =>?_) <;>try simp only[h])) <;>try simp only[aG,R,simprocAttr])
 all_goals clear R
 refine ae.loop (fun i:Nat=>av [(0,enc l),(1,.int .i64 n),(5,.int .i64 i)] []) (fun i=>i≤l.length∧∀ k,k<i→∀ h:k<l.length,l[k]<n) (fun i=>l.length-i) 0 ⟨zy9 _,fun k h=>by omega⟩ ?_ (fun i hi =>?_)
 ·refine bx.df ?_ ?_ ?_ ?_ <;>simp[cw,cY,cH,cJ,cq,I.only,cA]
 obtain ⟨hi1,hi2⟩:=hi;by_cases hlt:i<l.length
 ·have hc:=gx hlt;have he:=fun A=>fb (A:=A) 1 hlt rfl;have hw:=gq (i:=i) (by omega);rcases hp:decide (l[i]<n)
  ·have hp0:=of_decide_eq_false hp;rcases hq:(l[i]==n)
   ·have hq0:¬ l[i]=n:=by simpa using hq
    have hm:en l n=l.take i++n::l.drop i:=w8 l n i hi1 hi2 (fun h=>by omega);have R:=y6 @hc (y6 @he (y6 @hp (y6 @hq aC)))
    repeat' ((first |(with_reducible refine .guard (fun hb =>?_) (fun hb =>?_) <;>try simp only[hb])|refine ae.aF (by decide +kernel) rfl fun K hK =>?_|(refine .ay [0,1,4,5,17,31] hK ?_;clear hK K)|(with_reducible refine .done (hK _ ?_);clear hK K)|refine ae.of rfl ?_|(with_reducible refine aB.aE (fun h =>?_) (fun h =>?_) <;>try simp only[h])) <;>try simp only[aG,R,simprocAttr])
    all_goals clear R
    refine ae.pG (gs:=qm) [] [(33,[]),(0,[]),(41,[])] [0,1,2,3,5,6,8,9,10,4,7,11,12] (by decide +kernel) (cU.of (by simp[fi,cq,pn,I.only,cA])) fun K hK =>?_;have hbs:fm 1 (some [.int .i64 n])=some (enc [n]):=iw 1 n rfl
    try simp only[eU,qm,zz6,zz7,rE 1 hi1 rfl,xH 1 hi1 rfl,Option.map_none,Z8,hbs,jk,bF,simprocAttr]
    refine bN.gW (0:Int) rfl (lR _ []) rfl (by simp;omega) (by simp[maxLen];omega) fun v1 o1 g1 f1 =>?_
    try simp only[bF,simprocAttr]
    refine bN.gW (0:Int) rfl g1 (f1 40 (by decide)) (by simp;omega) (by simp[maxLen];omega) fun v2 o2 g2 f2 =>?_
    try simp only[bF,simprocAttr]
    refine bN.gW (0:Int) rfl g2 ((f2 44 (by decide)).trans (f1 44 (by decide))) (by simp;omega) (by simp[maxLen];omega) fun v3 o3 g3 f3 =>?_;have hf:=fun ts=>lQ (A:=av ts o3) rfl g3 fun _ _=>rfl;rw[show ([]++List.take i l++[n]++List.drop i l)=en l n by rw[hm];simp] at hf
    try simp only[bF,simprocAttr]
    refine .done (hK _ ?_);clear hK K;have R:=y6 @hf aC
    repeat' ((first |(with_reducible refine .guard (fun hb =>?_) (fun hb =>?_) <;>try simp only[hb])|refine ae.aF (by decide +kernel) rfl fun K hK =>?_|(refine .ay [0,1,4,5,17,31] hK ?_;clear hK K)|(with_reducible refine .done (hK _ ?_);clear hK K)|refine ae.of rfl ?_|(with_reducible refine aB.aE (fun h =>?_) (fun h =>?_) <;>try simp only[h])) <;>try simp only[aG,R,simprocAttr])
    all_goals clear R
   ·have hm:en l n=l:=C6 l n i hlt hi2 (by simpa using hq);rw[hm];have R:=y6 @hc (y6 @he (y6 @hp (y6 @hq aC)))
    repeat' ((first |(with_reducible refine .guard (fun hb =>?_) (fun hb =>?_) <;>try simp only[hb])|refine ae.aF (by decide +kernel) rfl fun K hK =>?_|(refine .ay [0,1,4,5,17,31] hK ?_;clear hK K)|(with_reducible refine .done (hK _ ?_);clear hK K)|refine ae.of rfl ?_|(with_reducible refine aB.aE (fun h =>?_) (fun h =>?_) <;>try simp only[h])) <;>try simp only[aG,R,simprocAttr])
    all_goals clear R
  ·have R:=y6 @hc (y6 @he (y6 @hp (y6 @hw aC)))
   repeat' ((first |(with_reducible refine .guard (fun hb =>?_) (fun hb =>?_) <;>try simp only[hb])|refine ae.aF (by decide +kernel) rfl fun K hK =>?_|(refine .ay [0,1,4,5,17,31] hK ?_;clear hK K)|(with_reducible refine .done (hK _ ?_);clear hK K)|refine ae.of rfl ?_|(with_reducible refine aB.aE (fun h =>?_) (fun h =>?_) <;>try simp only[h])) <;>try simp only[aG,R,simprocAttr])
   all_goals clear R
   refine ⟨i+1,⟨by omega,fun k hk h =>?_⟩,by omega,?_⟩
   ·by_cases e:k=i
    ·subst e;exact of_decide_eq_true hp
    ·exact hi2 k (by omega) h
   ·refine bx.df ?_ ?_ ?_ ?_ <;>simp[cw,cY,cH,cJ,cq,I.only,cA]
 ·have hc:=gL hlt;have hge:i=l.length:=by omega
  have hm:en l n=l.take i++n::l.drop i:=w8 l n i hi1 hi2 (fun h=>absurd h hlt);have R:=y6 @hc aC
  repeat' ((first |(with_reducible refine .guard (fun hb =>?_) (fun hb =>?_) <;>try simp only[hb])|refine ae.aF (by decide +kernel) rfl fun K hK =>?_|(refine .ay [0,1,4,5,17,31] hK ?_;clear hK K)|(with_reducible refine .done (hK _ ?_);clear hK K)|refine ae.of rfl ?_|(with_reducible refine aB.aE (fun h =>?_) (fun h =>?_) <;>try simp only[h])) <;>try simp only[aG,R,simprocAttr])
  all_goals clear R
  refine ae.pG (gs:=qm) [] [(33,[]),(0,[]),(41,[])] [0,1,2,3,5,6,8,9,10,4,7,11,12] (by decide +kernel) (cU.of (by simp[fi,cq,pn,I.only,cA])) fun K hK =>?_;have hbs:fm 1 (some [.int .i64 n])=some (enc [n]):=iw 1 n rfl
  try simp only[eU,qm,zz6,zz7,rE 1 hi1 rfl,xH 1 hi1 rfl,Option.map_none,Z8,hbs,jk,bF,simprocAttr]
  refine bN.gW (0:Int) rfl (lR _ []) rfl (by simp;omega) (by simp[maxLen];omega) fun v1 o1 g1 f1 =>?_
  try simp only[bF,simprocAttr]
  refine bN.gW (0:Int) rfl g1 (f1 40 (by decide)) (by simp;omega) (by simp[maxLen];omega) fun v2 o2 g2 f2 =>?_
  try simp only[bF,simprocAttr]
  refine bN.gW (0:Int) rfl g2 ((f2 44 (by decide)).trans (f1 44 (by decide))) (by simp;omega) (by simp[maxLen];omega) fun v3 o3 g3 f3 =>?_;have hf:=fun ts=>lQ (A:=av ts o3) rfl g3 fun _ _=>rfl;rw[show ([]++List.take i l++[n]++List.drop i l)=en l n by rw[hm];simp] at hf
  try simp only[bF,simprocAttr]
  refine .done (hK _ ?_);clear hK K;have R:=y6 @hf aC
  repeat' ((first |(with_reducible refine .guard (fun hb =>?_) (fun hb =>?_) <;>try simp only[hb])|refine ae.aF (by decide +kernel) rfl fun K hK =>?_|(refine .ay [0,1,4,5,17,31] hK ?_;clear hK K)|(with_reducible refine .done (hK _ ?_);clear hK K)|refine ae.of rfl ?_|(with_reducible refine aB.aE (fun h =>?_) (fun h =>?_) <;>try simp only[h])) <;>try simp only[aG,R,simprocAttr])
  all_goals clear R
def pI:dc:=⟨0,0,0,false⟩
theorem vi:I.agg [.int .i64 0,.int .i64 0,.int .i64 0,.bool false]=enc pI:=rfl
def xB:fW:=⟨0,0,0,0⟩
theorem Mp:I.agg [.int .i64 0,.int .i64 0,.int .i64 0,.int .i64 0]=enc xB:=rfl
def ja(s:b8)(i:Nat):b8 := { s with bp:=s.bp.take i++s.bp.drop (i+1) }
def iW(v:I):Prop:=v.bR=true∧bY none v=true∧v.aX=.one∧v.size=1
theorem XZ(l:List dc):iW (enc l):=⟨eh _,by simp[kS,kR],(eI l).trans mG,by rw[kU,kd]⟩
theorem wQ(l:List fW):iW (enc l):=⟨eh _,by simp[kS,kR],(eI l).trans mG,by rw[kU,kd]⟩
theorem jv{α:Type}[Enc α]{esz:Nat}{v:I}{os:List (Nat×aq)}{l:List α}{S:List Nat}(h:kF esz v os l S):iW v:=by
 rcases h with ⟨_,rfl⟩ | ⟨n,q,_,rfl,_⟩ <;>exact ⟨rfl,rfl,rfl,rfl⟩
theorem Zt{a s:Int}{h:List Int}{r e:I}(hr:iW r)(he:iW e):(gE a (enc h) s r e).aX=.eJ [.one,.one,.one,.one,.one]:=by
 simp only[gE,I.aX,I.cV,eI,mG,hr.2.2.1,he.2.2.1]
theorem Fc{a s:Int}{h:List Int}{r e:I}(hr:iW r)(he:iW e):bY (some 5) (gE a (enc h) s r e)=true:=by
 simp[bY,gE,I.isAgg,I.size,I.sizes,kU,kd,hr.2.2.2,he.2.2.2]
theorem tV{a s:Int}{h:List Int}{r e:I}(hr:iW r)(he:iW e):bY (some 5) (gE a (enc h) s r e)=true∧(∀ A n rest x y,db A (some 5) n [] (.agg [.int .i64 x,.nils 1,.int .i64 y,.nils 4,.nils 4]) (gE a (enc h) s r e) rest (some (.agg [.int .i64 x,.nils 1,.int .i64 y,.nils 4,.nils 4]))=az rest (A.aS n (.box (gE a (enc h) s r e)))) :=
 ⟨Fc hr he,fun A n rest x y=>dE rfl (Fc hr he) (Zt hr he)⟩
theorem xL{q:b8}{v:I}(hv:iW v):∀ A n rest,db A none n [3] (enc q) v rest (some (enc q.bp))=az rest (A.aS n (.box (gE q.ar (enc q.here) q.dG v (enc q.bj)))) :=
 fun A n rest=>(dE hv.1 hv.2.1 (hv.2.2.1.trans ((eI _).trans mG).symm)).trans rfl
theorem Zs{q:b8}{v:I}(hv:iW v):∀ A n rest,db A none n [4] (enc q) v rest (some (enc q.bj))=az rest (A.aS n (.box (gE q.ar (enc q.here) q.dG (enc q.bp) v))) :=
 fun A n rest=>(dE hv.1 hv.2.1 (hv.2.2.1.trans ((eI _).trans mG).symm)).trans rfl
theorem tW{A:ai}{a s:Int}{h:List Int}{r e:I}{rs:List dc}{es:List fW}(hr:bh true A r=some (enc rs))(he:bh true A e=some (enc es)):bh true A (gE a (enc h) s r e)=some (enc (⟨a,h,s,rs,es⟩:b8)):=by
 have U:∀ k n,bh true A (.int k n)=some (.int k n):=fun k n=>by simp only[bh]
 have ah:bh true A (enc h)=some (enc h):=by simp only[lJ]
 simp only[gE,sH,sK,sM,hr,he,U,ah,jM,Z8];rfl
theorem xU(s:b8)(i:Nat)(hi:i<s.bp.length)(ao:s.bp.length≤1000):bd Tryz.prog 111 [enc s,enc (i:Int)] (enc (ja s i)):=by
 refine bd.b6 Tryz.func111 H6 Jd Kl (u8 rfl) (fun hwf W0 bG E1 =>?_);simp only[yN,Di,bH,Z1];clear hwf;have hc:=gx hi;have hw:=gq (i:=i) (by omega);have hle:i≤s.bp.length:=by omega
 have af:(s.bp.take i).length+(s.bp.drop (i+1)).length≤1000:=by rw[zy4,List.length_drop];omega
 have hd0:(s.bp.take i).length≤1000:=by omega
 have R:=y6 @hc (y6 @hw (y6 @cu aC))
 repeat' ((first |refine ae.aF (by decide +kernel) rfl fun K hK =>?_|(refine .ay [0,1,2,4] hK ?_;clear hK K)|(with_reducible refine .done (hK _ ?_);clear hK K)|refine ae.of rfl ?_|(with_reducible refine aB.aE (fun h =>?_) (fun h =>?_) <;>try simp only[h])) <;>try simp only[aG,R,simprocAttr])
 all_goals clear R
 refine ae.pG (gs:=vJ) [] [(5,[])] [0,1,2,3,4,6,7,8,9,10,5,11,12,13] (by decide +kernel) (cU.of (by simp[fi,cq,pn,I.only])) fun K hK =>?_
 try simp only[eU,vJ,zz6,zz7,rE 4 hle rfl,xH 4 (show i+1≤s.bp.length by omega) rfl,Option.map_none,Z8,hw,vi,jk,cu,aC,bF,simprocAttr]
 refine bN.gW pI rfl (lR _ []) rfl (by simp;omega) (by simp[maxLen];omega) fun v1 o1 g1 f1 =>?_
 try simp only[bF,simprocAttr]
 refine bN.gW pI rfl g1 (f1 16 (by decide)) (by simp;omega) (by simp[maxLen];omega) fun v2 o2 g2 f2 =>?_;have ho2:aj o2 2=some (.box (enc s)):=(f2 2 (by decide)).trans (f1 2 (by decide));have ho4:aj o2 4=some (.box (.agg [.int .i64 0,.nils 1,.int .i64 0,.nils 4,.nils 4])):=(f2 4 (by decide)).trans (f1 4 (by decide));have ab:=xL (q:=s) (jv g2);have ht:=tV (a:=s.ar) (h:=s.here) (s:=s.dG) (jv g2) (wQ s.bj);have hf:∀ ts os,aj os 10=aj o2 10→aj os 16=aj o2 16→bh true (av ts os) (gE s.ar (enc s.here) s.dG v2 (enc s.bj))=some (enc (ja s i)):=fun ts os J U =>
  (tW (lQ rfl g2 (by intro m hm;simp only[zx3,List.not_mem_nil,or_false] at hm;rcases hm with rfl | rfl;exact U;exact J)) (by simp only[lJ])).trans rfl
 try simp only[ho2,ab,cu,aC,bF,simprocAttr]
 refine .done (hK _ ?_);clear hK K;have R:=y6 @ho4 (y6 @ht (y6 @hf (y6 @cu aC)))
 repeat' ((first |refine ae.aF (by decide +kernel) rfl fun K hK =>?_|(refine .ay [0,1,2,4] hK ?_;clear hK K)|(with_reducible refine .done (hK _ ?_);clear hK K)|refine ae.of rfl ?_|(with_reducible refine aB.aE (fun h =>?_) (fun h =>?_) <;>try simp only[h])) <;>try simp only[aG,R,simprocAttr])
 all_goals clear R
theorem HN(a b c d:Int):(dT [.int .i64 0,.int .i64 0,.int .i64 0,.int .i64 0] [(0,.int .i64 a),(1,.int .i64 b),(2,.int .i64 c),(3,.int .i64 d)]).map I.agg=some (enc (⟨a,b,c,d⟩:fW)):=by simp[dT,I.bR,I.size];rfl
def ga(s:b8)(x:bg):b8 := { s with bj:=s.bj++[⟨x.kind,x.other,x.no,x.aK⟩] }
theorem xV(s:b8)(x:bg)(ao:s.bj.length≤1000):bd Tryz.prog 112 [enc s,enc x] (enc (ga s x)):=by
 refine bd.b6 Tryz.func112 H7 Je Km (u8 rfl) (fun hwf W0 bG E1 =>?_);simp only[yO,Dj,bH,Z1];clear hwf;have hbs:∀ y:fW,fm 4 (some [enc y])=some (enc [y]):=fun y=>iw 4 y rfl;have R:=y6 @cu aC
 repeat' ((first |refine ae.aF (by decide +kernel) rfl fun K hK =>?_|(refine .ay [0,1,2,3,4] hK ?_;clear hK K)|(with_reducible refine .done (hK _ ?_);clear hK K)|refine ae.of rfl ?_|(with_reducible refine aB.aE (fun h =>?_) (fun h =>?_) <;>try simp only[h])) <;>try simp only[aG,R,simprocAttr])
 all_goals clear R
 refine ae.pG (gs:=vK) [] [(5,[])] [0,1,2,4,5,6,7,8,9,10,11,12,13,3,14,15,16] (by decide +kernel) (cU.of (by simp[fi,cq,pn,I.only])) fun K hK =>?_
 try simp only[eU,vK,zz6,zz7,zx6,Mp,HN,jk,hbs,cu,aC,bF,simprocAttr]
 refine bN.gW xB rfl (lR _ []) rfl (by simp;omega) (by simp[maxLen];omega) fun v1 o1 g1 f1 =>?_
 try simp only[bF,simprocAttr]
 refine bN.gW xB rfl g1 (f1 19 (by decide)) (by simp;omega) (by simp[maxLen];omega) fun v2 o2 g2 f2 =>?_;have ho2:aj o2 2=some (.box (enc s)):=(f2 2 (by decide)).trans (f1 2 (by decide));have ho4:aj o2 4=some (.box (.agg [.int .i64 0,.nils 1,.int .i64 0,.nils 4,.nils 4])):=(f2 4 (by decide)).trans (f1 4 (by decide));have ab:=Zs (q:=s) (jv g2);have ht:=tV (a:=s.ar) (h:=s.here) (s:=s.dG) (XZ s.bp) (jv g2);have hf:∀ ts os,aj os 8=aj o2 8→aj os 19=aj o2 19→bh true (av ts os) (gE s.ar (enc s.here) s.dG (enc s.bp) v2)=some (enc (ga s x)):=fun ts os J U =>
  (tW (by simp only[lJ]) (lQ rfl g2 (by intro m hm;simp only[zx3,List.not_mem_nil,or_false] at hm;rcases hm with rfl | rfl;exact U;exact J))).trans rfl
 try simp only[ho2,ab,cu,aC,bF,simprocAttr]
 refine .done (hK _ ?_);clear hK K;have R:=y6 @ho4 (y6 @ht (y6 @hf (y6 @cu aC)))
 repeat' ((first |refine ae.aF (by decide +kernel) rfl fun K hK =>?_|(refine .ay [0,1,2,3,4] hK ?_;clear hK K)|(with_reducible refine .done (hK _ ?_);clear hK K)|refine ae.of rfl ?_|(with_reducible refine aB.aE (fun h =>?_) (fun h =>?_) <;>try simp only[h])) <;>try simp only[aG,R,simprocAttr])
 all_goals clear R
theorem w0{q:bu}{v:I}(hv:iW v):∀ A n rest,db A none n [1] (enc q) v rest (some (enc q.j))=az rest (A.aS n (.box (dN q v))) :=
 fun A n rest=>(dE hv.1 hv.2.1 (hv.2.2.1.trans ((eI _).trans mG).symm)).trans rfl
theorem w4{q:bu}{v:I}(hv:iW v):bY (some 3) (dN q v)=true∧(∀ A n rest,db A (some 3) n [] (.agg [.int .i64 0,.nils 4,.int .i64 0]) (dN q v) rest (some (.agg [.int .i64 0,.nils 4,.int .i64 0]))=az rest (A.aS n (.box (dN q v)))):=by
 have J:bY (some 3) (dN q v)=true:=by simp[bY,dN,I.isAgg,I.size,I.sizes,hv.2.2.2]
 exact ⟨J,fun A n rest=>dE rfl J (by simp only[dN,I.aX,I.cV,hv.2.2.1])⟩
theorem w5{A:ai}{q:bu}{v:I}{l:List bg}(h:bh true A v=some (enc l)):bh true A (dN q v)=some (enc (⟨q.ar,l,q.cE⟩:bu)):=by
 have U:∀ k n,bh true A (.int k n)=some (.int k n):=fun k n=>by simp only[bh]
 simp only[dN,sH,sK,sM,h,U,jM,Z8];rfl
theorem Gu(p:bu)(x:bg)(ao:p.j.length≤200):bd Tryz.prog 77 [enc p,enc x] (.tuple [enc (gF p x).1,enc (gF p x).2]):=by
 refine bd.b6 Tryz.func77 IN JR K9 (u8 rfl) (fun hwf W0 bG E1 =>?_);simp only[zy,Eb,bH,Z1];clear hwf;rcases q:((p.j.length:Int)==200)
 case true =>
  have U:p.j.length=200:=by simp at q;omega
  have hw:gF p x=(⟨0,[],0⟩,2):=by simp[gF,U]
  rw[hw];have R:=y6 @q (y6 @p7 (y6 @rF (y6 @dI aC)))
  repeat' ((first |refine ae.aF (by decide +kernel) rfl fun K hK =>?_|(refine .ay [0,1,2,3,4,5,9] hK ?_;clear hK K)|(with_reducible refine .done (hK _ ?_);clear hK K)|refine ae.of rfl ?_|(with_reducible refine aB.aE (fun h =>?_) (fun h =>?_) <;>try simp only[h])) <;>try simp only[aG,R,simprocAttr])
  all_goals clear R
  rfl
 have hne:¬ p.j.length=200:=fun h=>by rw[h] at q;simp at q
 have hw:gF p x=(⟨p.ar,p.j++[x],p.cE⟩,0):=by simp[gF,hne]
 rw[hw];have hbs:=iw 4 x rfl;have R:=y6 @q (y6 @dI aC)
 repeat' ((first |refine ae.aF (by decide +kernel) rfl fun K hK =>?_|(refine .ay [0,1,2,3,4,5,9] hK ?_;clear hK K)|(with_reducible refine .done (hK _ ?_);clear hK K)|refine ae.of rfl ?_|(with_reducible refine aB.aE (fun h =>?_) (fun h =>?_) <;>try simp only[h])) <;>try simp only[aG,R,simprocAttr])
 all_goals clear R
 refine ae.pG (gs:=vS) [] [(11,[])] [0,1,2,4,5,3,6,7,8] (by decide +kernel) (cU.of (by simp[fi,cq,pn,I.only])) fun K hK =>?_
 try simp only[eU,vS,zz6,zz7,mF,jk,hbs,dI,aC,bF,simprocAttr]
 refine bN.gW gm rfl (lR _ []) rfl (by simp;omega) (by simp[maxLen];omega) fun v1 o1 g1 f1 =>?_
 try simp only[bF,simprocAttr]
 refine bN.gW gm rfl g1 (f1 17 (by decide)) (by simp;omega) (by simp[maxLen];omega) fun v2 o2 g2 f2 =>?_;have ho2:aj o2 2=some (.box (enc p)):=(f2 2 (by decide)).trans (f1 2 (by decide));have ho4:aj o2 4=some (.box (.agg [.int .i64 0,.nils 4,.int .i64 0])):=(f2 4 (by decide)).trans (f1 4 (by decide));have ab:=w0 (q:=p) (jv g2);have ht:=w4 (q:=p) (jv g2);have hf:∀ ts os,aj os 14=aj o2 14→aj os 17=aj o2 17→bh true (av ts os) (dN p v2)=some (enc (⟨p.ar,p.j++[x],p.cE⟩:bu)):=fun ts os J U =>
  w5 (lQ rfl g2 (by intro m hm;simp only[zx3,List.not_mem_nil,or_false] at hm;rcases hm with rfl | rfl;exact U;exact J))
 try simp only[ho2,ab,dI,aC,bF,simprocAttr]
 refine .done (hK _ ?_);clear hK K;have R:=y6 @ho4 (y6 @ht (y6 @hf (y6 @dI aC)))
 repeat' ((first |refine ae.aF (by decide +kernel) rfl fun K hK =>?_|(refine .ay [0,1,2,3,4,5,9] hK ?_;clear hK K)|(with_reducible refine .done (hK _ ?_);clear hK K)|refine ae.of rfl ?_|(with_reducible refine aB.aE (fun h =>?_) (fun h =>?_) <;>try simp only[h])) <;>try simp only[aG,R,simprocAttr])
 all_goals clear R
theorem Gb(p:bu)(ao:p.j.length≤1000):bd Tryz.prog 58 [enc p] (enc p):=by
 refine bd.b6 Tryz.func58 Iy JC KU (u8 rfl) (fun hwf W0 bG E1 =>?_);simp only[zh,DS,bH];clear hwf;have R:=y6 @mF (y6 @jk (y6 @dI aC))
 repeat' ((first |refine ae.aF (by decide +kernel) rfl fun K hK =>?_|(refine .ay [0,1,2] hK ?_;clear hK K)|(with_reducible refine .done (hK _ ?_);clear hK K)|refine ae.of rfl ?_|(with_reducible refine aB.aE (fun h =>?_) (fun h =>?_) <;>try simp only[h])) <;>try simp only[aG,R,simprocAttr])
 all_goals clear R
 refine aR.gW gm rfl (lR _ []) rfl (by simp;omega) (by simp[maxLen];omega) fun v2 o2 g2 f2 =>?_;have ho2:aj o2 1=some (.box (enc p)):=f2 1 (by decide);have ho4:aj o2 2=some (.box (.agg [.int .i64 0,.nils 4,.int .i64 0])):=f2 2 (by decide);have ab:=w0 (q:=p) (jv g2);have ht:=w4 (q:=p) (jv g2);have hf:∀ ts os,aj os 6=aj o2 6→bh true (av ts os) (dN p v2)=some (enc p):=fun ts os J =>
  w5 (lQ rfl g2 (by intro m hm;simp only[zx3,List.not_mem_nil,or_false] at hm;rcases hm with rfl;exact J))
 try simp only[ho2,ab,dI,aC,bF,simprocAttr]
 have R:=y6 @ho2 (y6 @ho4 (y6 @ht (y6 @hf (y6 @dI aC))))
 repeat' ((first |refine ae.aF (by decide +kernel) rfl fun K hK =>?_|(refine .ay [0,1,2] hK ?_;clear hK K)|(with_reducible refine .done (hK _ ?_);clear hK K)|refine ae.of rfl ?_|(with_reducible refine aB.aE (fun h =>?_) (fun h =>?_) <;>try simp only[h])) <;>try simp only[aG,R,simprocAttr])
 all_goals clear R
def hd(s:b8)(x:bg):Bool:=match jB s x.no with
 |some i=>match s.bp[i]? with
  |some r=>r.to==x.other&&r.aK==x.aK
  |none=>false
 |none=>false
def oP(s:b8)(x:bg):Bool:=match jB s x.no with
 |some i=>match s.bp[i]? with
  |some r=>r.dw
  |none=>false
 |none=>false
def atR(s:b8)(x:bg):Nat:=(jB s x.no).getD 0
def cL(s:b8)(x:bg):b8×Bool :=
 if x.kind=1 then if decide (x.aK∈s.here)||iu s x.aK then (s,false) else ({ s with here:=en s.here x.aK },true)
 else if x.kind=2 then ({ s with here:=gZ s.here x.aK },decide (x.aK∈s.here))
 else if x.kind=3 then if x.aK∉s.here∨x.other=s.ar∨x.no≠s.dG+1 then (s,false) else ({ s with here:=gZ s.here x.aK,dG:=x.no,bp:=s.bp++[⟨x.no,x.other,x.aK,false⟩] },true)
 else if x.kind=4 then if hd s x && !oP s x then ({ s with bp:=s.bp.modify (atR s x) fun r => { r with dw:=true } },true) else (s,false)
 else if x.kind=5 then if hd s x then (ja s (atR s x),true) else (s,false)
 else if x.kind=6 then if hd s x&&oP s x then ({ ja s (atR s x) with here:=en s.here x.aK },true) else (s,false)
 else if x.other=s.ar∨je s x.other x.no≠0 then (s,false)
 else if x.kind=7 then if decide (x.aK∈s.here)||iu s x.aK then (s,false) else (ga { s with here:=en s.here x.aK } x,true)
 else (ga s x,true)
theorem EJ(s:b8)(no:Int):(jB s no=none∧kv s no=-1)∨∃ i,∃ h:i<s.bp.length,jB s no=some i∧kv s no=(i:Int)∧(s.bp[i]).no=no:=by
 cases h:jB s no with
 |none=>exact .inl ⟨rfl,by simp[kv,h]⟩
 |some i =>
  obtain ⟨J,U,_⟩:=List.findIdx?_eq_some_iff_getElem.1 h;exact .inr ⟨i,J,rfl,by simp[kv,h],of_decide_eq_true U⟩
def kH(s:b8)(x:bg):ai:=av [(2,.ptr 2 []),(3,.ptr 3 []),(4,.ptr 4 []),(5,.bool false),(6,.bool (decide (x.aK∈s.here))),(7,.int .i64 (kv s x.no)),(8,.bool (hd s x))] [(4,.box (.agg [.int .i64 0,.nils 1,.int .i64 0,.nils 4,.nils 4])),(3,.box (enc x)),(2,.box (enc s))]
theorem mZ{W0:World}{bG:aP}{n:Nat}{own dh:_}(y:bq)(Q:Exit→ai→Prop)(s:b8)(x:bg)(ao:s.bp.length≤1000)
  (h:ae { P:=Tryz.prog,fV:=W0,bG:=bG,n:=n,own:=own,dh:=dh,Y:=dy,lj:=none } y Q (kH s x)) :
  ae { P:=Tryz.prog,fV:=W0,bG:=bG,n:=n,own:=own,dh:=dh,Y:=dy,lj:=none } (.seq (.cd none Bj) (.seq (.cd none Bk) (.seq (.cd none Bl) (.seq (.cd Az Bm) y)))) Q (av [(0,enc s),(1,enc x)] []):=by
 have hF1:=Gv s.here x.aK;have hF2:=Gw s x.no ao;have hg:decide ((-1:Int)≥0)=false:=rfl;unfold kH at h;rcases EJ s x.no with ⟨J,U⟩ | ⟨i,hi,J,U,-⟩
 ·have hm:hd s x=false:=by simp only[hd,J]
  rw[U] at hF2 h;rw[hm] at h;have R:=y6 @hg (y6 @cu (y6 @bo aC))
  repeat' ((first |(with_reducible refine .guard (fun hb =>?_) (fun hb =>?_) <;>try simp only[hb])|refine ae.aF (by decide +kernel) rfl fun K hK =>?_|refine .flat _ (hF1) rfl ?_|refine .flat _ (hF2) rfl ?_|(refine .ay [0,1,2,3,4,5,6,7,8,45,46,54,63,73,91,117,128,141,144,149,161,186,190,197] hK ?_;clear hK K)|(with_reducible refine .done (hK _ ?_);clear hK K)|refine ae.of rfl ?_|(with_reducible refine aB.aE (fun h =>?_) (fun h =>?_) <;>try simp only[h])) <;>try simp only[aG,R,decide_false,simprocAttr])
  all_goals clear R
  refine ae.sub ?_ h;refine bx.df ?_ ?_ ?_ ?_ <;>simp[cw,cY,cH,cJ,aw,cq,dx,I.only,I.ct,aq.only,cA]
 ·have hm:hd s x=((s.bp[i]).to==x.other&&(s.bp[i]).aK==x.aK):=by simp only[hd,J,zz4 hi]
  have hx:(if 0>(i:Int) then 0 else (i:Int))=(i:Int):=if_neg (by omega);have hg2:decide ((i:Int)≥0)=true:=by simp
  have he:=fun A=>fb (A:=A) 4 hi rfl;rw[U] at hF2 h;rw[hm] at h;rcases q1:((s.bp[i]).to==x.other)
  ·rw[q1,Bool.false_and] at h;have R:=y6 @hg2 (y6 @hx (y6 @he (y6 @q1 (y6 @cu (y6 @bo aC)))))
   repeat' ((first |(with_reducible refine .guard (fun hb =>?_) (fun hb =>?_) <;>try simp only[hb])|refine ae.aF (by decide +kernel) rfl fun K hK =>?_|refine .flat _ (hF1) rfl ?_|refine .flat _ (hF2) rfl ?_|(refine .ay [0,1,2,3,4,5,6,7,8,45,46,54,63,73,91,117,128,141,144,149,161,186,190,197] hK ?_;clear hK K)|(with_reducible refine .done (hK _ ?_);clear hK K)|refine ae.of rfl ?_|(with_reducible refine aB.aE (fun h =>?_) (fun h =>?_) <;>try simp only[h])) <;>try simp only[aG,R,decide_true,simprocAttr])
   all_goals clear R
   refine ae.sub ?_ h;refine bx.df ?_ ?_ ?_ ?_ <;>simp[cw,cY,cH,cJ,aw,cq,dx,I.only,I.ct,aq.only,cA]
  ·rw[q1,Bool.true_and] at h;have R:=y6 @hg2 (y6 @hx (y6 @he (y6 @q1 (y6 @cu (y6 @bo aC)))))
   repeat' ((first |(with_reducible refine .guard (fun hb =>?_) (fun hb =>?_) <;>try simp only[hb])|refine ae.aF (by decide +kernel) rfl fun K hK =>?_|refine .flat _ (hF1) rfl ?_|refine .flat _ (hF2) rfl ?_|(refine .ay [0,1,2,3,4,5,6,7,8,45,46,54,63,73,91,117,128,141,144,149,161,186,190,197] hK ?_;clear hK K)|(with_reducible refine .done (hK _ ?_);clear hK K)|refine ae.of rfl ?_|(with_reducible refine aB.aE (fun h =>?_) (fun h =>?_) <;>try simp only[h])) <;>try simp only[aG,R,decide_true,simprocAttr])
   all_goals clear R
   refine ae.sub ?_ h;refine bx.df ?_ ?_ ?_ ?_ <;>simp[cw,cY,cH,cJ,aw,cq,dx,I.only,I.ct,aq.only,cA]
structure jJ (s:b8):Prop where
 ao:s.bp.length≤1000
 bK:s.here.length≤1000
 ab:s.bj.length≤1000
 aY:0≤s.dG
 J:s.dG≤1000
theorem fE(b:Bool):b=false∨b=true:=by cases b <;>simp
theorem Gl(s:b8)(x:bg)(ab:jJ s)(hk:x.kind=1):bd Tryz.prog 76 [enc s,enc x] (.tuple [enc (cL s x).1,enc (cL s x).2]):=by
 refine bd.b6 Tryz.func76 mC mD mE (u8 rfl) (fun hwf W0 bG E1 =>?_);simp only[lF,l7,bH,Z1];clear hwf;refine mZ _ _ s x ab.ao ?_;unfold kH;have hk1:(x.kind==1)=true:=by rw[hk];rfl
 have hF1:=uk s x.aK ab.ao;have hF2:=rX s.here x.aK ab.bK;rcases fE (decide (x.aK∈s.here)) with q | q
 ·rcases fE (iu s x.aK) with q2 | q2
  ·rw[show cL s x=({ s with here:=en s.here x.aK },true) by simp only[cL,hk,q,q2];rfl];have R:=y6 @hk1 (y6 @q (y6 @q2 (y6 @cu (y6 @bo aC))))
   repeat' ((first |(with_reducible refine .guard (fun hb =>?_) (fun hb =>?_) <;>try simp only[hb])|refine ae.aF (by decide +kernel) rfl fun K hK =>?_|refine .flat _ (hF1) rfl ?_|refine .lead _ (hF2) ?_|(refine .ay [0,1,2,3,4,5,6,7,8,45,46,54,63,73,91,117,128,141,144,149,161,186,190,197] hK ?_;clear hK K)|(with_reducible refine .done (hK _ ?_);clear hK K)|refine ae.of rfl ?_|(with_reducible refine aB.aE (fun h =>?_) (fun h =>?_) <;>try simp only[h])) <;>try simp only[aG,R,simprocAttr])
   all_goals clear R
  ·rw[show cL s x=(s,false) by simp only[cL,hk,q,q2];rfl];have R:=y6 @hk1 (y6 @q (y6 @q2 (y6 @cu (y6 @bo aC))))
   repeat' ((first |(with_reducible refine .guard (fun hb =>?_) (fun hb =>?_) <;>try simp only[hb])|refine ae.aF (by decide +kernel) rfl fun K hK =>?_|refine .flat _ (hF1) rfl ?_|refine .lead _ (hF2) ?_|(refine .ay [0,1,2,3,4,5,6,7,8,45,46,54,63,73,91,117,128,141,144,149,161,186,190,197] hK ?_;clear hK K)|(with_reducible refine .done (hK _ ?_);clear hK K)|refine ae.of rfl ?_|(with_reducible refine aB.aE (fun h =>?_) (fun h =>?_) <;>try simp only[h])) <;>try simp only[aG,R,simprocAttr])
   all_goals clear R
 ·rw[show cL s x=(s,false) by simp only[cL,hk,q];rfl];have R:=y6 @hk1 (y6 @q (y6 @cu (y6 @bo aC)))
  repeat' ((first |(with_reducible refine .guard (fun hb =>?_) (fun hb =>?_) <;>try simp only[hb])|refine ae.aF (by decide +kernel) rfl fun K hK =>?_|refine .flat _ (hF1) rfl ?_|refine .lead _ (hF2) ?_|(refine .ay [0,1,2,3,4,5,6,7,8,45,46,54,63,73,91,117,128,141,144,149,161,186,190,197] hK ?_;clear hK K)|(with_reducible refine .done (hK _ ?_);clear hK K)|refine ae.of rfl ?_|(with_reducible refine aB.aE (fun h =>?_) (fun h =>?_) <;>try simp only[h])) <;>try simp only[aG,R,simprocAttr])
  all_goals clear R
theorem Gm(s:b8)(x:bg)(ab:jJ s)(hk:x.kind=2):bd Tryz.prog 76 [enc s,enc x] (.tuple [enc (cL s x).1,enc (cL s x).2]):=by
 refine bd.b6 Tryz.func76 mC mD mE (u8 rfl) (fun hwf W0 bG E1 =>?_);simp only[lF,l7,bH,Z1];clear hwf;refine mZ _ _ s x ab.ao ?_;unfold kH;have hk1:(x.kind==1)=false:=by rw[hk];rfl
 have hk2:(x.kind==2)=true:=by rw[hk];rfl
 have hF2:=xT s.here x.aK ab.bK;rw[show cL s x=({ s with here:=gZ s.here x.aK },decide (x.aK∈s.here)) by simp only[cL,hk];rfl];have R:=y6 @hk1 (y6 @hk2 (y6 @cu (y6 @bo aC)))
 repeat' ((first |(with_reducible refine .guard (fun hb =>?_) (fun hb =>?_) <;>try simp only[hb])|refine ae.aF (by decide +kernel) rfl fun K hK =>?_|refine .lead _ (hF2) ?_|(refine .ay [0,1,2,3,4,5,6,7,8,45,46,54,63,73,91,117,128,141,144,149,161,186,190,197] hK ?_;clear hK K)|(with_reducible refine .done (hK _ ?_);clear hK K)|refine ae.of rfl ?_|(with_reducible refine aB.aE (fun h =>?_) (fun h =>?_) <;>try simp only[h])) <;>try simp only[aG,R,simprocAttr])
 all_goals clear R
theorem Gn(s:b8)(x:bg)(ab:jJ s)(hk:x.kind=3):bd Tryz.prog 76 [enc s,enc x] (.tuple [enc (cL s x).1,enc (cL s x).2]):=by
 refine bd.b6 Tryz.func76 mC mD mE (u8 rfl) (fun hwf W0 bG E1 =>?_);simp only[lF,l7,bH,Z1];clear hwf;refine mZ _ _ s x ab.ao ?_;unfold kH;have hk1:(x.kind==1)=false:=by rw[hk];rfl
 have hk2:(x.kind==2)=false:=by rw[hk];rfl
 have hk3:(x.kind==3)=true:=by rw[hk];rfl
 have hw:IntKind.i64.wrap (s.dG+1)=s.dG+1:=by have:=ab.aY;have:=ab.J;exact hZ _ (by omega) (by omega)
 have hF2:=xT s.here x.aK ab.bK;have e3:cL s x=if x.aK∉s.here∨x.other=s.ar∨x.no≠s.dG+1 then (s,false) else ({ s with here:=gZ s.here x.aK,dG:=x.no,bp:=s.bp++[⟨x.no,x.other,x.aK,false⟩] },true):=by simp only[cL,hk];rfl
 rcases fE (decide (x.aK∈s.here)) with q | q
 ·rw[e3,if_pos (.inl (of_decide_eq_false q))];have R:=y6 @hk1 (y6 @hk2 (y6 @hk3 (y6 @q (y6 @cu (y6 @bo aC)))))
  repeat' ((first |(with_reducible refine .guard (fun hb =>?_) (fun hb =>?_) <;>try simp only[hb])|refine ae.aF (by decide +kernel) rfl fun K hK =>?_|refine .lead _ (hF2) ?_|(refine .ay [0,1,2,3,4,5,6,7,8,45,46,54,63,73,91,117,128,141,144,149,161,186,190,197] hK ?_;clear hK K)|(with_reducible refine .done (hK _ ?_);clear hK K)|refine ae.of rfl ?_|(with_reducible refine aB.aE (fun h =>?_) (fun h =>?_) <;>try simp only[h])) <;>try simp only[aG,R,simprocAttr])
  all_goals clear R
 rcases fE (x.other==s.ar) with q2 | q2
 rotate_left
 ·rw[e3,if_pos (.inr (.inl (by simpa using q2)))];have R:=y6 @hk1 (y6 @hk2 (y6 @hk3 (y6 @q (y6 @q2 (y6 @cu (y6 @bo aC))))))
  repeat' ((first |(with_reducible refine .guard (fun hb =>?_) (fun hb =>?_) <;>try simp only[hb])|refine ae.aF (by decide +kernel) rfl fun K hK =>?_|refine .lead _ (hF2) ?_|(refine .ay [0,1,2,3,4,5,6,7,8,45,46,54,63,73,91,117,128,141,144,149,161,186,190,197] hK ?_;clear hK K)|(with_reducible refine .done (hK _ ?_);clear hK K)|refine ae.of rfl ?_|(with_reducible refine aB.aE (fun h =>?_) (fun h =>?_) <;>try simp only[h])) <;>try simp only[aG,R,simprocAttr])
  all_goals clear R
 rcases fE (x.no != s.dG+1) with q3 | q3
 rotate_left
 ·rw[e3,if_pos (.inr (.inr (by simpa using q3)))];have R:=y6 @hk1 (y6 @hk2 (y6 @hk3 (y6 @q (y6 @q2 (y6 @q3 (y6 @hw (y6 @cu (y6 @bo aC))))))))
  repeat' ((first |(with_reducible refine .guard (fun hb =>?_) (fun hb =>?_) <;>try simp only[hb])|refine ae.aF (by decide +kernel) rfl fun K hK =>?_|refine .lead _ (hF2) ?_|(refine .ay [0,1,2,3,4,5,6,7,8,45,46,54,63,73,91,117,128,141,144,149,161,186,190,197] hK ?_;clear hK K)|(with_reducible refine .done (hK _ ?_);clear hK K)|refine ae.of rfl ?_|(with_reducible refine aB.aE (fun h =>?_) (fun h =>?_) <;>try simp only[h])) <;>try simp only[aG,R,simprocAttr])
  all_goals clear R
 have J:x.aK∈s.here:=of_decide_eq_true q;have U:¬ x.other=s.ar:=by simpa using q2
 have ah:x.no=s.dG+1:=by simpa using q3
 rw[e3,if_neg (fun h=>h.elim (fun h=>h J) fun h=>h.elim U fun h=>h ah)];have ao:=ab.ao;obtain ⟨q0,hq0⟩:∃ q0:b8,q0 = { s with here:=gZ s.here x.aK,dG:=x.no } :=⟨_,rfl⟩
 have hr0:q0.bp=s.bp:=by rw[hq0]
 have R:=y6 @hk1 (y6 @hk2 (y6 @hk3 (y6 @q (y6 @q2 (y6 @q3 (y6 @hw (y6 @cu (y6 @bo aC))))))))
 repeat' ((first |(with_reducible refine .guard (fun hb =>?_) (fun hb =>?_) <;>try simp only[hb])|refine ae.aF (by decide +kernel) rfl fun K hK =>?_|refine .lead _ (hF2) ?_|(refine .ay [0,1,2,3,4,5,6,7,8,45,46,54,63,73,91,117,128,141,144,149,161,186,190,197] hK ?_;clear hK K)|(with_reducible refine .done (hK _ ?_);clear hK K)|refine ae.of rfl ?_|(with_reducible refine aB.aE (fun h =>?_) (fun h =>?_) <;>try simp only[h])) <;>try simp only[aG,R,simprocAttr])
 all_goals clear R
 rw[←hq0];refine ae.pG (gs:=vR) [] [(102,[])] [0,1,2,4,5,6,7,8,9,10,11,3,12,13,14] (by decide +kernel) (cU.of (by simp[fi,cq,pn,I.only])) fun K hK =>?_;have hbs:∀ y:dc,fm 4 (some [enc y])=some (enc [y]):=fun y=>iw 4 y rfl
 try simp only[eU,vR,zz6,zz7,zx6,vi,sr,jk,hbs,cu,aC,bF,simprocAttr]
 refine bN.gW pI rfl (lR _ []) rfl (by simp[hr0];omega) (by simp[maxLen,hr0];omega) fun v1 o1 g1 f1 =>?_
 try simp only[bF,simprocAttr]
 refine bN.gW pI rfl g1 (f1 114 (by decide)) (by simp[hr0];omega) (by simp[maxLen,hr0];omega) fun v2 o2 g2 f2 =>?_;have ho2:aj o2 2=some (.box (enc q0)):=(f2 2 (by decide)).trans (f1 2 (by decide));have ho4:aj o2 4=some (.box (.agg [.int .i64 0,.nils 1,.int .i64 0,.nils 4,.nils 4])):=(f2 4 (by decide)).trans (f1 4 (by decide));have ab:=xL (q:=q0) (jv g2);have ht:=tV (a:=q0.ar) (h:=q0.here) (s:=q0.dG) (jv g2) (wQ q0.bj);have hf:∀ ts os,aj os 105=aj o2 105→aj os 114=aj o2 114→bh true (av ts os) (gE q0.ar (enc q0.here) q0.dG v2 (enc q0.bj))=some (enc ({ s with here:=gZ s.here x.aK,dG:=x.no,bp:=s.bp++[⟨x.no,x.other,x.aK,false⟩] } : b8)):=fun ts os J U =>
  (tW (es:=q0.bj) (lQ rfl g2 (by intro m hm;simp only[zx3,List.not_mem_nil,or_false] at hm;rcases hm with rfl | rfl;exact U;exact J)) (by simp only[lJ])).trans (by rw[hq0];rfl)
 try simp only[ho2,ab,cu,aC,bF,simprocAttr]
 refine .done (hK _ ?_);clear hK K;have R:=y6 @ho4 (y6 @ht (y6 @hf (y6 @cu aC)))
 repeat' ((first |(with_reducible refine .guard (fun hb =>?_) (fun hb =>?_) <;>try simp only[hb])|refine ae.aF (by decide +kernel) rfl fun K hK =>?_|(refine .ay [0,1,2,3,4,5,6,7,8,45,46,54,63,73,91,117,128,141,144,149,161,186,190,197] hK ?_;clear hK K)|(with_reducible refine .done (hK _ ?_);clear hK K)|refine ae.of rfl ?_|(with_reducible refine aB.aE (fun h =>?_) (fun h =>?_) <;>try simp only[h])) <;>try simp only[aG,R,simprocAttr])
 all_goals clear R
theorem wA{s:b8}{x:bg}(h:hd s x=true):∃ i,∃ h:i<s.bp.length,jB s x.no=some i∧kv s x.no=(i:Int)∧atR s x=i∧oP s x=(s.bp[i]).dw:=by
 rcases EJ s x.no with ⟨J,U⟩ | ⟨i,hi,J,U,-⟩
 ·simp only[hd,J] at h;cases h
 ·exact ⟨i,hi,J,U,by simp only[atR,J];rfl,by simp only[oP,J,zz4 hi]⟩
theorem Cn{α β:Type}(e:α→β)(f:α→α):∀ (l:List α) (i:Nat) (h:i<l.length),(l.map e).set i (e (f l[i]))=(l.modify i f).map e
 |x::l,0,_=>rfl
 |x::l,i+1,h=>by
  have:=Cn e f l i (by simpa using h);simp only[Z4,List.set_cons_succ,List.modify_succ_cons,List.getElem_cons_succ,this]
theorem Zp{A:ai}{n i:Nat}{xs:List dc}{c v:Bool}{rest:List aH}(hi:i<xs.length):db A none n [i,3] (.agg (xs.map enc)) (.bool v) rest (some (.bool c))=az rest (A.aS n (.box (.agg ((xs.modify i fun r => { r with dw:=v }).map enc)))):=by
 rw[dE (s:=none) (v:=.bool v) (old:=.bool c) rfl rfl rfl];have U:(xs.map (enc (α:=dc)))[i]?=some (enc xs[i]):=by simp[hi]
 have ah:(enc xs[i]:I).ez [3] (.bool v)=enc ({ xs[i] with dw:=v } : dc):=rfl;have au:(xs.map (enc (α:=dc))).set i (enc ({ xs[i] with dw:=v } : dc))=(xs.modify i fun r => { r with dw:=v }).map enc:=Cn enc (fun r:dc => { r with dw:=v }) xs i hi;simp only[I.ez,U,ah,au]
theorem Hg{i:Nat}{xs:List dc}(hi:i<xs.length):mB i [3] (some (xs.map enc))=some (.bool (xs[i]).dw):=by
 simp only[mB,zz9,zz4 hi,Z8,oM];rfl
theorem Cx{α:Type}(f:α→α):∀ (l r:List α) (i:Nat),i<l.length→(l++r).modify i f=l.modify i f++r
 | [],_,_,h=>by simp at h
 |x::l,r,0,_=>rfl
 |x::l,r,i+1,h=>by
  have:=Cx f l r i (by simpa using h);simp only[Z7,List.modify_succ_cons,this]
theorem Gp(s:b8)(x:bg)(ab:jJ s)(hk:x.kind=4):bd Tryz.prog 76 [enc s,enc x] (.tuple [enc (cL s x).1,enc (cL s x).2]):=by
 refine bd.b6 Tryz.func76 mC mD mE (u8 rfl) (fun hwf W0 bG E1 =>?_);simp only[lF,l7,bH,Z1];clear hwf;refine mZ _ _ s x ab.ao ?_;unfold kH;have hk1:(x.kind==1)=false:=by rw[hk];rfl
 have hk2:(x.kind==2)=false:=by rw[hk];rfl
 have hk3:(x.kind==3)=false:=by rw[hk];rfl
 have hk4:(x.kind==4)=true:=by rw[hk];rfl
 rcases fE (hd s x) with q | q
 ·rw[show cL s x=(s,false) by simp only[cL,hk,q];rfl];have R:=y6 @hk1 (y6 @hk2 (y6 @hk3 (y6 @hk4 (y6 @q (y6 @cu (y6 @bo aC))))))
  repeat' ((first |(with_reducible refine .guard (fun hb =>?_) (fun hb =>?_) <;>try simp only[hb])|refine ae.aF (by decide +kernel) rfl fun K hK =>?_|(refine .ay [0,1,2,3,4,5,6,7,8,45,46,54,63,73,91,117,128,141,144,149,161,186,190,197] hK ?_;clear hK K)|(with_reducible refine .done (hK _ ?_);clear hK K)|refine ae.of rfl ?_|(with_reducible refine aB.aE (fun h =>?_) (fun h =>?_) <;>try simp only[h])) <;>try simp only[aG,R,simprocAttr])
  all_goals clear R
 ·obtain ⟨i,hi,J,U,ah,au⟩:=wA q;have he:=fun A=>fb (A:=A) 4 hi rfl;rcases fE (s.bp[i]).dw with q2 | q2
  rotate_left
  ·rw[show cL s x=(s,false) by simp only[cL,hk,q,au,q2];rfl];have R:=y6 @hk1 (y6 @hk2 (y6 @hk3 (y6 @hk4 (y6 @q (y6 @U (y6 @he (y6 @q2 (y6 @cu (y6 @bo aC)))))))))
   repeat' ((first |(with_reducible refine .guard (fun hb =>?_) (fun hb =>?_) <;>try simp only[hb])|refine ae.aF (by decide +kernel) rfl fun K hK =>?_|(refine .ay [0,1,2,3,4,5,6,7,8,45,46,54,63,73,91,117,128,141,144,149,161,186,190,197] hK ?_;clear hK K)|(with_reducible refine .done (hK _ ?_);clear hK K)|refine ae.of rfl ?_|(with_reducible refine aB.aE (fun h =>?_) (fun h =>?_) <;>try simp only[h])) <;>try simp only[aG,R,simprocAttr])
   all_goals clear R
  ·rw[show cL s x=({ s with bp:=s.bp.modify i fun r => { r with dw:=true } },true) by simp only[cL,hk,q,ah,au,q2];rfl];have R:=y6 @hk1 (y6 @hk2 (y6 @hk3 (y6 @hk4 (y6 @q (y6 @U (y6 @he (y6 @q2 (y6 @vi (y6 @jk (y6 @cu (y6 @bo aC)))))))))))
   repeat' ((first |(with_reducible refine .guard (fun hb =>?_) (fun hb =>?_) <;>try simp only[hb])|refine ae.aF (by decide +kernel) rfl fun K hK =>?_|(refine .ay [0,1,2,3,4,5,6,7,8,45,46,54,63,73,91,117,128,141,144,149,161,186,190,197] hK ?_;clear hK K)|(with_reducible refine .done (hK _ ?_);clear hK K)|refine ae.of rfl ?_|(with_reducible refine aB.aE (fun h =>?_) (fun h =>?_) <;>try simp only[h])) <;>try simp only[aG,R,simprocAttr])
   all_goals clear R
   have ao:=ab.ao;refine aR.gW pI rfl (lR _ []) rfl (by simp;omega) (by simp[maxLen];omega) fun v2 o2 g2 f2 =>?_;have hne:s.bp≠[]:=fun h=>by rw[h] at hi;simp at hi
   rw[zx6] at g2;rcases g2 with ⟨hz,_⟩ | ⟨n,qq,hn,rfl,hrow⟩
   ·exact absurd hz hne
   rw[zy3] at hn;subst hn;have ho2:aj o2 2=some (.box (enc s)):=f2 2 (by decide);have ho4:aj o2 4=some (.box (.agg [.int .i64 0,.nils 1,.int .i64 0,.nils 4,.nils 4])):=f2 4 (by decide);have hone:iW (.view 133 [] 4 0 s.bp.length):=⟨rfl,rfl,rfl,rfl⟩
   have hs3:=xL (q:=s) hone
   try simp only[ho2,hs3,cu,aC,bF,simprocAttr]
   have hof:∀ w,dD [.int .i64 s.ar,enc s.here,.int .i64 s.dG,.view 133 [] 4 0 s.bp.length,enc s.bj] 3 3 w=some w:=fun w=>jy (by simp) (by simp[I.sizes,I.size,kU,kd]);have hok:bY none (.view 133 [] 4 0 s.bp.length)=true:=rfl;have hi':i<(s.bp++qq).length:=by rw[Z6];omega
   have hv:∀ fs,mM 133 [] 4 0 s.bp.length 4 (i:Int) (some fs)=some (.ptr 133 [i]):=fun fs=>by
    have:=Wo (m:=133) (sz:=4) (lo:=0) (l:=s.bp.length) (i:=i) (fs:=fs) hi
    rwa [Z1] at this
   have hat:mB i [] (some ((s.bp++qq).map enc))=some (enc s.bp[i]):=by
    simp only[mB,zz9,zz5 hi,zz4 hi,Z8,oM,yq]
   have hat2:=Hg hi';have hst:=fun A rest c v=>Zp (A:=A) (n:=133) (rest:=rest) (c:=c) (v:=v) hi';simp only[Cx _ _ _ _ hi] at hst;have ht:=tV (a:=s.ar) (h:=s.here) (s:=s.dG) hone (wQ s.bj);have hf:∀ ts os,aj os 133=some (.box (.agg (((s.bp.modify i fun r => { r with dw:=true })++qq).map enc)))→bh true (av ts os) (gE s.ar (enc s.here) s.dG (.view 133 [] 4 0 s.bp.length) (enc s.bj))=some (enc ({ s with bp:=s.bp.modify i fun r => { r with dw:=true } } : b8)):=fun ts os J =>
    tW (rs:=s.bp.modify i fun r => { r with dw:=true }) (lQ (esz:=4) (S:=[133]) (os:=os) rfl (.inr ⟨133,qq,zy3.2 rfl,by rw[List.length_modify],J⟩) fun _ _=>rfl) (by simp only[lJ])
   have R:=y6 @hrow (y6 @hof (y6 @hv (y6 @hat (y6 @hat2 (y6 @hst (y6 @ho4 (y6 @ht (y6 @hf (y6 @hok (y6 @jk (y6 @cu (y6 @bo aC))))))))))))
   repeat' ((first |(with_reducible refine .guard (fun hb =>?_) (fun hb =>?_) <;>try simp only[hb])|refine ae.aF (by decide +kernel) rfl fun K hK =>?_|(refine .ay [0,1,2,3,4,5,6,7,8,45,46,54,63,73,91,117,128,141,144,149,161,186,190,197] hK ?_;clear hK K)|(with_reducible refine .done (hK _ ?_);clear hK K)|refine ae.of rfl ?_|(with_reducible refine aB.aE (fun h =>?_) (fun h =>?_) <;>try simp only[h])) <;>try simp only[aG,R,Z7,simprocAttr])
   all_goals clear R
theorem Gq(s:b8)(x:bg)(ab:jJ s)(hk:x.kind=5):bd Tryz.prog 76 [enc s,enc x] (.tuple [enc (cL s x).1,enc (cL s x).2]):=by
 refine bd.b6 Tryz.func76 mC mD mE (u8 rfl) (fun hwf W0 bG E1 =>?_);simp only[lF,l7,bH,Z1];clear hwf;refine mZ _ _ s x ab.ao ?_;unfold kH;have hk1:(x.kind==1)=false:=by rw[hk];rfl
 have hk2:(x.kind==2)=false:=by rw[hk];rfl
 have hk3:(x.kind==3)=false:=by rw[hk];rfl
 have hk4:(x.kind==4)=false:=by rw[hk];rfl
 have hk5:(x.kind==5)=true:=by rw[hk];rfl
 rcases fE (hd s x) with q | q
 ·rw[show cL s x=(s,false) by simp only[cL,hk,q];rfl];have R:=y6 @hk1 (y6 @hk2 (y6 @hk3 (y6 @hk4 (y6 @hk5 (y6 @q (y6 @cu (y6 @bo aC)))))))
  repeat' ((first |(with_reducible refine .guard (fun hb =>?_) (fun hb =>?_) <;>try simp only[hb])|refine ae.aF (by decide +kernel) rfl fun K hK =>?_|(refine .ay [0,1,2,3,4,5,6,7,8,45,46,54,63,73,91,117,128,141,144,149,161,186,190,197] hK ?_;clear hK K)|(with_reducible refine .done (hK _ ?_);clear hK K)|refine ae.of rfl ?_|(with_reducible refine aB.aE (fun h =>?_) (fun h =>?_) <;>try simp only[h])) <;>try simp only[aG,R,simprocAttr])
  all_goals clear R
 ·obtain ⟨i,hi,J,U,ah,au⟩:=wA q;rw[show cL s x=(ja s i,true) by simp only[cL,hk,q,ah];rfl];have hF:=xU s i hi ab.ao;have R:=y6 @hk1 (y6 @hk2 (y6 @hk3 (y6 @hk4 (y6 @hk5 (y6 @q (y6 @U (y6 @cu (y6 @bo aC))))))))
  repeat' ((first |(with_reducible refine .guard (fun hb =>?_) (fun hb =>?_) <;>try simp only[hb])|refine ae.aF (by decide +kernel) rfl fun K hK =>?_|refine .lead _ (hF) ?_|(refine .ay [0,1,2,3,4,5,6,7,8,45,46,54,63,73,91,117,128,141,144,149,161,186,190,197] hK ?_;clear hK K)|(with_reducible refine .done (hK _ ?_);clear hK K)|refine ae.of rfl ?_|(with_reducible refine aB.aE (fun h =>?_) (fun h =>?_) <;>try simp only[h])) <;>try simp only[aG,R,simprocAttr])
  all_goals clear R
theorem Gr(s:b8)(x:bg)(ab:jJ s)(hk:x.kind=6):bd Tryz.prog 76 [enc s,enc x] (.tuple [enc (cL s x).1,enc (cL s x).2]):=by
 refine bd.b6 Tryz.func76 mC mD mE (u8 rfl) (fun hwf W0 bG E1 =>?_);simp only[lF,l7,bH,Z1];clear hwf;refine mZ _ _ s x ab.ao ?_;unfold kH;have hk1:(x.kind==1)=false:=by rw[hk];rfl
 have hk2:(x.kind==2)=false:=by rw[hk];rfl
 have hk3:(x.kind==3)=false:=by rw[hk];rfl
 have hk4:(x.kind==4)=false:=by rw[hk];rfl
 have hk5:(x.kind==5)=false:=by rw[hk];rfl
 have hk6:(x.kind==6)=true:=by rw[hk];rfl
 rcases fE (hd s x) with q | q
 ·rw[show cL s x=(s,false) by simp only[cL,hk,q];rfl];have R:=y6 @hk1 (y6 @hk2 (y6 @hk3 (y6 @hk4 (y6 @hk5 (y6 @hk6 (y6 @q (y6 @cu (y6 @bo aC))))))))
  repeat' ((first |(with_reducible refine .guard (fun hb =>?_) (fun hb =>?_) <;>try simp only[hb])|refine ae.aF (by decide +kernel) rfl fun K hK =>?_|(refine .ay [0,1,2,3,4,5,6,7,8,45,46,54,63,73,91,117,128,141,144,149,161,186,190,197] hK ?_;clear hK K)|(with_reducible refine .done (hK _ ?_);clear hK K)|refine ae.of rfl ?_|(with_reducible refine aB.aE (fun h =>?_) (fun h =>?_) <;>try simp only[h])) <;>try simp only[aG,R,simprocAttr])
  all_goals clear R
 ·obtain ⟨i,hi,J,U,ah,au⟩:=wA q;have he:=fun A=>fb (A:=A) 4 hi rfl;rcases fE (s.bp[i]).dw with q2 | q2
  ·rw[show cL s x=(s,false) by simp only[cL,hk,q,au,q2];rfl];have R:=y6 @hk1 (y6 @hk2 (y6 @hk3 (y6 @hk4 (y6 @hk5 (y6 @hk6 (y6 @q (y6 @U (y6 @he (y6 @q2 (y6 @cu (y6 @bo aC)))))))))))
   repeat' ((first |(with_reducible refine .guard (fun hb =>?_) (fun hb =>?_) <;>try simp only[hb])|refine ae.aF (by decide +kernel) rfl fun K hK =>?_|(refine .ay [0,1,2,3,4,5,6,7,8,45,46,54,63,73,91,117,128,141,144,149,161,186,190,197] hK ?_;clear hK K)|(with_reducible refine .done (hK _ ?_);clear hK K)|refine ae.of rfl ?_|(with_reducible refine aB.aE (fun h =>?_) (fun h =>?_) <;>try simp only[h])) <;>try simp only[aG,R,simprocAttr])
   all_goals clear R
  ·rw[show cL s x=({ ja s i with here:=en s.here x.aK },true) by simp only[cL,hk,q,ah,au,q2];rfl];have hF:=xU s i hi ab.ao;have hF2:=rX s.here x.aK ab.bK;have R:=y6 @hk1 (y6 @hk2 (y6 @hk3 (y6 @hk4 (y6 @hk5 (y6 @hk6 (y6 @q (y6 @U (y6 @he (y6 @q2 (y6 @cu (y6 @bo aC)))))))))))
   repeat' ((first |(with_reducible refine .guard (fun hb =>?_) (fun hb =>?_) <;>try simp only[hb])|refine ae.aF (by decide +kernel) rfl fun K hK =>?_|refine .lead _ (hF) ?_|refine .lead _ (hF2) ?_|(refine .ay [0,1,2,3,4,5,6,7,8,45,46,54,63,73,91,117,128,141,144,149,161,186,190,197] hK ?_;clear hK K)|(with_reducible refine .done (hK _ ?_);clear hK K)|refine ae.of rfl ?_|(with_reducible refine aB.aE (fun h =>?_) (fun h =>?_) <;>try simp only[h])) <;>try simp only[aG,R,simprocAttr])
   all_goals clear R
theorem Gs(s:b8)(x:bg)(ab:jJ s)(hk:x.kind=7):bd Tryz.prog 76 [enc s,enc x] (.tuple [enc (cL s x).1,enc (cL s x).2]):=by
 refine bd.b6 Tryz.func76 mC mD mE (u8 rfl) (fun hwf W0 bG E1 =>?_);simp only[lF,l7,bH,Z1];clear hwf;refine mZ _ _ s x ab.ao ?_;unfold kH;have hk1:(x.kind==1)=false:=by simp;omega
 have hk2:(x.kind==2)=false:=by simp;omega
 have hk3:(x.kind==3)=false:=by simp;omega
 have hk4:(x.kind==4)=false:=by simp;omega
 have hk5:(x.kind==5)=false:=by simp;omega
 have hk6:(x.kind==6)=false:=by simp;omega
 have e1:cL s x=if x.other=s.ar∨je s x.other x.no≠0 then (s,false)
   else if x.kind=7 then if decide (x.aK∈s.here)||iu s x.aK then (s,false) else (ga { s with here:=en s.here x.aK } x,true)
   else (ga s x,true):=by
  unfold cL;rw[if_neg (by omega),if_neg (by omega),if_neg (by omega),if_neg (by omega),if_neg (by omega),if_neg (by omega)]
 have hF1:=x7 s x.other x.no ab.ab;have hF2:=uk s x.aK ab.ao;have hF3:=rX s.here x.aK ab.bK;rcases fE (x.other==s.ar) with q | q
 rotate_left
 ·rw[e1,if_pos (.inl (by simpa using q))];have R:=y6 @hk1 (y6 @hk2 (y6 @hk3 (y6 @hk4 (y6 @hk5 (y6 @hk6 (y6 @q (y6 @cu (y6 @bo aC))))))))
  repeat' ((first |(with_reducible refine .guard (fun hb =>?_) (fun hb =>?_) <;>try simp only[hb])|refine ae.aF (by decide +kernel) rfl fun K hK =>?_|(refine .ay [0,1,2,3,4,5,6,7,8,45,46,54,63,73,91,117,128,141,144,149,161,186,190,197] hK ?_;clear hK K)|(with_reducible refine .done (hK _ ?_);clear hK K)|refine ae.of rfl ?_|(with_reducible refine aB.aE (fun h =>?_) (fun h =>?_) <;>try simp only[h])) <;>try simp only[aG,R,simprocAttr])
  all_goals clear R
 rcases fE (je s x.other x.no != 0) with q2 | q2
 rotate_left
 ·rw[e1,if_pos (.inr (by simpa using q2))];have R:=y6 @hk1 (y6 @hk2 (y6 @hk3 (y6 @hk4 (y6 @hk5 (y6 @hk6 (y6 @q (y6 @q2 (y6 @cu (y6 @bo aC)))))))))
  repeat' ((first |(with_reducible refine .guard (fun hb =>?_) (fun hb =>?_) <;>try simp only[hb])|refine ae.aF (by decide +kernel) rfl fun K hK =>?_|refine .flat _ (hF1) rfl ?_|(refine .ay [0,1,2,3,4,5,6,7,8,45,46,54,63,73,91,117,128,141,144,149,161,186,190,197] hK ?_;clear hK K)|(with_reducible refine .done (hK _ ?_);clear hK K)|refine ae.of rfl ?_|(with_reducible refine aB.aE (fun h =>?_) (fun h =>?_) <;>try simp only[h])) <;>try simp only[aG,R,simprocAttr])
  all_goals clear R
 rw[e1,if_neg (fun h=>h.elim (by simpa using q) (by simpa using q2))];rw[if_pos hk];have hk7:(x.kind==7)=true:=by rw[hk];rfl
 rcases fE (decide (x.aK∈s.here)) with q3 | q3
 ·rcases fE (iu s x.aK) with q4 | q4
  ·rw[show (if (decide (x.aK∈s.here)||iu s x.aK)=true then ((s,false):b8×Bool) else (ga { s with here:=en s.here x.aK } x,true))=(ga { s with here:=en s.here x.aK } x,true) by rw[q3,q4];rfl];have hF4:=xV { s with here:=en s.here x.aK } x ab.ab;have R:=y6 @hk1 (y6 @hk2 (y6 @hk3 (y6 @hk4 (y6 @hk5 (y6 @hk6 (y6 @hk7 (y6 @q (y6 @q2 (y6 @q3 (y6 @q4 (y6 @cu (y6 @bo aC))))))))))))
   repeat' ((first |(with_reducible refine .guard (fun hb =>?_) (fun hb =>?_) <;>try simp only[hb])|refine ae.aF (by decide +kernel) rfl fun K hK =>?_|refine .flat _ (hF1) rfl ?_|refine .flat _ (hF2) rfl ?_|refine .lead _ (hF3) ?_|refine .lead _ (hF4) ?_|(refine .ay [0,1,2,3,4,5,6,7,8,45,46,54,63,73,91,117,128,141,144,149,161,186,190,197] hK ?_;clear hK K)|(with_reducible refine .done (hK _ ?_);clear hK K)|refine ae.of rfl ?_|(with_reducible refine aB.aE (fun h =>?_) (fun h =>?_) <;>try simp only[h])) <;>try simp only[aG,R,simprocAttr])
   all_goals clear R
  ·rw[show (if (decide (x.aK∈s.here)||iu s x.aK)=true then ((s,false):b8×Bool) else (ga { s with here:=en s.here x.aK } x,true))=(s,false) by rw[q3,q4];rfl];have R:=y6 @hk1 (y6 @hk2 (y6 @hk3 (y6 @hk4 (y6 @hk5 (y6 @hk6 (y6 @hk7 (y6 @q (y6 @q2 (y6 @q3 (y6 @q4 (y6 @cu (y6 @bo aC))))))))))))
   repeat' ((first |(with_reducible refine .guard (fun hb =>?_) (fun hb =>?_) <;>try simp only[hb])|refine ae.aF (by decide +kernel) rfl fun K hK =>?_|refine .flat _ (hF1) rfl ?_|refine .flat _ (hF2) rfl ?_|(refine .ay [0,1,2,3,4,5,6,7,8,45,46,54,63,73,91,117,128,141,144,149,161,186,190,197] hK ?_;clear hK K)|(with_reducible refine .done (hK _ ?_);clear hK K)|refine ae.of rfl ?_|(with_reducible refine aB.aE (fun h =>?_) (fun h =>?_) <;>try simp only[h])) <;>try simp only[aG,R,simprocAttr])
   all_goals clear R
 ·rw[show (if (decide (x.aK∈s.here)||iu s x.aK)=true then ((s,false):b8×Bool) else (ga { s with here:=en s.here x.aK } x,true))=(s,false) by rw[q3];rfl];have R:=y6 @hk1 (y6 @hk2 (y6 @hk3 (y6 @hk4 (y6 @hk5 (y6 @hk6 (y6 @hk7 (y6 @q (y6 @q2 (y6 @q3 (y6 @cu (y6 @bo aC)))))))))))
  repeat' ((first |(with_reducible refine .guard (fun hb =>?_) (fun hb =>?_) <;>try simp only[hb])|refine ae.aF (by decide +kernel) rfl fun K hK =>?_|refine .flat _ (hF1) rfl ?_|refine .flat _ (hF2) rfl ?_|(refine .ay [0,1,2,3,4,5,6,7,8,45,46,54,63,73,91,117,128,141,144,149,161,186,190,197] hK ?_;clear hK K)|(with_reducible refine .done (hK _ ?_);clear hK K)|refine ae.of rfl ?_|(with_reducible refine aB.aE (fun h =>?_) (fun h =>?_) <;>try simp only[h])) <;>try simp only[aG,R,simprocAttr])
  all_goals clear R
theorem Gt(s:b8)(x:bg)(ab:jJ s)(hk:8≤x.kind∨x.kind<1):bd Tryz.prog 76 [enc s,enc x] (.tuple [enc (cL s x).1,enc (cL s x).2]):=by
 refine bd.b6 Tryz.func76 mC mD mE (u8 rfl) (fun hwf W0 bG E1 =>?_);simp only[lF,l7,bH,Z1];clear hwf;refine mZ _ _ s x ab.ao ?_;unfold kH;have hk1:(x.kind==1)=false:=by simp;omega
 have hk2:(x.kind==2)=false:=by simp;omega
 have hk3:(x.kind==3)=false:=by simp;omega
 have hk4:(x.kind==4)=false:=by simp;omega
 have hk5:(x.kind==5)=false:=by simp;omega
 have hk6:(x.kind==6)=false:=by simp;omega
 have e1:cL s x=if x.other=s.ar∨je s x.other x.no≠0 then (s,false)
   else if x.kind=7 then if decide (x.aK∈s.here)||iu s x.aK then (s,false) else (ga { s with here:=en s.here x.aK } x,true)
   else (ga s x,true):=by
  unfold cL;rw[if_neg (by omega),if_neg (by omega),if_neg (by omega),if_neg (by omega),if_neg (by omega),if_neg (by omega)]
 have hF1:=x7 s x.other x.no ab.ab;have hF2:=uk s x.aK ab.ao;have hF3:=rX s.here x.aK ab.bK;rcases fE (x.other==s.ar) with q | q
 rotate_left
 ·rw[e1,if_pos (.inl (by simpa using q))];have R:=y6 @hk1 (y6 @hk2 (y6 @hk3 (y6 @hk4 (y6 @hk5 (y6 @hk6 (y6 @q (y6 @cu (y6 @bo aC))))))))
  repeat' ((first |(with_reducible refine .guard (fun hb =>?_) (fun hb =>?_) <;>try simp only[hb])|refine ae.aF (by decide +kernel) rfl fun K hK =>?_|(refine .ay [0,1,2,3,4,5,6,7,8,45,46,54,63,73,91,117,128,141,144,149,161,186,190,197] hK ?_;clear hK K)|(with_reducible refine .done (hK _ ?_);clear hK K)|refine ae.of rfl ?_|(with_reducible refine aB.aE (fun h =>?_) (fun h =>?_) <;>try simp only[h])) <;>try simp only[aG,R,simprocAttr])
  all_goals clear R
 rcases fE (je s x.other x.no != 0) with q2 | q2
 rotate_left
 ·rw[e1,if_pos (.inr (by simpa using q2))];have R:=y6 @hk1 (y6 @hk2 (y6 @hk3 (y6 @hk4 (y6 @hk5 (y6 @hk6 (y6 @q (y6 @q2 (y6 @cu (y6 @bo aC)))))))))
  repeat' ((first |(with_reducible refine .guard (fun hb =>?_) (fun hb =>?_) <;>try simp only[hb])|refine ae.aF (by decide +kernel) rfl fun K hK =>?_|refine .flat _ (hF1) rfl ?_|(refine .ay [0,1,2,3,4,5,6,7,8,45,46,54,63,73,91,117,128,141,144,149,161,186,190,197] hK ?_;clear hK K)|(with_reducible refine .done (hK _ ?_);clear hK K)|refine ae.of rfl ?_|(with_reducible refine aB.aE (fun h =>?_) (fun h =>?_) <;>try simp only[h])) <;>try simp only[aG,R,simprocAttr])
  all_goals clear R
 rw[e1,if_neg (fun h=>h.elim (by simpa using q) (by simpa using q2))];rw[if_neg (by omega)];have hk7:(x.kind==7)=false:=by simp;omega
 have hF4:=xV s x ab.ab;have R:=y6 @hk1 (y6 @hk2 (y6 @hk3 (y6 @hk4 (y6 @hk5 (y6 @hk6 (y6 @hk7 (y6 @q (y6 @q2 (y6 @cu (y6 @bo aC))))))))))
 repeat' ((first |(with_reducible refine .guard (fun hb =>?_) (fun hb =>?_) <;>try simp only[hb])|refine ae.aF (by decide +kernel) rfl fun K hK =>?_|refine .flat _ (hF1) rfl ?_|refine .lead _ (hF4) ?_|(refine .ay [0,1,2,3,4,5,6,7,8,45,46,54,63,73,91,117,128,141,144,149,161,186,190,197] hK ?_;clear hK K)|(with_reducible refine .done (hK _ ?_);clear hK K)|refine ae.of rfl ?_|(with_reducible refine aB.aE (fun h =>?_) (fun h =>?_) <;>try simp only[h])) <;>try simp only[aG,R,simprocAttr])
 all_goals clear R
theorem x5(s:b8)(x:bg)(ab:jJ s):bd Tryz.prog 76 [enc s,enc x] (.tuple [enc (cL s x).1,enc (cL s x).2]):=by
 by_cases J:x.kind=1;· exact Gl s x ab J
 by_cases U:x.kind=2;· exact Gm s x ab U
 by_cases ah:x.kind=3;· exact Gn s x ab ah
 by_cases au:x.kind=4;· exact Gp s x ab au
 by_cases h5:x.kind=5;· exact Gq s x ab h5
 by_cases h6:x.kind=6;· exact Gr s x ab h6
 by_cases h7:x.kind=7;· exact Gs s x ab h7
 exact Gt s x ab (by omega)
theorem C7:∀ (l:List Int) (n:Int),(en l n).length≤l.length+1
 | [],n=>by simp[en]
 |x::l,n=>by
  have:=C7 l n;simp only[en];split
  ·simp only[zx5];omega
  ·split <;>simp
theorem WJ(l:List Int)(n:Int):(gZ l n).length≤l.length:=List.length_filter_le _ _
theorem Mr(s:b8)(i:Nat):(ja s i).bp.length≤s.bp.length:=by
 simp only[ja,Z6,zy4,List.length_drop];omega
structure ir (s:b8) (i:Nat):Prop where
 ao:s.bp.length≤i
 bK:s.here.length≤i
 ab:s.bj.length≤i
 aY:0≤s.dG
 J:s.dG≤i
theorem ir.small{s:b8}{i:Nat}(h:ir s i)(hi:i≤1000):jJ s:=by
 obtain ⟨J,U,ah,au,h5⟩:=h;exact ⟨by omega,by omega,by omega,au,by omega⟩
theorem ir.next{s:b8}{i:Nat}(h:ir s i)(x:bg)(ht:(cL s x).2=true):ir (cL s x).1 (i+1):=by
 obtain ⟨J,U,ah,au,h5⟩:=h;have hp:=C7 s.here x.aK;have hq:=WJ s.here x.aK;have he:=Mr s (atR s x);have hm:(s.bp.modify (atR s x) fun r => { r with dw:=true }).length=s.bp.length:=List.length_modify ..;have e1:(ja s (atR s x)).here=s.here:=rfl;have e2:(ja s (atR s x)).bj=s.bj:=rfl;have e3:(ja s (atR s x)).dG=s.dG:=rfl;unfold cL at ht ⊢;split at ht
 ·rename_i hk;rw[if_pos hk];split at ht
  ·cases ht
  ·rename_i h;rw[if_neg h];exact ⟨by simp only;omega,by simp only;omega,by simp only;omega,au,by simp only;omega⟩
 rename_i hk;rw[if_neg hk];clear hk;split at ht
 ·rename_i hk;rw[if_pos hk];exact ⟨by simp only;omega,by simp only;omega,by simp only;omega,au,by simp only;omega⟩
 rename_i hk;rw[if_neg hk];clear hk;split at ht
 ·rename_i hk;rw[if_pos hk];split at ht
  ·cases ht
  ·rename_i h;rw[if_neg h];have:x.no=s.dG+1:=Classical.byContradiction fun hn=>h (.inr (.inr hn));exact ⟨by simp only[Z6,zx1];omega,by simp only;omega,by simp only;omega,by simp only;omega,by simp only;omega⟩
 rename_i hk;rw[if_neg hk];clear hk;split at ht
 ·rename_i hk;rw[if_pos hk];split at ht
  ·rename_i h;rw[if_pos h];exact ⟨by simp only[List.length_modify];omega,by simp only;omega,by simp only;omega,au,by simp only;omega⟩
  ·cases ht
 rename_i hk;rw[if_neg hk];clear hk;split at ht
 ·rename_i hk;rw[if_pos hk];split at ht
  ·rename_i h;rw[if_pos h];exact ⟨by simp only;omega,by simp only[e1];omega,by simp only[e2];omega,by simp only[e3];omega,by simp only[e3];omega⟩
  ·cases ht
 rename_i hk;rw[if_neg hk];clear hk;split at ht
 ·rename_i hk;rw[if_pos hk];split at ht
  ·rename_i h;rw[if_pos h];exact ⟨by simp only;omega,by simp only;omega,by simp only[e2];omega,by simp only[e3];omega,by simp only[e3];omega⟩
  ·cases ht
 rename_i hk;rw[if_neg hk];clear hk;split at ht
 ·cases ht
 rename_i hk;rw[if_neg hk];clear hk;split at ht
 ·rename_i hk;rw[if_pos hk];split at ht
  ·cases ht
  ·rename_i h;rw[if_neg h];exact ⟨by simp only[ga];omega,by simp only[ga];omega,by simp only[ga,Z6,zx1];omega,au,by simp only[ga];omega⟩
 ·rename_i hk;rw[if_neg hk];exact ⟨by simp only[ga];omega,by simp only[ga];omega,by simp only[ga,Z6,zx1];omega,au,by simp only[ga];omega⟩
def eC(s:b8):List bg→b8×Bool
 | []=>(s,true)
 |x::l=>if gA x then (if (cL s x).2 then eC (cL s x).1 l else (s,false)) else (s,false)
def gb(ar:Int):b8:=⟨ar,[],0,[],[]⟩
def rG(ar:Int):I:=.agg [.int .i64 ar,.nils 1,.int .i64 0,.nils 4,.nils 4]
theorem HO(ar:Int):(dT [.int .i64 0,.nils 1,.int .i64 0,.nils 4,.nils 4] [(0,.int .i64 ar)]).map I.agg=some (rG ar):=by simp[dT,I.bR,I.size];rfl
def rU(b:I)(s:b8):Prop:=(b=rG s.ar∧s=gb s.ar)∨b=enc s
theorem rU.AR{b:I}{s:b8}(h:rU b s):bY (some 5) b=true∧(∀ aN A,bh aN A b=some (enc s))∧(∀ A n rest (q:b8),db A (some 5) n [] b (enc q) rest (some b)=az rest (A.aS n (.box (enc q))))∧(∀ A n rest x y,db A (some 5) n [] (.agg [.int .i64 x,.nils 1,.int .i64 y,.nils 4,.nils 4]) b rest (some (.agg [.int .i64 x,.nils 1,.int .i64 y,.nils 4,.nils 4]))=az rest (A.aS n (.box b)))∧b.bR=true∧(∀ p,b.only p=true):=by
 rcases h with ⟨rfl,U⟩ | rfl
 ·refine ⟨rfl,fun aN A =>?_,fun A n rest q =>?_,fun A n rest x y=>dE rfl rfl rfl,rfl,fun _=>rfl⟩
  ·rw[U];simp only[rG,bh,b7];rfl
  ·rw[dE (eh _) (by rw[fh];rfl) ((eI _).trans rfl),ot]
 ·refine ⟨by rw[fh];rfl,fun aN A=>by simp only[lJ],fun A n rest q =>?_,fun A n rest x y =>?_,eh _,fun _=>cA _ _⟩
  ·rw[dE (eh _) (by rw[fh];rfl) ((eI _).trans (eI _).symm),ot]
  ·rw[dE (eh _) (by rw[fh];rfl) (eI _),ot]
def uz(p:bu)(n:Nat)(t:Nat×I×b8):ai:=av [(0,enc p),(1,.int .i64 n),(2,.ptr 2 []),(4,.ptr 4 []),(5,.bool false),(6,.ptr 6 []),(7,.int .i64 t.1)] [(6,.box t.2.1),(4,.box (.agg [.int .i64 0,.nils 1,.int .i64 0,.nils 4,.nils 4])),(2,.box (enc p))]
theorem uq(p:bu)(n:Nat)(hn:n≤p.j.length)(ao:n≤200):bd Tryz.prog 65 [enc p,enc (n:Int)] (.tuple [enc (eC (gb p.ar) (p.j.take n)).1,enc (eC (gb p.ar) (p.j.take n)).2]):=by
 refine bd.b6 Tryz.func65 ID JH KZ (u8 rfl) (fun hwf W0 bG E1 =>?_);simp only[zm,DX,bH,Z1];clear hwf;generalize hL:p.j.take n=L;have hLl:L.length=n:=by rw[←hL,zy4];omega
 obtain ⟨z1,z2,z3,z4,z5,z6⟩:=rU.AR (b:=rG p.ar) (s:=gb p.ar) (.inl ⟨rfl,rfl⟩);have R:=y6 @HO (y6 @z4 (y6 @cu (y6 @dI (y6 @bo aC))))
 repeat' ((first |refine ae.aF (by decide +kernel) rfl fun K hK =>?_|(refine .ay [0,1,2,4,5,6,7,8,9,15,24,37] hK ?_;clear hK K)|(with_reducible refine .done (hK _ ?_);clear hK K)|refine ae.of rfl ?_|(with_reducible refine aB.aE (fun h =>?_) (fun h =>?_) <;>try simp only[h])) <;>try simp only[aG,R,simprocAttr])
 all_goals clear R
 refine ae.loop (uz p n) (fun t=>t.1≤n∧eC (gb p.ar) L=eC t.2.2 (L.drop t.1)∧ir t.2.2 t.1∧rU t.2.1 t.2.2) (fun t=>n-t.1) (0,rG p.ar,gb p.ar) ⟨zy9 _,rfl,⟨zy9 _,zy9 _,zy9 _,Int.le_refl _,Int.le_refl _⟩,.inl ⟨rfl,rfl⟩⟩ ?_ ?_
 ·simp only[uz];clear z1 z2 z3 z4 z5 hL;refine bx.df ?_ ?_ ?_ ?_ <;>simp[*,cw,cY,cH,cJ,aw,cq,dx,I.only,I.ct,aq.only,cA]
 clear z1 z2 z3 z4 z5 z6;rintro ⟨i,b,s⟩ ⟨hi,hr,hu,hb0⟩;simp only at hi hr hu hb0;obtain ⟨z1,z2,z3,z4,z5,z6⟩:=hb0.AR;simp only[uz];by_cases hlt:i<n
 ·have hc:=gx hlt;have hij:i<p.j.length:=by omega
  have he:=fun A=>fb (A:=A) 4 hij rfl;have hw:=gq (i:=i) (by omega);have hx:L.drop i=p.j[i]::L.drop (i+1):=by
   have U:i<L.length:=by omega
   rw[List.drop_eq_getElem_cons U]
   congr 1
   subst hL;rw[List.getElem_take]
  rw[hx] at hr;obtain ⟨x,hxe⟩:∃ x,x=p.j[i]:=⟨_,rfl⟩
  rw[←hxe] at he hr;have hF1:=F1 x;have hF2:=x5 s x (hu.small (by omega));rcases fE (gA x) with q | q
  ·rw[hr,show eC s (x::L.drop (i+1))=(s,false) by simp only[eC,q];rfl];rw[q] at hF1;have R:=y6 @hc (y6 @he (y6 @z1 (y6 @z2 (y6 @z4 (y6 @cu (y6 @dI (y6 @bo aC)))))))
   repeat' ((first |refine ae.aF (by decide +kernel) rfl fun K hK =>?_|refine .flat _ (hF1) rfl ?_|(refine .ay [0,1,2,4,5,6,7,8,9,15,24,37] hK ?_;clear hK K)|(with_reducible refine .done (hK _ ?_);clear hK K)|refine ae.of rfl ?_|(with_reducible refine aB.aE (fun h =>?_) (fun h =>?_) <;>try simp only[h])) <;>try simp only[aG,R,simprocAttr])
   all_goals clear R
  ·rw[q] at hF1;rcases fE (cL s x).2 with q2 | q2
   ·rw[hr,show eC s (x::L.drop (i+1))=(s,false) by simp only[eC,q,q2];rfl];rw[q2] at hF2;have R:=y6 @hc (y6 @he (y6 @z1 (y6 @z2 (y6 @z4 (y6 @cu (y6 @dI (y6 @bo aC)))))))
    repeat' ((first |refine ae.aF (by decide +kernel) rfl fun K hK =>?_|refine .flat _ (hF1) rfl ?_|refine .lead _ (hF2) ?_|(refine .ay [0,1,2,4,5,6,7,8,9,15,24,37] hK ?_;clear hK K)|(with_reducible refine .done (hK _ ?_);clear hK K)|refine ae.of rfl ?_|(with_reducible refine aB.aE (fun h =>?_) (fun h =>?_) <;>try simp only[h])) <;>try simp only[aG,R,simprocAttr])
    all_goals clear R
   ·have hu':=hu.next x q2
    have hr':eC (gb p.ar) L=eC (cL s x).1 (L.drop (i+1)):=by rw[hr];simp only[eC,q,q2,if_true]
    rw[q2] at hF2;have R:=y6 @hc (y6 @he (y6 @hw (y6 @z1 (y6 @z2 (y6 @z3 (y6 @cu (y6 @dI (y6 @bo aC))))))))
    repeat' ((first |refine ae.aF (by decide +kernel) rfl fun K hK =>?_|refine .flat _ (hF1) rfl ?_|refine .lead _ (hF2) ?_|(refine .ay [0,1,2,4,5,6,7,8,9,15,24,37] hK ?_;clear hK K)|(with_reducible refine .done (hK _ ?_);clear hK K)|refine ae.of rfl ?_|(with_reducible refine aB.aE (fun h =>?_) (fun h =>?_) <;>try simp only[h])) <;>try simp only[aG,R,simprocAttr])
    all_goals clear R
    refine ⟨(i+1,enc (cL s x).1,(cL s x).1),⟨by simp only;omega,hr',hu',.inr rfl⟩,by simp only;omega,?_⟩;simp only;clear hr hr' z1 z2 z3 z4 z5 z6;refine bx.df ?_ ?_ ?_ ?_ <;>simp[cw,cY,cH,cJ,aw,cq,dx,I.only,I.ct,aq.only,cA]
 ·have hc:=gL hlt;have af:L.drop i=[]:=List.drop_eq_nil_of_le (by omega);rw[hr,af,show eC s []=(s,true) from rfl];have R:=y6 @hc (y6 @z1 (y6 @z2 (y6 @z4 (y6 @cu (y6 @dI (y6 @bo aC))))))
  repeat' ((first |refine ae.aF (by decide +kernel) rfl fun K hK =>?_|(refine .ay [0,1,2,4,5,6,7,8,9,15,24,37] hK ?_;clear hK K)|(with_reducible refine .done (hK _ ?_);clear hK K)|refine ae.of rfl ?_|(with_reducible refine aB.aE (fun h =>?_) (fun h =>?_) <;>try simp only[h])) <;>try simp only[aG,R,simprocAttr])
  all_goals clear R
def mS(p:bu):b8:=(eC (gb p.ar) p.j).1
theorem Gk(p:bu)(ao:p.j.length≤200):bd Tryz.prog 75 [enc p] (enc (mS p)):=by
 refine bd.b6 Tryz.func75 IM JQ K8 (u8 rfl) (fun hwf W0 bG E1 =>?_);simp only[zx,Ea,bH];clear hwf;have hF:=uq p p.j.length (Z3 _) ao;rw[zw1] at hF;simp only[mS];have R:=y6 @cu (y6 @dI aC)
 repeat' ((first |refine ae.aF (by decide +kernel) rfl fun K hK =>?_|refine .lead _ (hF) ?_|(refine .ay [0,1,2,3] hK ?_;clear hK K)|(with_reducible refine .done (hK _ ?_);clear hK K)|refine ae.of rfl ?_|(with_reducible refine aB.aE (fun h =>?_) (fun h =>?_) <;>try simp only[h])) <;>try simp only[aG,R,simprocAttr])
 all_goals clear R
def fM(p:bu):Int:=if c4 0 5 p.ar=true∧p.j.length≤200∧c4 0 p.j.length p.cE=true∧(eC (gb p.ar) p.j).2=true then 0 else 91
theorem r2(p:bu):bd Tryz.prog 24 [enc p] (enc (fM p)):=by
 refine bd.b6 Tryz.func24 Il Jr KJ (u8 rfl) (fun hwf W0 bG E1 =>?_);simp only[y7,DI,bH];clear hwf;have hF1:=uo p.ar;have hF2:=r3 p.cE 0 p.j.length;rcases fE (c4 0 5 p.ar) with q | q
 ·rw[show fM p=91 from if_neg fun h=>by rw[q] at h;cases h.1];rw[q] at hF1;have R:=y6 @cu (y6 @dI aC)
  repeat' ((first |(with_reducible refine .guard (fun hb =>?_) (fun hb =>?_) <;>try simp only[hb])|refine ae.aF (by decide +kernel) rfl fun K hK =>?_|refine .flat _ (hF1) rfl ?_|(refine .ay [0,1,2,4,23,33] hK ?_;clear hK K)|(with_reducible refine .done (hK _ ?_);clear hK K)|refine ae.of rfl ?_|(with_reducible refine aB.aE (fun h =>?_) (fun h =>?_) <;>try simp only[h])) <;>try simp only[aG,R,simprocAttr])
  all_goals clear R
 rw[q] at hF1;rcases fE (decide ((p.j.length:Int)>200)) with q2 | q2
 rotate_left
 ·rw[show fM p=91 from if_neg fun h=>by have:=h.2.1;have:=of_decide_eq_true q2;omega];have R:=y6 @q2 (y6 @cu (y6 @dI aC))
  repeat' ((first |(with_reducible refine .guard (fun hb =>?_) (fun hb =>?_) <;>try simp only[hb])|refine ae.aF (by decide +kernel) rfl fun K hK =>?_|refine .flat _ (hF1) rfl ?_|(refine .ay [0,1,2,4,23,33] hK ?_;clear hK K)|(with_reducible refine .done (hK _ ?_);clear hK K)|refine ae.of rfl ?_|(with_reducible refine aB.aE (fun h =>?_) (fun h =>?_) <;>try simp only[h])) <;>try simp only[aG,R,simprocAttr])
  all_goals clear R
 have U:p.j.length≤200:=by have:=of_decide_eq_false q2;omega
 rcases fE (c4 0 p.j.length p.cE) with q3 | q3
 ·rw[show fM p=91 from if_neg fun h=>by rw[q3] at h;cases h.2.2.1];rw[q3] at hF2;have R:=y6 @q2 (y6 @cu (y6 @dI aC))
  repeat' ((first |(with_reducible refine .guard (fun hb =>?_) (fun hb =>?_) <;>try simp only[hb])|refine ae.aF (by decide +kernel) rfl fun K hK =>?_|refine .flat _ (hF1) rfl ?_|refine .flat _ (hF2) rfl ?_|(refine .ay [0,1,2,4,23,33] hK ?_;clear hK K)|(with_reducible refine .done (hK _ ?_);clear hK K)|refine ae.of rfl ?_|(with_reducible refine aB.aE (fun h =>?_) (fun h =>?_) <;>try simp only[h])) <;>try simp only[aG,R,simprocAttr])
  all_goals clear R
 rw[q3] at hF2;have hF:=uq p p.j.length (Z3 _) U;rw[zw1] at hF;rcases fE (eC (gb p.ar) p.j).2 with q4 | q4
 ·rw[show fM p=91 from if_neg fun h=>by rw[q4] at h;cases h.2.2.2];rw[q4] at hF;have R:=y6 @q2 (y6 @cu (y6 @dI aC))
  repeat' ((first |(with_reducible refine .guard (fun hb =>?_) (fun hb =>?_) <;>try simp only[hb])|refine ae.aF (by decide +kernel) rfl fun K hK =>?_|refine .flat _ (hF1) rfl ?_|refine .flat _ (hF2) rfl ?_|refine .lead _ (hF) ?_|(refine .ay [0,1,2,4,23,33] hK ?_;clear hK K)|(with_reducible refine .done (hK _ ?_);clear hK K)|refine ae.of rfl ?_|(with_reducible refine aB.aE (fun h =>?_) (fun h =>?_) <;>try simp only[h])) <;>try simp only[aG,R,simprocAttr])
  all_goals clear R
 ·rw[show fM p=0 from if_pos ⟨q,U,q3,q4⟩];rw[q4] at hF;have R:=y6 @q2 (y6 @cu (y6 @dI aC))
  repeat' ((first |(with_reducible refine .guard (fun hb =>?_) (fun hb =>?_) <;>try simp only[hb])|refine ae.aF (by decide +kernel) rfl fun K hK =>?_|refine .flat _ (hF1) rfl ?_|refine .flat _ (hF2) rfl ?_|refine .lead _ (hF) ?_|(refine .ay [0,1,2,4,23,33] hK ?_;clear hK K)|(with_reducible refine .done (hK _ ?_);clear hK K)|refine ae.of rfl ?_|(with_reducible refine aB.aE (fun h =>?_) (fun h =>?_) <;>try simp only[h])) <;>try simp only[aG,R,simprocAttr])
  all_goals clear R
def jm(p:bu)(b:Int):Int:=if fM p=0 then (if c4 1 9999 b then 0 else 1) else 91
theorem Gj(p:bu)(b:Int):bd Tryz.prog 74 [enc p,enc b] (enc (jm p b)):=by
 refine bd.b6 Tryz.func74 IL JP K7 (u8 rfl) (fun hwf W0 bG E1 =>?_);simp only[zw,D9,bH,Z1];clear hwf;have hF1:=r2 p;have hF2:=x3 b;by_cases h:fM p=0
 ·rw[h] at hF1;rcases fE (c4 1 9999 b) with q | q
  ·rw[show jm p b=1 by simp only[jm,h,q];rfl];rw[q] at hF2;have R:=y6 @dI aC
   repeat' ((first |refine ae.aF (by decide +kernel) rfl fun K hK =>?_|refine .flat _ (hF1) rfl ?_|refine .flat _ (hF2) rfl ?_|(refine .ay [0,1,2,4,5,9,13] hK ?_;clear hK K)|(with_reducible refine .done (hK _ ?_);clear hK K)|refine ae.of rfl ?_|(with_reducible refine aB.aE (fun h =>?_) (fun h =>?_) <;>try simp only[h])) <;>try simp only[aG,R,simprocAttr])
   all_goals clear R
  ·rw[show jm p b=0 by simp only[jm,h,q];rfl];rw[q] at hF2;have R:=y6 @dI aC
   repeat' ((first |refine ae.aF (by decide +kernel) rfl fun K hK =>?_|refine .flat _ (hF1) rfl ?_|refine .flat _ (hF2) rfl ?_|(refine .ay [0,1,2,4,5,9,13] hK ?_;clear hK K)|(with_reducible refine .done (hK _ ?_);clear hK K)|refine ae.of rfl ?_|(with_reducible refine aB.aE (fun h =>?_) (fun h =>?_) <;>try simp only[h])) <;>try simp only[aG,R,simprocAttr])
   all_goals clear R
 ·have J:fM p=91:=by simp only[fM] at h ⊢;split <;>simp_all
  rw[show jm p b=91 by simp only[jm,if_neg h]];rw[J] at hF1;have R:=y6 @dI aC
  repeat' ((first |refine ae.aF (by decide +kernel) rfl fun K hK =>?_|refine .flat _ (hF1) rfl ?_|(refine .ay [0,1,2,4,5,9,13] hK ?_;clear hK K)|(with_reducible refine .done (hK _ ?_);clear hK K)|refine ae.of rfl ?_|(with_reducible refine aB.aE (fun h =>?_) (fun h =>?_) <;>try simp only[h])) <;>try simp only[aG,R,simprocAttr])
  all_goals clear R
end Go.Proofs.YthbdbocionnfgaaGreatDoor
namespace Go.Proofs.YthbdbocionnfgaaGreatDoor
open Go Go.Abs
theorem Cs(l:List Int)(n b:Int):b∈en l n↔b=n∨b∈l:=by
 induction l with
 |nil=>simp[en]
 |cons x l ih =>
  simp only[en];split
  ·simp only[zx3,ih];constructor
   ·rintro (h | h | h) <;>simp[h]
   ·rintro (h | h | h) <;>simp[h]
  ·split
   ·rename_i h;subst h;simp
   ·simp
theorem YB{l:List Int}(h:l.Pairwise (· < ·))(n:Int):(en l n).Pairwise (· < ·):=by
 induction l with
 |nil=>simp[en]
 |cons x l ih =>
  obtain ⟨J,U⟩:=List.pairwise_cons.1 h;simp only[en];split
  ·refine List.pairwise_cons.2 ⟨fun a ha =>?_,ih U⟩;rcases (Cs l n a).1 ha with rfl | ha
   ·assumption
   ·exact J a ha
  ·split
   ·exact h
   ·refine List.pairwise_cons.2 ⟨fun a ha =>?_,h⟩;rcases zx3.1 ha with rfl | ha
    ·omega
    ·have:=J a ha;omega
theorem WY(l:List Int)(n b:Int):b∈gZ l n↔b∈l∧b≠n:=by simp[gZ]
theorem WK{l:List Int}(h:l.Pairwise (· < ·))(n:Int):(gZ l n).Pairwise (· < ·):=h.filter _
def lr(x:bg):fW:=⟨x.kind,x.other,x.no,x.aK⟩
structure dB (s:aD) (t:b8):Prop where
 ar:t.ar=s.ar
 here:∀ b,b∈t.here↔b∈s.here
 pN:t.here.Pairwise (· < ·)
 dG:t.dG=s.all.length
 bp:t.bp=s.bp
 bj:t.bj=s.bj.map lr
 nO:∀ x∈s.bj,x.kind≠0
 no:∀ i,i<s.all.length→(s.b9 i).no=(i:Int)+1
 cB:s.aQ.Pairwise (· < ·)
 ok:cC s
theorem dB.zero(ar:Int):dB (eM ar) (gb ar):=⟨rfl,fun b=>by simp[eM,gb],by simp[gb],rfl,rfl,rfl,fun x hx=>by simp[eM] at hx,fun i hi=>by simp[eM] at hi,by simp[eM],kj ar⟩
theorem dB.L3{s:aD}{t:b8}(h:dB s t)(b:Int):decide (b∈t.here)=decide (b∈s.here):=by simp only[h.here]
theorem dB.Hj{s:aD}{t:b8}(h:dB s t)(b:Int):iu t b=s.eV b:=by simp only[iu,aD.eV,h.bp]
theorem dB.Wv{s:aD}{t:b8}(h:dB s t)(x:bg):(je t x.other x.no≠0)↔eQ x∈s.dp:=by
 have hk:=h.nO;simp only[je,h.bj,aD.dp];revert hk;generalize s.bj=l;intro hk
 induction l with
 |nil=>simp
 |cons y l ih =>
  have ih':=ih fun z hz=>hk z (List.mem_cons_of_mem _ hz);simp only[Z4,List.find?_cons,zx3];by_cases e:(lr y).cQ=x.other∧(lr y).no=x.no
  ·rw[decide_eq_true e];simp only;have e2:eQ x=eQ y:=by
    simp only[lr] at e;simp only[eQ,e.1,e.2]
   exact ⟨fun _=>.inl e2,fun _=>hk y List.mem_cons_self⟩
  ·rw[decide_eq_false e];refine Iff.trans ih' ?_;constructor
   ·exact .inr
   ·rintro (h | h)
    ·exfalso;apply e
     simp only[eQ,mz.mk.injEq] at h;simp only[lr,h.1,h.2,and_self]
    ·exact h
theorem dB.ZG{s:aD}{t:b8}(h:dB s t)(x:bg):(s.unknown x=true)↔¬ (x.other=t.ar∨je t x.other x.no≠0):=by
 rw[h.Wv,h.ar];simp only[aD.unknown,t8,bne_iff_ne,ne_eq,Bool.not_eq_true',decide_eq_false_iff_not,not_or]
theorem dB.bH{s:aD}{t:b8}(h:dB s t)(no:Int):(s.at no=none∧jB t no=none)∨∃ k,∃ hk:k<s.aQ.length,s.at no=some s.aQ[k]∧jB t no=some k:=by
 have hno:∀ i∈s.aQ,(s.b9 i).no=(i:Int)+1:=fun i hi=>h.no i (h.ok.cB i hi);simp only[aD.at,jB,h.bp,aD.bp];revert hno;generalize s.aQ=l;intro hno
 induction l with
 |nil=>exact .inl ⟨rfl,rfl⟩
 |cons i l ih =>
  have hi:=hno i List.mem_cons_self;simp only[List.find?_cons,Z4,List.findIdx?_cons,hi];by_cases e:no=(i:Int)+1
  ·exact .inr ⟨0,by simp,by simp[e],by simp[e]⟩
  ·have e':¬ (i:Int)+1=no:=fun h=>e h.symm;rw[decide_eq_false e,decide_eq_false e'];rcases ih fun j hj=>hno j (List.mem_cons_of_mem _ hj) with ⟨J,U⟩ | ⟨k,hk,J,U⟩
   ·exact .inl ⟨J,by simp[U]⟩
   ·exact .inr ⟨k+1,by simpa using hk,by simpa using J,by simp[U]⟩
theorem dB.h4{s:aD}{t:b8}(h:dB s t)(x:bg):(s.on x=none∧hd t x=false)∨∃ k,∃ hk:k<s.aQ.length,s.on x=some s.aQ[k]∧hd t x=true∧atR t x=k∧oP t x=(s.b9 s.aQ[k]).dw:=by
 rcases h.bH x.no with ⟨J,U⟩ | ⟨k,hk,J,U⟩
 ·exact .inl ⟨by simp only[aD.on,J],by simp only[hd,U]⟩
 ·have hr:t.bp[k]?=some (s.b9 s.aQ[k]):=by rw[h.bp,aD.bp,zz9,zz4 hk];rfl
  by_cases e:(s.b9 s.aQ[k]).to=x.other∧(s.b9 s.aQ[k]).aK=x.aK
  ·exact .inr ⟨k,hk,by simp only[aD.on,J,if_pos e],by simp[hd,U,hr,e.1,e.2],by simp[atR,U],by simp[oP,U,hr]⟩
  ·refine .inl ⟨by simp only[aD.on,J,if_neg e],?_⟩;simp only[hd,U,hr,Bool.and_eq_false_iff,beq_eq_false_iff_ne,ne_eq];by_cases e1:(s.b9 s.aQ[k]).to=x.other
   ·exact .inr fun e2=>e ⟨e1,e2⟩
   ·exact .inl e1
theorem Mw{l:List Nat}(h:l.Nodup)(k:Nat)(hk:k<l.length):l.erase l[k]=l.take k++l.drop (k+1):=by
 induction l generalizing k with
 |nil=>simp at hk
 |cons x l ih =>
  cases k with
  |zero=>simp
  |succ k =>
   obtain ⟨J,U⟩:=List.nodup_cons.1 h;have hk':k<l.length:=by simpa using hk
   have:¬ x=l[k]:=fun e=>J (e▸List.getElem_mem hk');simp only[List.getElem_cons_succ,zy5,List.drop_succ_cons,Z7];rw[List.erase_cons_tail (by simpa using this),ih U k hk']
theorem WX(l:List Int)(n b:Int):b∈gI l n↔b=n∨b∈l:=by
 unfold gI;split
 ·constructor
  ·exact .inr
  ·rintro (rfl | h)
   ·assumption
   ·exact h
 ·simp only[zy7,zy3];exact Or.comm
theorem Y3{s:aD}(ab:cC s)(r:dc)(h:List Int):({ s with here:=h,all:=s.all++[r],aQ:=s.aQ++[s.all.length] } : aD).bp=s.bp++[r]:=by
 simp only[aD.bp,zz2,Z4,zy6,aD.b9]
 congr 1
 ·refine List.map_congr_left fun i hi =>?_
  show (s.all++[r]).getD i default=s.all.getD i default
  simp only[Z0,zz5 (ab.cB i hi)]
 ·simp
theorem Y4{s:aD}(ab:cC s){k:Nat}(hk:k<s.aQ.length):({ s with all:=s.all.set s.aQ[k] { s.b9 s.aQ[k] with dw:=true } } : aD).bp=s.bp.modify k fun r => { r with dw:=true } :=by
 have ao:=ab.cB;have hn:=ab.iJ;refine List.ext_getElem (by simp[aD.bp]) fun j J U =>?_;have hj:j<s.aQ.length:=by simpa[aD.bp] using J
 rw[List.getElem_modify];simp only[aD.bp,List.getElem_map,aD.b9,Z0];by_cases e:k=j
 ·subst e;rw[if_pos rfl,List.getElem?_set_self (ao _ (List.getElem_mem hk))];rfl
 ·have hne:s.aQ[k]≠s.aQ[j]:=fun e'=>e ((List.getElem_inj hn).1 e');rw[if_neg e,List.getElem?_set_ne hne]
theorem dB.AG{s:aD}{t:b8}(h:dB s t){k:Nat}(hk:k<s.aQ.length):dB { s with aQ:=s.aQ.erase s.aQ[k] } (ja t k):=by
 have hr:(ja t k).bp=({ s with aQ:=s.aQ.erase s.aQ[k] } : aD).bp:=by
  simp only[ja,h.bp,aD.bp,Mw h.ok.iJ k hk,zz2,List.map_take,List.map_drop];rfl
 exact ⟨h.ar,h.here,h.pN,h.dG,hr,h.bj,h.nO,h.no,h.cB.sublist List.erase_sublist,⟨fun i hi=>h.ok.cB i (List.mem_of_mem_erase hi),h.ok.iJ.erase _,h.ok.af⟩⟩
theorem dB.put{s:aD}{t:b8}(h:dB s t)(b:Int):dB { s with here:=gI s.here b } { t with here:=en t.here b } :=
 ⟨h.ar,fun c=>by simp only[Cs,WX,h.here],YB h.pN b,h.dG,h.bp,h.bj,h.nO,h.no,h.cB,⟨h.ok.cB,h.ok.iJ,ny h.ok.af⟩⟩
theorem dB.nQ{s:aD}{t:b8}(h:dB s t)(b:Int):dB { s with here:=s.here.erase b } { t with here:=gZ t.here b } :=
 ⟨h.ar,fun c=>by simp only[WY,h.here,h.ok.af.mem_erase_iff];exact And.comm,WK h.pN b,h.dG,h.bp,h.bj,h.nO,h.no,h.cB,⟨h.ok.cB,h.ok.iJ,h.ok.af.erase _⟩⟩
theorem dB.E5{s:aD}{t:b8}(h:dB s t){x:bg}(hx:x.kind≠0):dB { s with bj:=s.bj++[x] } (ga t x) :=
 ⟨h.ar,h.here,h.pN,h.dG,h.bp,by simp only[ga,h.bj,zz2];rfl,fun y hy=>by
  rcases zy7.1 hy with hy | hy
  ·exact h.nO y hy
  ·rw[zy3.1 hy];exact hx,h.no,h.cB,⟨h.ok.cB,h.ok.iJ,h.ok.af⟩⟩
theorem dB.step{s:aD}{t:b8}(h:dB s t){x:bg}(hx:gA x=true):match ed s x with
  |some s'=>(cL t x).2=true∧dB s' (cL t x).1
  |none=>(cL t x).2=false:=by
 have hk:1≤x.kind∧x.kind≤8:=by
  simp only[gA] at hx;split at hx
  ·omega
  ·split at hx
   ·omega
   ·cases hx
 have hb:=h.here x.aK;have af:=h.L3 x.aK;have ha:=h.Hj x.aK;simp only[ed,cL,af,ha];by_cases k1:x.kind=1
 ·simp only[if_pos k1];by_cases c:x.aK∈s.here∨s.eV x.aK=true
  ·have c2:(decide (x.aK∈s.here)||s.eV x.aK)=true:=by simpa using c
   simp only[if_pos c,if_pos c2]
  ·have c2:¬ (decide (x.aK∈s.here)||s.eV x.aK)=true:=by simpa using c
   simp only[if_neg c,if_neg c2];exact ⟨trivial,h.put _⟩
 simp only[if_neg k1];by_cases k2:x.kind=2
 ·simp only[if_pos k2];by_cases c:x.aK∈s.here
  ·simp only[if_pos c,decide_eq_true c];exact ⟨trivial,h.nQ _⟩
  ·simp only[if_neg c,decide_eq_false c]
 simp only[if_neg k2];by_cases k3:x.kind=3
 ·simp only[if_pos k3];by_cases c:x.aK∈s.here∧x.other≠s.ar∧x.no=(s.all.length:Int)+1
  ·have c2:¬ (x.aK∉t.here∨x.other=t.ar∨x.no≠t.dG+1):=by
    rw[hb,h.ar,h.dG];rintro (c' | c' | c')
    ·exact c' c.1
    ·exact c.2.1 c'
    ·exact c' c.2.2
   simp only[if_pos c,if_neg c2];have ao:=h.nQ x.aK;refine ⟨trivial,h.ar,ao.here,ao.pN,by simp only[Z6,zx1,c.2.2];omega,?_,h.bj,h.nO,fun i hi =>?_,?_,?_⟩
   ·rw[Y3 h.ok,h.bp]
   ·simp only[Z6,zx1] at hi;by_cases e:i<s.all.length
    ·have:=h.no i e;rw[←this];simp only[aD.b9,Z0,zz5 e]
    ·have e2:i=s.all.length:=by omega
     subst e2;simp only[aD.b9,Z0];simp[c.2.2]
   ·refine List.pairwise_append.2 ⟨h.cB,by simp,fun a ha b hb =>?_⟩;rw[zy3.1 hb];exact h.ok.cB a ha
   ·have hn:ed s x=some { s with here:=s.here.erase x.aK,all:=s.all++[⟨x.no,x.other,x.aK,false⟩],aQ:=s.aQ++[s.all.length] } :=by
     simp only[ed,if_neg k1,if_neg k2,if_pos k3,if_pos c]
    exact (h.ok.next hn).1
  ·have c2:x.aK∉t.here∨x.other=t.ar∨x.no≠t.dG+1:=by
    rw[hb,h.ar,h.dG];by_cases c1:x.aK∈s.here
    ·by_cases c3:x.other=s.ar
     ·exact .inr (.inl c3)
     ·exact .inr (.inr fun e=>c ⟨c1,c3,e⟩)
    ·exact .inl c1
   simp only[if_neg c,if_pos c2]
 simp only[if_neg k3];by_cases k4:x.kind=4
 ·simp only[if_pos k4];rcases h.h4 x with ⟨J,U⟩ | ⟨k,hk',J,U,ah,au⟩
  ·simp only[J,U];rfl
  ·simp only[J,U,ah,au];rcases Bool.eq_false_or_eq_true (s.b9 s.aQ[k]).dw with c | c
   ·rw[c];rfl
   ·rw[c];refine ⟨rfl,h.ar,h.here,h.pN,h.dG.trans (by simp),?_,h.bj,h.nO,fun i hi =>?_,h.cB,?_⟩
    ·show t.bp.modify k _=_
     rw[Y4 h.ok hk',h.bp]
    ·have hi':i<s.all.length:=by simpa using hi
     simp only[aD.b9,Z0,List.getElem?_set];split
     ·rename_i e;rw[if_pos (e▸hi')];simp only[Option.getD_some,e];have:=h.no i hi';simpa only[aD.b9,Z0] using this
     ·have:=h.no i hi';simpa only[aD.b9,Z0] using this
    ·have hn:ed s x=some { s with all:=s.all.set s.aQ[k] { s.b9 s.aQ[k] with dw:=true } } :=by
      simp only[ed,if_neg k1,if_neg k2,if_neg k3,if_pos k4,J,c];rfl
     exact (h.ok.next hn).1
 simp only[if_neg k4];by_cases k5:x.kind=5
 ·simp only[if_pos k5];rcases h.h4 x with ⟨J,U⟩ | ⟨k,hk',J,U,ah,au⟩
  ·simp only[J,U];rfl
  ·simp only[J,U,ah];exact ⟨rfl,h.AG hk'⟩
 simp only[if_neg k5];by_cases k6:x.kind=6
 ·simp only[if_pos k6];rcases h.h4 x with ⟨J,U⟩ | ⟨k,hk',J,U,ah,au⟩
  ·simp only[J,U];rfl
  ·simp only[J,U,ah,au];rcases Bool.eq_false_or_eq_true (s.b9 s.aQ[k]).dw with c | c
   ·rw[c];exact ⟨rfl,(h.AG hk').put x.aK⟩
   ·rw[c];rfl
 simp only[if_neg k6];have hu:=h.ZG x;by_cases c:x.other=t.ar∨je t x.other x.no≠0
 ·have hu':¬ s.unknown x=true:=fun bK=>hu.1 bK c;simp only[if_pos c];by_cases k7:x.kind=7
  ·rw[if_pos k7,if_neg fun bK=>hu' bK.1];trivial
  ·rw[if_neg k7,if_pos (by omega),if_neg hu'];trivial
 ·have hu':s.unknown x=true:=hu.2 c;simp only[if_neg c];by_cases k7:x.kind=7
  ·simp only[if_pos k7];by_cases c2:(decide (x.aK∈s.here)||s.eV x.aK)=true
   ·have hn:¬ (s.unknown x=true∧x.aK∉s.here∧s.eV x.aK=false):=fun bK=>by
     simp only[Bool.or_eq_true,decide_eq_true_eq] at c2;rcases c2 with c2 | c2
     ·exact bK.2.1 c2
     ·rw[bK.2.2] at c2;cases c2
    simp only[if_pos c2,if_neg hn]
   ·have c3:=c2;simp only[Bool.or_eq_true,decide_eq_true_eq,not_or,Bool.not_eq_true] at c3;have hn:s.unknown x=true∧x.aK∉s.here∧s.eV x.aK=false:=⟨hu',c3.1,c3.2⟩
    simp only[if_neg c2,if_pos hn];exact ⟨trivial,(h.put x.aK).E5 (by omega)⟩
  ·simp only[if_neg k7];rw[if_pos (by omega),if_pos hu'];exact ⟨trivial,h.E5 (by omega)⟩
theorem dB.run:∀ (l:List bg) {s:aD} {t:b8},dB s t→match fI s l with
  |some s'=>(eC t l).2=true∧dB s' (eC t l).1
  |none=>(eC t l).2=false
 | [],s,t,h=>⟨rfl,h⟩
 |x::l,s,t,h=>by
  simp only[fI,eC,gp];by_cases hx:gA x=true
  ·have ab:=h.step hx;rw[if_pos hx,if_pos hx];cases hn:ed s x with
   |none=>rw[hn] at ab;simp only at ab ⊢;rw[ab];rfl
   |some s' =>
    rw[hn] at ab;simp only at ab ⊢;rw[ab.1,if_pos rfl];exact dB.run l ab.2
  ·rw[if_neg hx,if_neg hx]
theorem X4(p:bu):match dn p with
  |some s=>fM p=0∧dB s (mS p)
  |none=>fM p=91:=by
 have hr:=dB.run p.j (dB.zero p.ar);simp only[dn,fC,fM];by_cases hk:ic p=true
 ·have hk':=hk;simp only[ic,t8,decide_eq_true_eq] at hk';rw[if_pos hk];cases hq:fI (eM p.ar) p.j with
  |none=>rw[hq] at hr;simp only at hr ⊢;rw[if_neg fun h=>by rw[hr] at h;cases h.2.2.2]
  |some s=>rw[hq] at hr;exact ⟨if_pos ⟨hk'.1,hk'.2.1,hk'.2.2,hr.1⟩,hr.2⟩
 ·rw[if_neg hk];refine if_neg fun h=>hk ?_;simp only[ic,t8,decide_eq_true_eq];exact ⟨h.1,h.2.1,h.2.2.1⟩
end Go.Proofs.YthbdbocionnfgaaGreatDoor
namespace Go.Proofs.YthbdbocionnfgaaGreatDoor
open Go Go.Abs
open Go.Abs.Enc (enc)
theorem xr:∀ (l:List bg) {s:b8} {i:Nat},ir s i→(eC s l).2=true→ir (eC s l).1 (i+l.length)
 | [],s,i,h,_=>h
 |x::l,s,i,h,hr=>by
  simp only[eC] at hr ⊢;split at hr
  ·split at hr
   ·rename_i J U;rw[if_pos J,if_pos U];have:=xr l (h.next x U) hr;rw[zx5,show i+(l.length+1)=i+1+l.length by omega];exact this
   ·cases hr
  ·cases hr
theorem Fb(ar:Int):ir (gb ar) 0:=⟨Z3 _,Z3 _,Z3 _,Int.le_refl _,Int.le_refl _⟩
theorem sy{p:bu}(h:fM p=0):c4 0 5 p.ar=true∧p.j.length≤200∧c4 0 p.j.length p.cE=true∧(eC (gb p.ar) p.j).2=true:=by
 simp only[fM] at h;split at h
 ·assumption
 ·cases h
theorem Xd{p:bu}(h:fM p=0):jJ (mS p)∧ir (mS p) p.j.length:=by
 obtain ⟨_,U,_,au⟩:=sy h;have:=xr p.j (Fb p.ar) au;rw[Z1] at this;exact ⟨this.small (by omega),this⟩
theorem both(p:bu):(dn p=none∧fM p=91)∨∃ s,dn p=some s∧fM p=0∧dB s (mS p)∧jJ (mS p)∧p.j.length≤200:=by
 have h:=X4 p;cases ho:dn p with
 |none=>rw[ho] at h;exact .inl ⟨rfl,h⟩
 |some s=>rw[ho] at h;exact .inr ⟨s,rfl,h.1,h.2,(Xd h.1).1,(sy h.1).2.1⟩
theorem pO(A:ai)(n:Nat)(b:I)(q:bg)(x y z w:Int)(rest:List aH):db A (some 4) n [] b (enc q) rest (some (.agg [.int .i64 x,.int .i64 y,.int .i64 z,.int .i64 w]))=az rest (A.aS n (.box (enc q))):=dE (eh _) (by rw[fh];rfl) (eI _)
theorem ZQ(p:bu)(b:Int):bd Tryz.prog 28 [enc p,enc b] (.tuple [enc (jd p b).1,enc (jd p b).2]):=by
 refine bd.b6 Tryz.func28 Io Jt KL (u8 rfl) (fun hwf W0 bG E1 =>?_);simp only[y9,DK,bH,Z1];clear hwf;have hF1:=Gj p b;rcases both p with ⟨ho,hc⟩ | ⟨s,ho,hc,hr,ab,ao⟩
 ·rw[show jm p b=91 by simp only[jm,hc];rfl] at hF1;rw[show jd p b=(fB,91) by simp only[jd,ho]];have R:=y6 @cn (y6 @bo aC)
  repeat' ((first |refine ae.aF (by decide +kernel) rfl fun K hK =>?_|refine .flat _ (hF1) rfl ?_|(refine .ay [0,1,2,4,5,6,7,9,14,27] hK ?_;clear hK K)|(with_reducible refine .done (hK _ ?_);clear hK K)|refine ae.of rfl ?_|(with_reducible refine aB.aE (fun h =>?_) (fun h =>?_) <;>try simp only[h])) <;>try simp only[aG,R,simprocAttr])
  all_goals clear R
  rfl
 rcases fE (c4 1 9999 b) with q | q
 ·rw[show jm p b=1 by simp only[jm,hc,q];rfl] at hF1;rw[show jd p b=(fB,1) by simp only[jd,ho,q,if_true]];have R:=y6 @cn (y6 @bo aC)
  repeat' ((first |refine ae.aF (by decide +kernel) rfl fun K hK =>?_|refine .flat _ (hF1) rfl ?_|(refine .ay [0,1,2,4,5,6,7,9,14,27] hK ?_;clear hK K)|(with_reducible refine .done (hK _ ?_);clear hK K)|refine ae.of rfl ?_|(with_reducible refine aB.aE (fun h =>?_) (fun h =>?_) <;>try simp only[h])) <;>try simp only[aG,R,simprocAttr])
  all_goals clear R
  rfl
 rw[show jm p b=0 by simp only[jm,hc,q];rfl] at hF1;have hF2:=Gk p ao;have hF3:=x5 (mS p) ⟨1,b,0,0⟩ ab;have hst:=hr.step (x:=⟨1,b,0,0⟩) (by simp only[gA,q];rfl);by_cases c:b∈s.here∨s.eV b=true
 ·rw[show ed s ⟨1,b,0,0⟩=none by simp only[ed,if_true,if_pos c]] at hst;simp only at hst;rw[hst] at hF3;rw[show jd p b=(fB,92) by simp only[jd,ho,q,Bool.true_eq_false,if_false,if_pos c]];have R:=y6 @sq (y6 @pO (y6 @cu (y6 @cn (y6 @bo aC))))
  repeat' ((first |refine ae.aF (by decide +kernel) rfl fun K hK =>?_|refine .flat _ (hF1) rfl ?_|refine .lead _ (hF2) ?_|refine .lead _ (hF3) ?_|(refine .ay [0,1,2,4,5,6,7,9,14,27] hK ?_;clear hK K)|(with_reducible refine .done (hK _ ?_);clear hK K)|refine ae.of rfl ?_|(with_reducible refine aB.aE (fun h =>?_) (fun h =>?_) <;>try simp only[h])) <;>try simp only[aG,R,simprocAttr])
  all_goals clear R
  rfl
 ·rw[show ed s ⟨1,b,0,0⟩=some { s with here:=gI s.here b } by simp only[ed,if_true,if_neg c]] at hst;simp only at hst;rw[hst.1] at hF3;rw[show jd p b=gF p ⟨1,b,0,0⟩ by simp only[jd,ho,q,Bool.true_eq_false,if_false,if_neg c]];have hF4:=Gu p ⟨1,b,0,0⟩ ao;have R:=y6 @sq (y6 @pO (y6 @cu (y6 @cn (y6 @bo aC))))
  repeat' ((first |refine ae.aF (by decide +kernel) rfl fun K hK =>?_|refine .flat _ (hF1) rfl ?_|refine .lead _ (hF2) ?_|refine .lead _ (hF3) ?_|refine .lead _ (hF4) ?_|(refine .ay [0,1,2,4,5,6,7,9,14,27] hK ?_;clear hK K)|(with_reducible refine .done (hK _ ?_);clear hK K)|refine ae.of rfl ?_|(with_reducible refine aB.aE (fun h =>?_) (fun h =>?_) <;>try simp only[h])) <;>try simp only[aG,R,simprocAttr])
  all_goals clear R
theorem FD(p:bu):bd Tryz.prog 11 [enc p] (.tuple [enc (j5 p).1,enc (j5 p).2]):=by
 refine bd.b6 Tryz.func11 H4 Jb Kj (u8 rfl) (fun hwf W0 bG E1 =>?_);simp only[yL,Df,bH];clear hwf;have hF1:=r2 p;rcases both p with ⟨ho,hc⟩ | ⟨s,ho,hc,hr,ab,ao⟩
 ·rw[hc] at hF1;rw[show j5 p=(fB,91) by simp only[j5,ho]];have R:=y6 @cn (y6 @bo aC)
  repeat' ((first |refine ae.aF (by decide +kernel) rfl fun K hK =>?_|refine .flat _ (hF1) rfl ?_|(refine .ay [0,1,2,3,4,8] hK ?_;clear hK K)|(with_reducible refine .done (hK _ ?_);clear hK K)|refine ae.of rfl ?_|(with_reducible refine aB.aE (fun h =>?_) (fun h =>?_) <;>try simp only[h])) <;>try simp only[aG,R,simprocAttr])
  all_goals clear R
  rfl
 rw[hc] at hF1;rw[show j5 p=(⟨p.ar,p.j,p.j.length⟩,0) by simp only[j5,ho]];have hF2:=Gb p (by omega);have R:=y6 @xK (y6 @cn (y6 @bo aC))
 repeat' ((first |refine ae.aF (by decide +kernel) rfl fun K hK =>?_|refine .flat _ (hF1) rfl ?_|refine .lead _ (hF2) ?_|(refine .ay [0,1,2,3,4,8] hK ?_;clear hK K)|(with_reducible refine .done (hK _ ?_);clear hK K)|refine ae.of rfl ?_|(with_reducible refine aB.aE (fun h =>?_) (fun h =>?_) <;>try simp only[h])) <;>try simp only[aG,R,simprocAttr])
 all_goals clear R
theorem Gd(a b:Int)(hb:0<b)(U:b≤1000):bd Tryz.prog 60 [enc a,enc b] (enc ((a.tmod b+b).tmod b)):=by
 refine bd.b6 Tryz.func60 Iz JD KV (u8 rfl) (fun hwf W0 bG E1 =>?_);simp only[zi,DT,bH,Z1];clear hwf;have hm0:(b=0)=False:=by simp;omega
 have J:=rM a b hb;have hw:IntKind.i64.wrap (a.tmod b+b)=a.tmod b+b:=hZ _ (by omega) (by omega);have R:=y6 @hm0 (y6 @hw aC)
 repeat' ((first |refine ae.aF (by decide +kernel) rfl fun K hK =>?_|(refine .ay [0,1,4] hK ?_;clear hK K)|(with_reducible refine .done (hK _ ?_);clear hK K)|refine ae.of rfl ?_|(with_reducible refine aB.aE (fun h =>?_) (fun h =>?_) <;>try simp only[h])) <;>try simp only[aG,R,simprocAttr])
 all_goals clear R
theorem FQ(p:bu)(dj:Int):bd Tryz.prog 13 [enc p,enc dj] (.tuple [enc (lH p dj).1,enc (lH p dj).2]):=by
 refine bd.b6 Tryz.func13 Ia Jh Ku (u8 rfl) (fun hwf W0 bG E1 =>?_);simp only[yR,Ds,bH,Z1];clear hwf;have hF1:=r2 p;rcases both p with ⟨ho,hc⟩ | ⟨s,ho,hc,hr,ab,ao⟩
 ·rw[hc] at hF1;rw[show lH p dj=(fB,91) by simp only[lH,ho]];have R:=y6 @cn (y6 @bo aC)
  repeat' ((first |refine ae.aF (by decide +kernel) rfl fun K hK =>?_|refine .flat _ (hF1) rfl ?_|(refine .ay [0,1,2,4,5,6,7,11] hK ?_;clear hK K)|(with_reducible refine .done (hK _ ?_);clear hK K)|refine ae.of rfl ?_|(with_reducible refine aB.aE (fun h =>?_) (fun h =>?_) <;>try simp only[h])) <;>try simp only[aG,R,simprocAttr])
  all_goals clear R
  rfl
 rw[hc] at hF1;rw[show lH p dj=(⟨p.ar,p.j.take (iB p dj).toNat,iB p dj⟩,0) by simp only[lH,ho]];obtain ⟨k1,k2,k3,k4,k5⟩:=Ay ho dj;obtain ⟨m,hm⟩:∃ m:Int,m=p.j.length-p.cE+1:=⟨_,rfl⟩
 have hF2:=Gd dj m (by omega) (by omega);have hw1:IntKind.i64.wrap ((p.j.length:Int)-p.cE)=(p.j.length:Int)-p.cE:=hZ _ (by omega) (by omega);have hw2:IntKind.i64.wrap ((p.j.length:Int)-p.cE+1)=m:=by rw[hZ _ (by omega) (by omega),hm]
 have hk:iB p dj=p.cE+(dj.tmod m+m).tmod m:=by simp only[iB,hm]
 have hw4:IntKind.i64.wrap (p.cE+(dj.tmod m+m).tmod m)=iB p dj:=by rw[←hk];exact hZ _ (by omega) (by omega)
 generalize iB p dj=k at *;have hkn:k=(k.toNat:Int):=by omega
 have hsl:∀ A,ji A 4 none (some (.int .i64 k)) none (enc p.j)=some (enc (p.j.take k.toNat)):=fun A=>by
  have:=rE (A:=A) (α:=bg) 4 (l:=p.j) (i:=k.toNat) (by omega) rfl;rw[←hkn] at this;exact this
 have R:=y6 @hw1 (y6 @hw2 (y6 @hw4 (y6 @hsl (y6 @mF (y6 @jk (y6 @cn (y6 @bo aC)))))))
 repeat' ((first |refine ae.aF (by decide +kernel) rfl fun K hK =>?_|refine .flat _ (hF1) rfl ?_|refine .flat _ (hF2) rfl ?_|(refine .ay [0,1,2,4,5,6,7,11] hK ?_;clear hK K)|(with_reducible refine .done (hK _ ?_);clear hK K)|refine ae.of rfl ?_|(with_reducible refine aB.aE (fun h =>?_) (fun h =>?_) <;>try simp only[h])) <;>try simp only[aG,R,Option.map_none,simprocAttr])
 all_goals clear R
 have htl:(p.j.take k.toNat).length≤200:=by rw[zy4];omega
 refine aR.gW gm rfl (lR _ []) rfl (by simp;omega) (by simp[maxLen];omega) fun v2 o2 g2 f2 =>?_;have ho2:aj o2 2=some (.box (enc p)):=f2 2 (by decide);have ho4:aj o2 4=some (.box (.agg [.int .i64 0,.nils 4,.int .i64 0])):=f2 4 (by decide);have hs3:=w0 (q:=p) (jv g2);have ht:=w4 (q:=⟨p.ar,p.j,k⟩) (jv g2);have hst:∀ A rest u,db A none 2 [2] (dN p v2) (.int .i64 k) rest (some (.int .i64 u))=az rest (A.aS 2 (.box (dN ⟨p.ar,p.j,k⟩ v2))):=fun A rest u=>dE rfl rfl rfl;have hof:∀ w,dD [.int .i64 p.ar,v2,.int .i64 p.cE] 2 2 w=some w:=fun w=>jy (by simp) (by simp[I.sizes,I.size,(jv g2).2.2.2]);have hf:∀ ts os,aj os 31=aj o2 31→bh true (av ts os) (dN ⟨p.ar,p.j,k⟩ v2)=some (enc (⟨p.ar,p.j.take k.toNat,k⟩:bu)):=fun ts os J =>
  w5 (lQ rfl g2 (by intro m hm;simp only[zx3,List.not_mem_nil,or_false] at hm;rcases hm with rfl;exact J))
 try simp only[ho2,hs3,cn,aC,bF,simprocAttr]
 have R:=y6 @ho2 (y6 @ho4 (y6 @hof (y6 @hst (y6 @kb (y6 @ht (y6 @hf (y6 @cn (y6 @bo aC))))))))
 repeat' ((first |refine ae.aF (by decide +kernel) rfl fun K hK =>?_|(refine .ay [0,1,2,4,5,6,7,11] hK ?_;clear hK K)|(with_reducible refine .done (hK _ ?_);clear hK K)|refine ae.of rfl ?_|(with_reducible refine aB.aE (fun h =>?_) (fun h =>?_) <;>try simp only[h])) <;>try simp only[aG,R,simprocAttr])
 all_goals clear R
end Go.Proofs.YthbdbocionnfgaaGreatDoor
namespace Go.Proofs.YthbdbocionnfgaaGreatDoor
open Go Go.Abs Go.Shelf
open Go.Abs.Enc (enc)
def WC:Go.Shelf.Ren:=⟨fun | 171=>119 | 243=>144 | 246=>159 | 283=>170 | 284=>171 | 285=>172 | 286=>173 | 129=>143 | 317=>182 | 318=>183 | 319=>184 | 320=>185 | 337=>190 | 338=>191 | n=>n,fun | 3=>3 | 9=>9 | 2=>2 | 4=>4 | 171=>198 | 0=>0 | 53=>171 | 37=>172 | 5=>5 | 173=>200 | 212=>209 | 51=>169 | 20=>20 | 213=>210 | 46=>151 | 232=>223 | 233=>224 | n=>n,fun | 17=>3 | 18=>6 | 19=>7 | n=>n⟩
theorem WB:Go.Proofs.LaysM.n171 Tryz.prog WC := {
 mixed:=by kernel_rfl
 f129:=Tryz.func143.trans (congrArg some (by kernel_rfl))
 f171:=Tryz.func119.trans (congrArg some (by kernel_rfl))
 f243:=Tryz.func144.trans (congrArg some (by kernel_rfl))
 f246:=Tryz.func159.trans (congrArg some (by kernel_rfl))
 f283:=Tryz.func170.trans (congrArg some (by kernel_rfl))
 f284:=Tryz.func171.trans (congrArg some (by kernel_rfl))
 f285:=Tryz.func172.trans (congrArg some (by kernel_rfl))
 f286:=Tryz.func173.trans (congrArg some (by kernel_rfl))
 f317:=Tryz.func182.trans (congrArg some (by kernel_rfl))
 f318:=Tryz.func183.trans (congrArg some (by kernel_rfl))
 f319:=Tryz.func184.trans (congrArg some (by kernel_rfl))
 f320:=Tryz.func185.trans (congrArg some (by kernel_rfl))
 f337:=Tryz.func190.trans (congrArg some (by kernel_rfl))
 f338:=Tryz.func191.trans (congrArg some (by kernel_rfl))
 t0:=Tryz.underlying0
 a0:=Tryz.isAgg0
 z0:=Tryz.sizeOf0
 v0:=Tryz.zeroValue0
 t2:=Tryz.underlying2
 a2:=Tryz.isAgg2
 z2:=Tryz.sizeOf2
 v2:=Tryz.zeroValue2
 t3:=Tryz.underlying3
 a3:=Tryz.isAgg3
 z3:=Tryz.sizeOf3
 v3:=Tryz.zeroValue3
 t4:=Tryz.underlying4
 a4:=Tryz.isAgg4
 z4:=Tryz.sizeOf4
 v4:=Tryz.zeroValue4
 t5:=Tryz.underlying5
 a5:=Tryz.isAgg5
 z5:=Tryz.sizeOf5
 v5:=Tryz.zeroValue5
 t9:=Tryz.underlying9
 a9:=Tryz.isAgg9
 z9:=Tryz.sizeOf9
 v9:=Tryz.zeroValue9
 t20:=Tryz.underlying20
 a20:=Tryz.isAgg20
 z20:=Tryz.sizeOf20
 v20:=Tryz.zeroValue20
 t37:=Tryz.underlying172
 a37:=Tryz.isAgg172
 z37:=Tryz.sizeOf172
 v37:=Tryz.zeroValue172
 t46:=Tryz.underlying151
 a46:=Tryz.isAgg151
 z46:=Tryz.sizeOf151
 v46:=Tryz.zeroValue151
 t51:=Tryz.underlying169
 a51:=Tryz.isAgg169
 z51:=Tryz.sizeOf169
 v51:=Tryz.zeroValue169
 t53:=Tryz.underlying171
 a53:=Tryz.isAgg171
 z53:=Tryz.sizeOf171
 v53:=Tryz.zeroValue171
 t171:=Tryz.underlying198
 a171:=Tryz.isAgg198
 z171:=Tryz.sizeOf198
 v171:=Tryz.zeroValue198
 t173:=Tryz.underlying200
 a173:=Tryz.isAgg200
 z173:=Tryz.sizeOf200
 v173:=Tryz.zeroValue200
 t212:=Tryz.underlying209
 a212:=Tryz.isAgg209
 z212:=Tryz.sizeOf209
 v212:=Tryz.zeroValue209
 t213:=Tryz.underlying210
 a213:=Tryz.isAgg210
 z213:=Tryz.sizeOf210
 t232:=Tryz.underlying223
 a232:=Tryz.isAgg223
 z232:=Tryz.sizeOf223
 v232:=Tryz.zeroValue223
 t233:=Tryz.underlying224
 a233:=Tryz.isAgg224
 z233:=Tryz.sizeOf224
 v233:=Tryz.zeroValue224
 g17:=by kernel_rfl
 g18:=by kernel_rfl
 g19:=by kernel_rfl
 i0:=by kernel_rfl
 i2:=by kernel_rfl
 i3:=by kernel_rfl
 i4:=by kernel_rfl
 i5:=by kernel_rfl
 i9:=by kernel_rfl
 i20:=by kernel_rfl
 i37:=by kernel_rfl
 i46:=by kernel_rfl
 i51:=by kernel_rfl
 i53:=by kernel_rfl
 i171:=by kernel_rfl
 i173:=by kernel_rfl
 i212:=by kernel_rfl
 i232:=by kernel_rfl
 i233:=by kernel_rfl
 m17:=by kernel_rfl
 m18:=by kernel_rfl
 m19:=by kernel_rfl }
open Go.RowKit Go.Sort Go.Lib in
theorem strconv_Itoa (n : Int) (aY : -9223372036854775808 ≤ n) (J : n ≤ 9223372036854775807) (w : World) (htab : Lib.TabIs Tryz.prog w "internal/strconv.uint64pow10" .u64 Lib.pow10Tab) :
  Calls Tryz.prog 119 #[.int .i64 n] w fun e w'=>e=.returned (.string ⟨(Lib.itoa n).toArray⟩)∧∃ k os,w'=grow (w.drewN k) os:=Any.strconv_Itoa WB n aY J w htab
structure fg where
 b:ByteArray
 deriving DecidableEq
instance:Enc fg where
 enc s:=.bP s.b
 sz:=1
 aX:=.one
 gN:=false
 done _:=rfl
 size _:=by simp[I.size]
 iQ _:=by simp[I.aX]
 agg _:=rfl
def mN(n:Int):fg:=⟨⟨(Lib.itoa n).toArray⟩⟩
open Go.Sort Go.RowKit in
theorem yx(w:World)(k:Nat)(os:Array Obj):Go.RowKit.Below w.heap.size w (grow (w.drewN k) os) :=
 ⟨rfl,rfl,rfl,by simp,fun i hi=>by rw[heap_grow_old _ _ (by simpa using hi)];rfl⟩
theorem FF(n:Int):bd Tryz.prog 119 [enc n] (enc (mN n)):=by
 refine ⟨H8,fun w D vs ao hD hv =>?_⟩;have hv':aI w D dh [.int .i64 n] vs:=hv;simp only[aI] at hv';obtain ⟨v,rest,cs,rfl,J,U,rfl⟩:=hv';obtain ⟨rfl,ah,au⟩:=eW (jx J U);have h3':-9223372036854775808≤n:=ah;have h4':n≤9223372036854775807:=au;have hg:Tryz.prog.globalNamed wh=some 3:=by kernel_rfl
 have htab:=(ao 3 hg).2;refine (strconv_Itoa n h3' h4' w htab).mono ?_;rintro e w' ⟨rfl,k,os,rfl⟩;refine ⟨_,D,rfl,⟨[.string ⟨(Lib.itoa n).toArray⟩],by simp[bB,I.isAgg,enc],?_⟩,yx w k os,fun b o af=>Nat.lt_of_lt_of_le (hD b o af) (yx w k os).size,fun _ _ h _=>h⟩;have hlen:=Lib.itoa_length_le n h3' h4'
 show al _ _ _ (.bP _) _
 simp only[al];refine ⟨rfl,?_⟩
 show (Lib.itoa n).toArray.size≤maxLen
 simp only[List.size_toArray,maxLen];omega
end Go.Proofs.YthbdbocionnfgaaGreatDoor
namespace Go.Proofs.YthbdbocionnfgaaGreatDoor
open Go Go.Abs
open Go.Abs.Enc (enc)
def ox:fg:=⟨⟨#[32]⟩⟩
def qS:fg:=⟨⟨#[10]⟩⟩
def js(a b:fg):fg:=⟨a.b++b.b⟩
theorem qa(a b:fg):(js a b).b.size=a.b.size+b.b.size:=by simp[js]
theorem sc(a b:fg)(h:a.b.size+b.b.size≤9223372036854775807):cD .add (.bP a.b) (.bP b.b)=some (.bP (js a b).b):=by
 simp only[cD,if_pos h,js]
theorem BX{n:Int}(h:IntKind.i64.min≤n∧n≤IntKind.i64.max):(mN n).b.size≤21:=by
 have:=Lib.itoa_length_le n h.1 h.2
 show (Lib.itoa n).toArray.size≤21
 simpa using this
def jE(w:fg)(l:List Int)(i:Nat):fg:=(l.take i).foldl (fun a n=>js a (js ox (mN n))) w
def mh(w:fg)(l:List Int):fg:=js (jE w l l.length) qS
theorem EM(w:fg){l:List Int}{i:Nat}(h:i<l.length):jE w l (i+1)=js (jE w l i) (js ox (mN l[i])):=by
 simp only[jE,zz3 h,List.foldl_append,List.foldl_cons,List.foldl_nil]
theorem xn(w:fg){l:List Int}(ao:∀ x∈l,IntKind.i64.min≤x∧x≤IntKind.i64.max):∀ i,i≤l.length→(jE w l i).b.size≤w.b.size+22*i
 |0,_=>by simp[jE]
 |i+1,h=>by
  have J:=xn w ao i (by omega);have U:=BX (ao l[i] (List.getElem_mem _));rw[EM w (by omega),qa,qa];have ah:ox.b.size=1:=rfl;omega
theorem uu(w:fg)(l:List Int)(hb:w.b.size+22*l.length≤1000000000000):bd Tryz.prog 93 [enc w,enc l] (enc (mh w l)):=by
 refine bd.b6 Tryz.func93 IY JZ Li (u8 rfl) (fun hwf W0 bG E1 =>?_);simp only[zH,Ek,bH,Z1];have hlen:l.length≤maxLen:=((nt l).1 hwf.2.1).1;have hwl:∀ x∈l,IntKind.i64.min≤x∧x≤IntKind.i64.max:=fun x hx=>((nt l).1 hwf.2.1).2 x hx;simp only[maxLen] at hlen;have ab:=xn w hwl;refine .gC (by decide +kernel) fun K hK =>?_;simp only[Bt,bF,simprocAttr];refine .done (hK _ ?_);clear hK K;refine ae.seq ?_;refine .gC (by decide +kernel) fun K hK =>?_;simp only[Bu,bF,simprocAttr]
 try simp only[kB,bF,simprocAttr]
 refine .done (hK _ ?_);clear hK K;refine ae.block (ae.loop (fun i:Nat=>av [(0,enc (jE w l i)),(7,enc l),(8,.int .i64 l.length),(9,.int .i64 i)] []) (fun i=>i≤l.length) (fun i=>l.length-i) 0 (zy9 _) ?_ (fun i hi =>?_))
 ·refine bx.df ?_ ?_ ?_ ?_ <;>simp[cw,cY,cH,cJ,cq,I.only,cA]
  all_goals rfl
 ·refine .gC (by decide +kernel) fun K hK =>?_;simp only[Bv,bF,simprocAttr];refine .done (hK _ ?_);clear hK K;refine ae.seq ?_;refine ae.jQ ?_;simp only[aB,bF,simprocAttr];refine ⟨fun h =>?_,fun h =>?_⟩
  ·have hlt:i<l.length:=by simpa using h
   refine ae.skip ?_;try simp only[eA,simprocAttr]
   refine ae.seq (ae.block ?_);refine .gC (by decide +kernel) fun K hK =>?_;simp only[Bw,bF,simprocAttr]
   try simp only[fb 1 hlt rfl,bF,simprocAttr]
   refine .done (hK _ ?_);clear hK K;refine .kq (by decide +kernel) fun K hK =>?_;simp only[Bx,bF,simprocAttr];refine .flat _ (FF l[i]) rfl ?_;have J:=BX (hwl l[i] (List.getElem_mem _));have U:=ab i hi;have ah:ox.b.size=1:=rfl
   try simp only[show (I.bP ⟨#[32]⟩)=I.bP ox.b from rfl,show (enc (mN l[i]):I)=.bP (mN l[i]).b from rfl,show (enc (jE w l i):I)=.bP (jE w l i).b from rfl,sc ox (mN l[i]) (by omega),sc (jE w l i) (js ox (mN l[i])) (by rw[qa];omega),bF,simprocAttr]
   refine .done (hK _ ?_);clear hK K;try simp only[eA,jK]
   refine .kq (by decide +kernel) fun K hK =>?_;simp only[By,bF,simprocAttr];refine .done (hK _ ?_);clear hK K;try simp only[eA]
   refine ⟨i+1,by omega,by omega,?_⟩;rw[hZ _ (by omega) (by omega),EM w hlt];refine bx.df ?_ ?_ ?_ ?_ <;>simp[cw,cY,cH,cJ,cq,I.only,cA]
   all_goals rfl
  ·have hge:i=l.length:=by simp at h;omega
   subst hge;refine ae.exit ?_;try simp only[eA,jK,simprocAttr]
   have U:=ab l.length (Z3 _);have ah:qS.b.size=1:=rfl;refine .gC (by decide +kernel) fun K hK =>?_;simp only[Bz,bF,simprocAttr]
   try simp only[show (I.bP ⟨#[10]⟩)=I.bP qS.b from rfl,show (enc (jE w l l.length):I)=.bP (jE w l l.length).b from rfl,sc (jE w l l.length) qS (by omega),bF,simprocAttr]
   refine .done (hK _ ?_);clear hK K;refine ae.ret ?_;simp only[bF,simprocAttr];rfl
def lA:List fg:=[⟨⟨#[]⟩⟩,⟨⟨#[112,111,117,110,100]⟩⟩,⟨⟨#[114,101,108,101,97,115,101]⟩⟩,⟨⟨#[115,101,110,100]⟩⟩,⟨⟨#[99,97,108,108]⟩⟩,⟨⟨#[100,111,110,101]⟩⟩,⟨⟨#[98,97,99,107]⟩⟩,⟨⟨#[116,97,107,101]⟩⟩,⟨⟨#[114,101,102,117,115,101]⟩⟩]
theorem HR:fm 1 (some [I.bP ⟨#[]⟩,I.bP ⟨#[112,111,117,110,100]⟩,I.bP ⟨#[114,101,108,101,97,115,101]⟩,I.bP ⟨#[115,101,110,100]⟩,I.bP ⟨#[99,97,108,108]⟩,I.bP ⟨#[100,111,110,101]⟩,I.bP ⟨#[98,97,99,107]⟩,I.bP ⟨#[116,97,107,101]⟩,I.bP ⟨#[114,101,102,117,115,101]⟩])=some (enc lA):=by
 have h:fm 1 (some (lA.map (enc (α:=fg))))=some (enc lA):=by
  simp only[fm];rw[if_pos ⟨by simp[Enc.size];exact fun _ _=>rfl,iA _⟩];rfl
 exact h
theorem x9:bd Tryz.prog 94 [] (enc lA):=by
 refine bd.b6 Tryz.func94 IZ J0 Lj (u8 rfl) (fun hwf W0 bG E1 =>?_);simp only[zI,El,bH];have R:=y6 @HR aC
 repeat' ((first |refine ae.aF (by decide +kernel) rfl fun K hK =>?_|(refine .ay [0] hK ?_;clear hK K)|(with_reducible refine .done (hK _ ?_);clear hK K)|refine ae.of rfl ?_|(with_reducible refine aB.aE (fun h =>?_) (fun h =>?_) <;>try simp only[h])) <;>try simp only[aG,R,simprocAttr])
 all_goals clear R
 all_goals rfl
def vj:fg:=⟨⟨#[]⟩⟩
def n1:fg:=⟨⟨#[112,111,117,110,100]⟩⟩
def j6(k:Int):fg:=lA.getD k.toNat vj
def mP(x:bg):fg:=if x.kind≤2 then mh (j6 x.kind) [x.aK] else mh (j6 x.kind) [x.aK,x.other,x.no]
def l5(p:bu)(i:Nat):fg:=(p.j.take i).foldl (fun a x=>js a (mP x)) (mh n1 [p.ar,p.cE])
def tB(p:bu):fg×Int:=match dn p with
 |none=>(vj,91)
 |some _=>(l5 p p.j.length,0)
theorem Fv(k:Int):(j6 k).b.size≤7:=by
 have h:∀ x∈lA,x.b.size≤7:=by decide
 simp only[j6,Z0];cases hk:lA[k.toNat]? with
 |none=>exact zy9 _
 |some x=>exact h x (List.mem_of_getElem? hk)
theorem xp(w:fg){l:List Int}(ao:∀ x∈l,IntKind.i64.min≤x∧x≤IntKind.i64.max):(mh w l).b.size≤w.b.size+22*l.length+1:=by
 have:=xn w ao l.length (Z3 _);rw[mh,qa];have:qS.b.size=1:=rfl;omega
theorem vY{n:Int}(h:-100000≤n∧n≤100000):IntKind.i64.min≤n∧n≤IntKind.i64.max:=by
 have J:IntKind.i64.min=-9223372036854775808:=by decide
 have U:IntKind.i64.max=9223372036854775807:=by decide
 omega
theorem CF{x:bg}(h:gA x=true):(1≤x.kind∧x.kind≤8)∧(1≤x.aK∧x.aK≤9999)∧(0≤x.other∧x.other≤5)∧(0≤x.no∧x.no≤200):=by
 simp only[gA,c4] at h;split at h
 ·simp only[t8,decide_eq_true_eq,beq_iff_eq] at h;omega
 ·split at h
  ·simp only[t8,decide_eq_true_eq] at h;omega
  ·cases h
theorem Ca{x:bg}(h:gA x=true):(mP x).b.size≤74:=by
 obtain ⟨_,U,ah,au⟩:=CF h;have hw:=Fv x.kind;simp only[mP];split
 ·have:=xp (j6 x.kind) (l:=[x.aK]) (by simp only[zy3,forall_eq];exact vY (by omega));simp only[zx5,List.length_nil] at this;omega
 ·have:=xp (j6 x.kind) (l:=[x.aK,x.other,x.no]) (by
   intro y hy;simp only[zx3,List.not_mem_nil,or_false] at hy;rcases hy with rfl | rfl | rfl <;>exact vY (by omega))
  simp only[zx5,List.length_nil] at this;omega
theorem EO:∀ {l:List bg} {s s':aD},fI s l=some s'→∀ x∈l,gA x=true
 | [],_,_,_,x,hx=>by cases hx
 |y::l,s,s',h,x,hx=>by
  simp only[fI] at h;cases hy:gp s y with
  |none=>rw[hy] at h;cases h
  |some s2 =>
   rw[hy] at h;rcases zx3.1 hx with rfl | hx
   ·simp only[gp] at hy;split at hy
    ·assumption
    ·cases hy
   ·exact EO h x hx
theorem CP{p:bu}{s:aD}(h:dn p=some s):∀ x∈p.j,gA x=true:=EO (iL h).2.2.2.2.2
theorem C3(p:bu){i:Nat}(h:i<p.j.length):l5 p (i+1)=js (l5 p i) (mP p.j[i]):=by
 simp only[l5,zz3 h,List.foldl_append,List.foldl_cons,List.foldl_nil]
theorem C2{p:bu}{s:aD}(ho:dn p=some s):∀ i,i≤p.j.length→(l5 p i).b.size≤50+74*i
 |0,_=>by
  have h5:=(iL ho).2.2.2.2.1;have au:=(iL ho).2.2.2.1;simp only[ic,c4,t8,decide_eq_true_eq] at h5;have:=xp n1 (l:=[p.ar,p.cE]) (by
   intro y hy;simp only[zx3,List.not_mem_nil,or_false] at hy;rcases hy with rfl | rfl <;>exact vY (by omega))
  have hp:n1.b.size=5:=rfl;simp only[zx5,List.length_nil] at this
  show (mh n1 [p.ar,p.cE]).b.size≤_
  omega
 |i+1,h=>by
  have J:=C2 ho i (by omega);have U:=Ca (CP ho p.j[i] (List.getElem_mem _));rw[C3 p (by omega),qa];omega
theorem yE(a:Int):fm 1 (some [.int .i64 a])=some (enc [a]):=p8 (ys:=[a]) 1 rfl
theorem HS(a b:Int):fm 1 (some [.int .i64 a,.int .i64 b])=some (enc [a,b]):=p8 (ys:=[a,b]) 1 rfl
theorem HT(a b c:Int):fm 1 (some [.int .i64 a,.int .i64 b,.int .i64 c])=some (enc [a,b,c]):=p8 (ys:=[a,b,c]) 1 rfl
theorem Wk{k:Int}(h:1≤k∧k≤8)(A:ai):jP A 1 k (enc lA)=some (.ref (enc (j6 k))):=by
 have hk:k.toNat<lA.length:=by show k.toNat<9;omega
 have:=fb (A:=A) (l:=lA) (k:=k.toNat) 1 hk rfl;have e:((k.toNat:Nat):Int)=k:=by omega
 rw[e] at this;rw[this];simp[j6,Z0,hk]
def yf(p:bu)(i:Nat):ai :=
 av [(1,.ptr 1 []),(5,enc (l5 p i)),(20,enc p.j),(21,.int .i64 p.j.length),(22,.int .i64 i)] [(1,.box (enc p))]
theorem F9(p:bu):bd Tryz.prog 53 [enc p] (.tuple [enc (tB p).1,enc (tB p).2]):=by
 refine bd.b6 Tryz.func53 Iw JB KT (u8 rfl) (fun hwf W0 bG E1 =>?_);simp only[zg,DR,bH];clear hwf;have hF:=r0 p;simp only[oQ] at hF;simp only[tB];have e0:(I.bP ⟨#[]⟩)=enc vj:=rfl;have e1:(I.bP ⟨#[112,111,117,110,100]⟩)=enc n1:=rfl;cases ho:dn p with
 |none =>
  rw[ho] at hF;have R:=y6 @cn (y6 @bo (y6 @bZ (y6 @bC (y6 @bA aC))))
  repeat' ((first |refine ae.aF (by decide +kernel) rfl fun K hK =>?_|refine .lead _ (hF) ?_|(refine .ay [0,1,2,3,4,5,7,11,20,21,22,23,28] hK ?_;clear hK K)|(with_reducible refine .done (hK _ ?_);clear hK K)|refine ae.of rfl ?_|(with_reducible refine aB.aE (fun h =>?_) (fun h =>?_) <;>try simp only[h])) <;>try simp only[aG,R,simprocAttr])
  all_goals clear R
  all_goals rfl
 |some s =>
  have hjl:=(iL ho).2.2.2.1;have hok:=CP ho;have hsz:=C2 ho;have hp:n1.b.size=5:=rfl;have hR:=uu n1 [p.ar,p.cE] (by simp[hp]);rw[ho] at hF;have R:=y6 @HS (y6 @cn (y6 @bo (y6 @bZ (y6 @bC (y6 @bA aC)))))
  repeat' ((first |refine ae.aF (by decide +kernel) rfl fun K hK =>?_|refine .lead _ (hF) ?_|refine .flat _ (hR) rfl ?_|(refine .ay [0,1,2,3,4,5,7,11,20,21,22,23,28] hK ?_;clear hK K)|(with_reducible refine .done (hK _ ?_);clear hK K)|refine ae.of rfl ?_|(with_reducible refine aB.aE (fun h =>?_) (fun h =>?_) <;>try simp only[h])) <;>try simp only[aG,R,simprocAttr])
  all_goals clear R
  refine ae.loop (yf p) (fun i=>i≤p.j.length) (fun i=>p.j.length-i) 0 (zy9 _) ?_ ?_
  ·refine bx.df ?_ ?_ ?_ ?_ <;>simp[cw,cY,cH,cJ,aw,cq,dx,I.only,aq.only,cA]
   all_goals rfl
  intro i hi;simp only[yf];have hsi:=hsz i hi;by_cases hlt:i<p.j.length
  ·have hc:=gx hlt;have he:=fun A=>fb (A:=A) 4 hlt rfl;have hw:=gq (i:=i) (by omega);have hst:∀ A rest b,db A (some 4) 7 [] b (enc p.j[i]) rest (some (.agg [.int .i64 0,.int .i64 0,.int .i64 0,.int .i64 0]))=az rest (A.aS 7 (.box (enc p.j[i]))):=fun A rest b=>dE (eh _) (by rw[fh];rfl) (eI _);have hoki:=hok p.j[i] (List.getElem_mem hlt);have hls:=Ca hoki;obtain ⟨hk,hk2⟩:=CF hoki;have hwd:=Wk hk;have hps:=C3 p hlt;have hww:=Fv p.j[i].kind;generalize p.j[i]=x at *;have hadd:∀ l:fg,l.b.size≤74→cD .add (enc (l5 p i)) (enc l)=some (enc (js (l5 p i) l)):=fun l h=>sc (l5 p i) l (by omega);rcases q:decide (x.kind≤2)
   ·have bK:¬ x.kind≤2:=of_decide_eq_false q;have ao:mP x=mh (j6 x.kind) [x.aK,x.other,x.no]:=by simp[mP,bK]
    rw[ao] at hls hps;have hR2:=uu (j6 x.kind) [x.aK,x.other,x.no] (by simp;omega);have had:=hadd _ hls;have R:=y6 @hc (y6 @he (y6 @hw (y6 @hst (y6 @hwd (y6 @q (y6 @had (y6 @HT (y6 @cn (y6 @bo (y6 @bZ (y6 @bC (y6 @bA aC))))))))))))
    repeat' ((first |refine ae.aF (by decide +kernel) rfl fun K hK =>?_|refine .lead _ (x9) ?_|refine .flat _ (hR2) rfl ?_|(refine .ay [0,1,2,3,4,5,7,11,20,21,22,23,28] hK ?_;clear hK K)|(with_reducible refine .done (hK _ ?_);clear hK K)|refine ae.of rfl ?_|(with_reducible refine aB.aE (fun h =>?_) (fun h =>?_) <;>try simp only[h])) <;>try simp only[aG,R,simprocAttr])
    all_goals clear R
    refine ⟨i+1,by omega,by omega,?_⟩;rw[hps];refine bx.df ?_ ?_ ?_ ?_ <;>simp[cw,cY,cH,cJ,aw,cq,dx,I.only,aq.only,cA]
    all_goals rfl
   ·have bK:x.kind≤2:=of_decide_eq_true q;have ao:mP x=mh (j6 x.kind) [x.aK]:=by simp[mP,bK]
    rw[ao] at hls hps;have hR2:=uu (j6 x.kind) [x.aK] (by simp;omega);have had:=hadd _ hls;have R:=y6 @hc (y6 @he (y6 @hw (y6 @hst (y6 @hwd (y6 @q (y6 @had (y6 @yE (y6 @cn (y6 @bo (y6 @bZ (y6 @bC (y6 @bA aC))))))))))))
    repeat' ((first |refine ae.aF (by decide +kernel) rfl fun K hK =>?_|refine .lead _ (x9) ?_|refine .flat _ (hR2) rfl ?_|(refine .ay [0,1,2,3,4,5,7,11,20,21,22,23,28] hK ?_;clear hK K)|(with_reducible refine .done (hK _ ?_);clear hK K)|refine ae.of rfl ?_|(with_reducible refine aB.aE (fun h =>?_) (fun h =>?_) <;>try simp only[h])) <;>try simp only[aG,R,simprocAttr])
    all_goals clear R
    refine ⟨i+1,by omega,by omega,?_⟩;rw[hps];refine bx.df ?_ ?_ ?_ ?_ <;>simp[cw,cY,cH,cJ,aw,cq,dx,I.only,aq.only,cA]
    all_goals rfl
  ·have hge:i=p.j.length:=by omega
   have hc:=gL hlt;subst hge;have R:=y6 @hc (y6 @cn (y6 @bo (y6 @bZ (y6 @bC (y6 @bA aC)))))
   repeat' ((first |refine ae.aF (by decide +kernel) rfl fun K hK =>?_|(refine .ay [0,1,2,3,4,5,7,11,20,21,22,23,28] hK ?_;clear hK K)|(with_reducible refine .done (hK _ ?_);clear hK K)|refine ae.of rfl ?_|(with_reducible refine aB.aE (fun h =>?_) (fun h =>?_) <;>try simp only[h])) <;>try simp only[aG,R,simprocAttr])
   all_goals clear R
theorem bN.rS{P:Program}{Y:Value→List I→List (Nat×aq)→cG→Prop}{ab:List FuncId}{K:ai→Prop}{v:Value}{vs:List I}{dst:Option Nat}{rest:List aH}{ts:List (Nat×I)}{os osk ow:List (Nat×aq)}{In Ix:List (Nat×aq)→Prop}
  (hY:Y v vs osk (fun r os2=>(r=.bool true∧In os2)∨(r=.bool false∧Ix os2))) (hk:eY os osk) (hi:∀ os',In os'→eY os os') (hx:∀ os',Ix os'→eY os os') (hcl:I.ca vs=true) (how:∀ m,aw ow m=true→m<1000000)
  (J:∀ os2,In os2→bN P Y ab K (az rest ((av ts (ow++os2)).aT dst (.bool true)))) (U:∀ os2,Ix os2→bN P Y ab K (az rest ((av ts (ow++os2)).aT dst (.bool false)))) :
  bN P Y ab K (.kN v vs dst rest (av ts (ow++osk))):=by
 refine .Fw osk vs _ hY (gl.iC hk how) (sk vs hcl) ?_ ?_
 ·rintro r os' (⟨rfl,h⟩ | ⟨rfl,h⟩)
  ·exact gG.iC hk (hi _ h) rfl
  ·exact gG.iC hk (hx _ h) rfl
 ·rintro r os' (⟨rfl,h⟩ | ⟨rfl,h⟩)
  ·rw[sn hk (hi _ h) how];exact J os' h
  ·rw[sn hk (hx _ h) how];exact U os' h
theorem qv{os os2 ow:List (Nat×aq)}{ts:List (Nat×I)}(h:eY os os2)(how:∀ m,aw ow m=true→m<1000000):∀ n x,aj os2 n=some x→(av ts (ow++os2)).o n=some x∧x.only (aw os2)=true∧x.ej=true:=fun n x hx=>by
 have hn:aw os2 n=true:=by simp[aw,hx]
 have hg:=h.lP n (by rw[←h.same];exact hn);refine ⟨?_,h.ok n x hx⟩;simp only[av,fH];cases hw:aj ow n with
 |none=>exact hx
 |some y=>have:=how n (by simp[aw,hw]);omega
def tH:c8:=⟨0,0,0,0,0⟩
def nd(s:aD)(to n:Int):c8:=⟨if (s.b9 (n.toNat-1)).dw then 3 else 1,s.ar,to,(s.b9 (n.toNat-1)).aK,n⟩
def oE(s:aD)(to n:Int):Bool:=(s.b9 (n.toNat-1)).to==to
def fP(s:aD)(to:Int)(i:Nat):List c8:=(((cm s.bz).take i).filter (oE s to)).map (nd s to)
def kp(s:aD)(to:Int)(no:Nat):List c8:=match s.bj.find? fun x=>decide (eQ x=⟨to,no⟩) with
 |some x=>[⟨if x.kind=8 then 4 else 2,s.ar,to,x.aK,no⟩]
 |none=>[]
def gw(s:aD)(to:Int)(k:Nat):List c8:=(List.range k).flatMap fun i=>kp s to (i+1)
def fj(s:aD)(to:Int):List c8:=fP s to (cm s.bz).length++gw s to 200
theorem wa(s:aD)(to:Int){i:Nat}(h:i<(cm s.bz).length):fP s to (i+1)=fP s to i++if oE s to (cm s.bz)[i] then [nd s to (cm s.bz)[i]] else []:=by
 simp only[fP,zz3 h,List.filter_append,zz2,List.filter_cons,List.filter_nil]
 congr 1
 split <;>rfl
theorem pc(s:aD)(to:Int)(k:Nat):gw s to (k+1)=gw s to k++kp s to (k+1):=by
 simp only[gw,List.range_succ,List.flatMap_append,List.flatMap_cons,List.flatMap_nil,zx0]
theorem BT(s:aD)(to:Int):∀ {i n:Nat},i≤n→n≤(cm s.bz).length→fP s to i <+: fP s to n
 |i,0,h,_=>by
   have:i=0:=by omega
   subst this;exact List.prefix_rfl
 |i,n+1,h,hn=>by
  by_cases e:i=n+1
  ·subst e;exact List.prefix_rfl
  ·rw[wa s to (by omega)];exact (BT s to (by omega) (by omega)).trans (List.prefix_append _ _)
theorem BW(s:aD)(to:Int):∀ {k n:Nat},k≤n→gw s to k <+: gw s to n
 |k,0,h=>by
   have:k=0:=by omega
   subst this;exact List.prefix_rfl
 |k,n+1,h=>by
  by_cases e:k=n+1
  ·subst e;exact List.prefix_rfl
  ·rw[pc];exact (BW s to (by omega)).trans (List.prefix_append _ _)
theorem BB{α:Type}{l m:List α}{x d:α}(h:l++[x] <+: m):l.length<m.length∧m.getD l.length d=x:=by
 obtain ⟨r,rfl⟩:=h;refine ⟨by simp,?_⟩;rw[zz0,Z0,zx4 (Z3 _)];simp
theorem VH{s:aD}{to:Int}{i:Nat}(h:i<(cm s.bz).length)(ht:oE s to (cm s.bz)[i]=true):(fP s to i).length<(fj s to).length∧(fj s to).getD (fP s to i).length tH=nd s to (cm s.bz)[i]:=by
 have J:=wa s to h;rw[if_pos ht] at J;have U:=BT s to (i:=i+1) (n:=(cm s.bz).length) (by omega) (Z3 _);rw[J] at U;exact BB (U.trans (List.prefix_append _ _))
theorem VI{s:aD}{to:Int}{k:Nat}{x:c8}(h:k<200)(hx:kp s to (k+1)=[x]):(fP s to (cm s.bz).length++gw s to k).length<(fj s to).length∧(fj s to).getD (fP s to (cm s.bz).length++gw s to k).length tH=x:=by
 have J:=pc s to k;rw[hx] at J;have U:=BW s to (k:=k+1) (n:=200) (by omega);rw[J] at U;refine BB ?_;rw[zz0];exact List.prefix_append_right_inj _ |>.2 U
theorem kL(a b c d e:Int):(dT [.int .i64 0,.int .i64 0,.int .i64 0,.int .i64 0,.int .i64 0] [(0,.int .i64 a),(1,.int .i64 b),(2,.int .i64 c),(3,.int .i64 d),(4,.int .i64 e)]).map I.agg=some (enc (⟨a,b,c,d,e⟩:c8)):=by simp[dT,I.bR,I.size];rfl
theorem j2:(∀ A n b rest (q:c8) x y z w u,db A (some 5) n [] b (enc q) rest (some (.agg [.int .i64 x,.int .i64 y,.int .i64 z,.int .i64 w,.int .i64 u]))=az rest (A.aS n (.box (enc q)))) ∧
  (∀ (A:ai) n (q:c8) rest (v u:Int),db A none n [0] (enc q) (.int .i64 v) rest (some (.int .i64 u))=az rest (A.aS n (.box (enc (⟨v,q.cQ,q.to,q.aK,q.no⟩:c8))))) ∧
  (∀ A n b rest (q:bg) x y z w,db A (some 4) n [] b (enc q) rest (some (.agg [.int .i64 x,.int .i64 y,.int .i64 z,.int .i64 w]))=az rest (A.aS n (.box (enc q)))) :=
 ⟨fun A n b rest q x y z w u=>dE (eh _) (by rw[fh];rfl) (eI _),fun A n q rest v u=>dE rfl rfl rfl,fun A n b rest q x y z w=>dE (eh _) (by rw[fh];rfl) (eI _)⟩
theorem tw{a b:aq} : ∀ m,aw [(7,a),(7,b)] m=true→m<1000000:=fun m h=>by
 simp only[aw,aj] at h
 (repeat' split at h) <;>first | omega | (simp at h;done)
theorem tx{a b c:aq} : ∀ m,aw [(7,a),(7,b),(7,c)] m=true→m<1000000:=fun m h=>by
 simp only[aw,aj] at h
 (repeat' split at h) <;>first | omega | (simp at h;done)
theorem tv{a b c d:aq} : ∀ m,aw [(11,a),(11,b),(9,c),(9,d)] m=true→m<1000000:=fun m h=>by
 simp only[aw,aj] at h
 (repeat' split at h) <;>first | omega | (simp at h;done)
theorem wV{a b c d e:aq} : ∀ m,aw [(11,a),(11,b),(11,e),(9,c),(9,d)] m=true→m<1000000:=fun m h=>by
 simp only[aw,aj] at h
 (repeat' split at h) <;>first | omega | (simp at h;done)
theorem Yd:∀ m,aw [] m=true→m<1000000:=fun m h=>by simp[aw,aj] at h
theorem nF{ow os osk:List (Nat×aq)}(hw:∀ m,aw ow m=true→m<1000000)(gk:eY os osk):∀ m,aj osk m=none∨aj osk m=aj (ow++osk) m:=fun m=>by
 rw[fH];cases h:aj ow m with
 |none=>exact .inr rfl
 |some y=>exact .inl (gk.none (hw m (by simp[aw,h])))
theorem oz(p:Nat→Bool)(s:aD):(dH s).only p=true:=kl p _ (oy s)
def r9(s:aD)(to:Int)(v:Value)(t:Nat×List (Nat×aq)):ai :=
 av [(0,.raw v),(1,.ref (dH s)),(2,.ref (.int .i64 to)),(8,.int .i64 ((t.1:Int)+1))] t.2
def r8(s:aD)(to:Int)(v:Value)(t:Nat×List (Nat×aq)):ai :=
 av [(0,.raw v),(1,.ref (dH s)),(2,.ref (.int .i64 to)),(13,enc (cm s.bz)),(14,.int .i64 (cm s.bz).length),(15,.int .i64 t.1)] t.2
theorem FC(s:aD)(to:Int)(ao:s.aQ.length≤1000):yc Tryz.prog 107 [.ref (dH s),.ref (enc to)] (fj s to).length (fun k=>[enc ((fj s to).getD k tH)]):=by
 intro Y v bf Ix os hv hY hI hIx aY;have hG:=hI 0 os aY;have hlen:(cm s.bz).length=s.aQ.length:=by simp[cm,aD.bz]
 have hN:=x6 s (by omega);refine kC.b6 Tryz.func107 zL I8 Kg (u8 rfl) (u8 rfl) hG.lP (fun hwf W0 bG E1 =>?_);simp only[yI,Dc,bH,Z1,Nat.reduceAdd];have R:=y6 @eF (y6 @bo (y6 @bZ (y6 @bC (y6 @bA aC))))
 repeat' ((first |(with_reducible refine .guard (fun hb =>?_) (fun hb =>?_) <;>try simp only[hb])|refine ae.aF (by decide +kernel) rfl fun K hK =>?_|refine .lead _ (hN) ?_|(refine .ay [0,1,2,5,6,7,8,9,10,11,13,14,15,16,39,52,55,80,88] hK ?_;clear hK K)|(with_reducible refine .done (hK _ ?_);clear hK K)|refine ae.of rfl ?_|(with_reducible refine aB.aE (fun h =>?_) (fun h =>?_) <;>try simp only[h])) <;>try simp only[aG,R,simprocAttr])
 all_goals clear R
 refine ae.loop (r8 s to v) (fun t=>t.1≤(cm s.bz).length∧bf (fP s to t.1).length t.2) (fun t=>(cm s.bz).length-t.1) (0,os) ⟨zy9 _,aY⟩ ?_ ?_
 ·refine bx.slots ?_ (fun n=>rfl);simp[cw,cq]
 rintro ⟨i,osk⟩ ⟨hi,hIk⟩;simp only at hi hIk;have gk:=hI _ osk hIk;have n7:=gk.none (n:=7) (by decide);simp only[r8];by_cases hlt:i<(cm s.bz).length
 ·have hc:=gx hlt;have he:=fun A=>fb (A:=A) 1 hlt rfl;have hw:=gq (i:=i) (by omega);have hlk:=Cc s hlt;have hsu:=wa s to hlt;have hra:=VH (s:=s) (to:=to) hlt;obtain ⟨n,hn⟩:∃ n,n=(cm s.bz)[i]:=⟨_,rfl⟩
  rw[←hn] at he hlk hsu hra;obtain ⟨r,hr⟩:∃ r,r=s.b9 (n.toNat-1):=⟨_,rfl⟩
  have hrd:nd s to n=⟨if r.dw then 3 else 1,s.ar,to,r.aK,n⟩:=by simp only[nd,←hr]
  have hta:oE s to n=(r.to==to):=by simp only[oE,←hr]
  rw[←hr] at hlk;rcases q:(r.to==to)
  ·rw[q] at hta;rw[hta] at hsu;simp only[Z2,if_false,zx0] at hsu;rcases qc:r.dw
   all_goals
    have R:=y6 @hc (y6 @he (y6 @hw (y6 @hlk (y6 @q (y6 @qc (y6 @n7 (y6 @kL (y6 @j2 (y6 @eF (y6 @bo (y6 @bZ (y6 @bC (y6 @bA aC)))))))))))))
    repeat' ((first |(with_reducible refine .guard (fun hb =>?_) (fun hb =>?_) <;>try simp only[hb])|(refine ae.rl (gs:=nJ) [] [] [0,1,2,3,4,5,6,7,8,9,10,11] (by decide +kernel) (cU.of (by simp[fi])) fun K hK =>?_;simp only[eU,nJ,zz6,zz7,R,simprocAttr])|refine ae.aF (by decide +kernel) rfl fun K hK =>?_|(refine .ay [0,1,2,5,6,7,8,9,10,11,13,14,15,16,39,52,55,80,88] hK ?_;clear hK K)|(with_reducible refine .done (hK _ ?_);clear hK K)|refine ae.of rfl ?_|(with_reducible refine aB.aE (fun h =>?_) (fun h =>?_) <;>try simp only[h])) <;>try simp only[aG,R,simprocAttr])
    all_goals clear R
    refine ⟨(i+1,osk),⟨by simp only;omega,by simp only[hsu];exact hIk⟩,by simp only;omega,?_⟩;refine bx.fn ?_ ?_ ?_ (fun m x h=>(gk.ok m x h).1)
    ·simp[cw,cq]
    ·first | exact nF (ow:=[(7,_),(7,_)]) tw gk | exact nF (ow:=[(7,_),(7,_),(7,_)]) tx gk
    ·simp[cH,I.only,cA,oz]
  ·rw[q] at hta;rw[hta,if_pos rfl] at hsu;obtain ⟨g1,g2⟩:=hra hta;have hs1:(fP s to (i+1)).length=(fP s to i).length+1:=by rw[hsu];simp
   have hy:=hY _ osk _ g1 hIk (fun r os2 h=>h);simp only[g2,hrd] at hy;rcases qc:r.dw
   ·rw[qc] at hy;simp only[Z2,if_false] at hy;have R:=y6 @hc (y6 @he (y6 @hw (y6 @hlk (y6 @q (y6 @qc (y6 @n7 (y6 @kL (y6 @j2 (y6 @sx (y6 @eF (y6 @bo (y6 @bZ (y6 @bC (y6 @bA aC))))))))))))))
    repeat' ((first |(with_reducible refine .guard (fun hb =>?_) (fun hb =>?_) <;>try simp only[hb])|(refine ae.rl (gs:=nJ) [] [] [0,1,2,3,4,5,6,7,8,9,10,11] (by decide +kernel) (cU.of (by simp[fi])) fun K hK =>?_;simp only[eU,nJ,zz6,zz7,R,simprocAttr])|refine ae.aF (by decide +kernel) rfl fun K hK =>?_|refine bN.rS (ow:=[(7,_),(7,_)]) hy gk (hI _) hIx (by simp[I.ca,kQ]) tw (fun os2 U =>?_) (fun os2 U =>?_)|(refine .ay [0,1,2,5,6,7,8,9,10,11,13,14,15,16,39,52,55,80,88] hK ?_;clear hK K)|(with_reducible refine .done (hK _ ?_);clear hK K)|refine ae.of rfl ?_|(with_reducible refine aB.aE (fun h =>?_) (fun h =>?_) <;>try simp only[h])) <;>try simp only[aG,R,simprocAttr])
    all_goals clear R
    ·have g3:=hI _ os2 U;refine ⟨(i+1,os2),⟨by simp only;omega,by simp only[hs1];exact U⟩,by simp only;omega,?_⟩;refine bx.fn ?_ (nF tw g3) ?_ (fun m x h=>(g3.ok m x h).1)
     ·simp[cw,cq]
     ·simp[cH,I.only,cA,oz]
    ·rw[oh];exact ⟨os2,[],qv (hIx os2 U) tw,trivial,rfl,.inr U⟩
   ·rw[qc] at hy;simp only[if_true] at hy;have R:=y6 @hc (y6 @he (y6 @hw (y6 @hlk (y6 @q (y6 @qc (y6 @n7 (y6 @kL (y6 @j2 (y6 @sx (y6 @eF (y6 @bo (y6 @bZ (y6 @bC (y6 @bA aC))))))))))))))
    repeat' ((first |(with_reducible refine .guard (fun hb =>?_) (fun hb =>?_) <;>try simp only[hb])|(refine ae.rl (gs:=nJ) [] [] [0,1,2,3,4,5,6,7,8,9,10,11] (by decide +kernel) (cU.of (by simp[fi])) fun K hK =>?_;simp only[eU,nJ,zz6,zz7,R,simprocAttr])|refine ae.aF (by decide +kernel) rfl fun K hK =>?_|refine bN.rS (ow:=[(7,_),(7,_),(7,_)]) hy gk (hI _) hIx (by simp[I.ca,kQ]) tx (fun os2 U =>?_) (fun os2 U =>?_)|(refine .ay [0,1,2,5,6,7,8,9,10,11,13,14,15,16,39,52,55,80,88] hK ?_;clear hK K)|(with_reducible refine .done (hK _ ?_);clear hK K)|refine ae.of rfl ?_|(with_reducible refine aB.aE (fun h =>?_) (fun h =>?_) <;>try simp only[h])) <;>try simp only[aG,R,simprocAttr])
    all_goals clear R
    ·have g3:=hI _ os2 U;refine ⟨(i+1,os2),⟨by simp only;omega,by simp only[hs1];exact U⟩,by simp only;omega,?_⟩;refine bx.fn ?_ (nF tx g3) ?_ (fun m x h=>(g3.ok m x h).1)
     ·simp[cw,cq]
     ·simp[cH,I.only,cA,oz]
    ·rw[oh];exact ⟨os2,[],qv (hIx os2 U) tx,trivial,rfl,.inr U⟩
 ·have hge:i=(cm s.bz).length:=by omega
  have hc:=gL hlt;rw[hge] at hIk;rw[hge] at hc ⊢;have R:=y6 @hc (y6 @eF (y6 @bo (y6 @bZ (y6 @bC (y6 @bA aC)))))
  repeat' ((first |(with_reducible refine .guard (fun hb =>?_) (fun hb =>?_) <;>try simp only[hb])|refine ae.aF (by decide +kernel) rfl fun K hK =>?_|(refine .ay [0,1,2,5,6,7,8,9,10,11,13,14,15,16,39,52,55,80,88] hK ?_;clear hK K)|(with_reducible refine .done (hK _ ?_);clear hK K)|refine ae.of rfl ?_|(with_reducible refine aB.aE (fun h =>?_) (fun h =>?_) <;>try simp only[h])) <;>try simp only[aG,R,simprocAttr])
  all_goals clear R
  refine ae.loop (r9 s to v) (fun t=>t.1≤200∧bf (fP s to (cm s.bz).length++gw s to t.1).length t.2) (fun t=>200-t.1) (0,osk) ⟨zy9 _,by simpa[gw] using hIk⟩ ?_ ?_
  ·refine bx.slots ?_ (fun n=>rfl);simp[cw,cq]
  clear hIk gk n7 hc hlt hi hge;rintro ⟨k,osk⟩ ⟨hk,hIk⟩;simp only at hk hIk;have gk:=hI _ osk hIk;have n9:=gk.none (n:=9) (by decide);have n11:=gk.none (n:=11) (by decide);simp only[r9];by_cases hlt:k<200
  ·have hc:decide (((k:Int)+1)≤200)=true:=by simp;omega
   have hw:IntKind.i64.wrap ((k:Int)+1+1)=((k+1:Nat):Int)+1:=by rw[hZ _ (by omega) (by omega)];omega
   have hsu:=pc s to k;have hlg:=Cb vm eQ (fun x:bg=>enc x) (.agg [.int .i64 0,.int .i64 0,.int .i64 0,.int .i64 0]) ⟨to,(k:Int)+1⟩ s.bj;have ew:(enc (⟨to,(k:Int)+1⟩:mz):I)=.agg [.int .i64 to,.int .i64 ((k:Int)+1)]:=rfl;rw[ew] at hlg;have e2:(fun x:bg=>decide ((⟨to,(k:Int)+1⟩:mz)=eQ x))=fun x=>decide (eQ x=⟨to,(k:Int)+1⟩):=by
    funext x;rw[Bool.eq_iff_iff];simp[eq_comm]
   rw[e2] at hlg;have hrb:kp s to (k+1)=match s.bj.find? fun x=>decide (eQ x=⟨to,(k:Int)+1⟩) with
    |some x=>[⟨if x.kind=8 then 4 else 2,s.ar,to,x.aK,(k:Int)+1⟩]
    |none=>[]:=by simp only[kp];rfl
   have gr:=fun x=>VI (s:=s) (to:=to) (k:=k) (x:=x) hlt;cases hf:s.bj.find? fun x=>decide (eQ x=⟨to,(k:Int)+1⟩) with
   |none =>
    rw[hf] at hlg hrb;simp only at hlg hrb;have hlk:fp (.aU [.i .i64,.i .i64]) (.agg [.int .i64 0,.int .i64 0,.int .i64 0,.int .i64 0]) (.agg [.int .i64 to,.int .i64 ((k:Int)+1)]) (s.dp.map enc) (s.bj.map enc)=some (enc gm,false):=hlg;have q:(gm.kind==8)=false:=rfl;rw[hrb,zx0] at hsu;have R:=y6 @hc (y6 @hw (y6 @hlk (y6 @q (y6 @n9 (y6 @n11 (y6 @uK (y6 @kL (y6 @j2 (y6 @eF (y6 @bo (y6 @bZ (y6 @bC (y6 @bA aC)))))))))))))
    repeat' ((first |(with_reducible refine .guard (fun hb =>?_) (fun hb =>?_) <;>try simp only[hb])|refine ae.aF (by decide +kernel) rfl fun K hK =>?_|(refine .ay [0,1,2,5,6,7,8,9,10,11,13,14,15,16,39,52,55,80,88] hK ?_;clear hK K)|(with_reducible refine .done (hK _ ?_);clear hK K)|refine ae.of rfl ?_|(with_reducible refine aB.aE (fun h =>?_) (fun h =>?_) <;>try simp only[h])) <;>try simp only[aG,R,simprocAttr])
    all_goals clear R
    refine ⟨(k+1,osk),⟨by simp only;omega,by simp only[hsu];exact hIk⟩,by simp only;omega,?_⟩;refine bx.fn ?_ (nF (ow:=[(11,_),(11,_),(9,_),(9,_)]) tv gk) ?_ (fun m x h=>(gk.ok m x h).1)
    ·simp[cw,cq]
    ·simp[cH,I.only,oz]
   |some x =>
    rw[hf] at hlg hrb;simp only at hlg hrb;have hlk:fp (.aU [.i .i64,.i .i64]) (.agg [.int .i64 0,.int .i64 0,.int .i64 0,.int .i64 0]) (.agg [.int .i64 to,.int .i64 ((k:Int)+1)]) (s.dp.map enc) (s.bj.map enc)=some (enc x,true):=hlg;obtain ⟨g1,g2⟩:=gr _ hrb;rw[hrb] at hsu;have hs1:(fP s to (cm s.bz).length++gw s to (k+1)).length=(fP s to (cm s.bz).length++gw s to k).length+1:=by rw[hsu];simp only[Z6,zx5,List.length_nil];omega
    have hy:=hY _ osk _ g1 hIk (fun r os2 h=>h);simp only[g2] at hy;rcases q:(x.kind==8)
    ·have qk:¬ x.kind=8:=by simpa using q
     simp only[if_neg qk] at hy;have R:=y6 @hc (y6 @hw (y6 @hlk (y6 @q (y6 @n9 (y6 @n11 (y6 @uK (y6 @kL (y6 @j2 (y6 @sx (y6 @eF (y6 @bo (y6 @bZ (y6 @bC (y6 @bA aC))))))))))))))
     repeat' ((first |(with_reducible refine .guard (fun hb =>?_) (fun hb =>?_) <;>try simp only[hb])|refine ae.aF (by decide +kernel) rfl fun K hK =>?_|refine aR.rS (ow:=[(11,_),(11,_),(9,_),(9,_)]) hy gk (hI _) hIx (by simp[I.ca,kQ]) tv (fun os2 U =>?_) (fun os2 U =>?_)|(refine .ay [0,1,2,5,6,7,8,9,10,11,13,14,15,16,39,52,55,80,88] hK ?_;clear hK K)|(with_reducible refine .done (hK _ ?_);clear hK K)|refine ae.of rfl ?_|(with_reducible refine aB.aE (fun h =>?_) (fun h =>?_) <;>try simp only[h])) <;>try simp only[aG,R,simprocAttr])
     all_goals clear R
     ·have g3:=hI _ os2 U;refine ⟨(k+1,os2),⟨by simp only;omega,by simp only[hs1];exact U⟩,by simp only;omega,?_⟩;refine bx.fn ?_ (nF tv g3) ?_ (fun m x h=>(g3.ok m x h).1)
      ·simp[cw,cq]
      ·simp[cH,I.only,oz]
     ·rw[oh];exact ⟨os2,[],qv (hIx os2 U) tv,trivial,rfl,.inr U⟩
    ·have qk:x.kind=8:=by simpa using q
     simp only[if_pos qk] at hy;have R:=y6 @hc (y6 @hw (y6 @hlk (y6 @q (y6 @n9 (y6 @n11 (y6 @uK (y6 @kL (y6 @j2 (y6 @sx (y6 @eF (y6 @bo (y6 @bZ (y6 @bC (y6 @bA aC))))))))))))))
     repeat' ((first |(with_reducible refine .guard (fun hb =>?_) (fun hb =>?_) <;>try simp only[hb])|refine ae.aF (by decide +kernel) rfl fun K hK =>?_|refine aR.rS (ow:=[(11,_),(11,_),(11,_),(9,_),(9,_)]) hy gk (hI _) hIx (by simp[I.ca,kQ]) wV (fun os2 U =>?_) (fun os2 U =>?_)|(refine .ay [0,1,2,5,6,7,8,9,10,11,13,14,15,16,39,52,55,80,88] hK ?_;clear hK K)|(with_reducible refine .done (hK _ ?_);clear hK K)|refine ae.of rfl ?_|(with_reducible refine aB.aE (fun h =>?_) (fun h =>?_) <;>try simp only[h])) <;>try simp only[aG,R,simprocAttr])
     all_goals clear R
     ·have g3:=hI _ os2 U;refine ⟨(k+1,os2),⟨by simp only;omega,by simp only[hs1];exact U⟩,by simp only;omega,?_⟩;refine bx.fn ?_ (nF wV g3) ?_ (fun m x h=>(g3.ok m x h).1)
      ·simp[cw,cq]
      ·simp[cH,I.only,oz]
     ·rw[oh];exact ⟨os2,[],qv (hIx os2 U) wV,trivial,rfl,.inr U⟩
  ·have hc:decide (((k:Int)+1)≤200)=false:=by simp;omega
   have hge:k=200:=by omega
   have R:=y6 @hc (y6 @eF (y6 @bo (y6 @bZ (y6 @bC (y6 @bA aC)))))
   repeat' ((first |(with_reducible refine .guard (fun hb =>?_) (fun hb =>?_) <;>try simp only[hb])|refine ae.aF (by decide +kernel) rfl fun K hK =>?_|(refine .ay [0,1,2,5,6,7,8,9,10,11,13,14,15,16,39,52,55,80,88] hK ?_;clear hK K)|(with_reducible refine .done (hK _ ?_);clear hK K)|refine ae.of rfl ?_|(with_reducible refine aB.aE (fun h =>?_) (fun h =>?_) <;>try simp only[h])) <;>try simp only[aG,R,simprocAttr])
   all_goals clear R
   rw[me];refine ⟨osk,[],qv (ow:=[]) gk Yd,trivial,rfl,.inl ?_⟩;rw[fj];rw[hge] at hIk;exact hIk
def Er(o:Option aD):I:=match o with
 |some s=>.tuple [dH s,.bool true]
 |none=>.tuple [.nilp,.bool false]
theorem Gf(ar:Int)(l:List bg)(ao:l.length≤200):bd Tryz.prog 62 [enc ar,enc l] (Er (fC ar l)):=by
 refine bd.b6 Tryz.func62 zZ Ao Aw (u8 rfl) (fun hwf W0 bG E1 =>?_);simp only[uX,xc,bH,Z1];clear hwf;have R:=y6 @bZ (y6 @bC (y6 @bA aC))
 repeat' ((first |refine ae.aF (by decide +kernel) rfl fun K hK =>?_|refine aR.eM rfl (fun _ _ _=>rfl) ?_|(refine .ay [0,1,4,5,6,8,11,12,13,14,20] hK ?_;clear hK K)|(with_reducible refine .done (hK _ ?_);clear hK K)|refine ae.of rfl ?_|(with_reducible refine aB.aE (fun h =>?_) (fun h =>?_) <;>try simp only[h])) <;>try simp only[aG,R,simprocAttr])
 all_goals clear R
 refine ae.loop (r7 l) (fun t=>t.1≤l.length∧fI (eM ar) (l.take t.1)=some t.2) (fun t=>l.length-t.1) (0,eM ar) ⟨zy9 _,rfl⟩ ?_ ?_
 ·rw[zx0];refine bx.fn ?_ (fun n=>.inr rfl) ?_ (fun n x h=>(lx (kj ar) h).1)
  ·simp[cw,cq]
  ·have:=(dP (iE (eM ar).all.length) (n:=2000)).2 (.inl (by omega));simp[cH,I.only,cA,this]
 rintro ⟨i,s⟩ ⟨hi,hrun⟩;simp only at hi hrun;obtain ⟨hk,hme,hln⟩:=mi (kj ar) hrun;have hln2:s.all.length≤i:=by simpa[eM,hi] using hln
 have n8:aj (du s) 8=none:=eG (.inl (by omega)) fun i _=>by simp[bD];omega
 simp only[r7];by_cases hlt:i<l.length
 ·have hc:=gx hlt;have he:=fun A=>fb (A:=A) 4 hlt rfl;have hw:=gq (i:=i) (by omega);have hst:∀ A rest,db A (some 4) 8 [] (.agg [.int .i64 0,.int .i64 0,.int .i64 0,.int .i64 0]) (enc l[i]) rest (some (.agg [.int .i64 0,.int .i64 0,.int .i64 0,.int .i64 0]))=az rest (A.aS 8 (.box (enc l[i]))):=fun A rest=>dE (eh _) (by rw[fh];rfl) (eI _);have how:∀ (a b:aq) m,2000≤m→aj [(8,a),(8,b)] m=none:=fun a b m hm=>by simp only[aj];rw[if_neg (by omega),if_neg (by omega)]
  have hsp:l=l.take i++l[i]::l.drop (i+1):=by simp
  cases hn:gp s l[i] with
  |none =>
   have ab:ef s l[i]=(s,false):=by simp[ef,hn]
   have R:=y6 @hc (y6 @he (y6 @hst (y6 @n8 (y6 @bo (y6 @bZ (y6 @bC (y6 @bA aC)))))))
   repeat' ((first |refine ae.aF (by decide +kernel) rfl fun K hK =>?_|refine aR.rL (ow:=[(8,_),(8,_)]) hk (by omega) rfl (how _ _) ab ?_|(refine .ay [0,1,4,5,6,8,11,12,13,14,20] hK ?_;clear hK K)|(with_reducible refine .done (hK _ ?_);clear hK K)|refine ae.of rfl ?_|(with_reducible refine aB.aE (fun h =>?_) (fun h =>?_) <;>try simp only[h])) <;>try simp only[aG,R,simprocAttr])
   all_goals clear R
   have hno:fC ar l=none:=by
    rw[fC,hsp,pJ,hrun];simp only[Option.bind_some,fI,hn]
   rw[hno];rfl
  |some s2 =>
   have ab:ef s l[i]=(s2,true):=by simp[ef,hn]
   have R:=y6 @hc (y6 @he (y6 @hst (y6 @hw (y6 @n8 (y6 @bZ (y6 @bC (y6 @bA aC)))))))
   repeat' ((first |refine ae.aF (by decide +kernel) rfl fun K hK =>?_|refine aR.rL (ow:=[(8,_),(8,_)]) hk (by omega) rfl (how _ _) ab ?_|(refine .ay [0,1,4,5,6,8,11,12,13,14,20] hK ?_;clear hK K)|(with_reducible refine .done (hK _ ?_);clear hK K)|refine ae.of rfl ?_|(with_reducible refine aB.aE (fun h =>?_) (fun h =>?_) <;>try simp only[h])) <;>try simp only[aG,R,simprocAttr])
   all_goals clear R
   obtain ⟨hk2,hme2,hln3⟩:=xP hk hn;refine ⟨(i+1,s2),⟨by simp only;omega,?_⟩,by simp only;omega,?_⟩
   ·rw[zz3 hlt,pJ,hrun];simp only[Option.bind_some,fI,hn]
   ·refine bx.fn ?_ (fun n =>?_) ?_ (fun n x h=>(lx hk2 h).1)
    ·simp[cw,cq]
    ·simp only[fH];cases aj (du s2) n with
     |none=>exact .inl rfl
     |some y=>exact .inr rfl
    ·have:=(dP (iE s2.all.length) (n:=2000)).2 (.inl (by omega));simp[cH,I.only,cA,this]
 ·have hge:i=l.length:=by omega
  have hc:=gL hlt;subst hge;rw[zw1] at hrun;have hfin:∀ ts,cW (av ts (du s)) 9 (.agg [.int .i64 s.ar,.mref 2001,.mref 2002,.int .i64 s.all.length,.mref 2003,.mref 2004])=some (fT s):=fun ts=>gU (gX (iE _) hk.cB fun n _=>rfl) 4;have hla:aj (du s) 2000=some (.box (.agg [.int .i64 s.ar,.mref 2001,.mref 2002,.int .i64 s.all.length,.mref 2003,.mref 2004])):=fw;have hrd:fC ar l=some s:=hrun;rw[hrd];have R:=y6 @hc (y6 @hfin (y6 @hla (y6 @wG (y6 @bo (y6 @bZ (y6 @bC (y6 @bA aC)))))))
  repeat' ((first |refine ae.aF (by decide +kernel) rfl fun K hK =>?_|(refine .ay [0,1,4,5,6,8,11,12,13,14,20] hK ?_;clear hK K)|(with_reducible refine .done (hK _ ?_);clear hK K)|refine ae.of rfl ?_|(with_reducible refine aB.aE (fun h =>?_) (fun h =>?_) <;>try simp only[h])) <;>try simp only[aG,R,simprocAttr])
  all_goals clear R
  rfl
theorem Gg(s:aD)(to:Int):bd Tryz.prog 63 [dH s,enc to] (.func 107 [.ref (dH s),.ref (enc to)]):=by
 refine bd.b6 Tryz.func63 IB JF KX (u8 rfl) (fun hwf W0 bG E1 =>?_);simp only[zk,DV,bH,Z1];clear hwf;have hall:([I.ptr 2 [],I.ptr 3 []].all fun y=>y.bR)=true:=rfl;have hv:∀ k n,(I.int k n).bR=true:=fun _ _=>rfl;have R:=y6 @hall (y6 @hv (y6 @eF (y6 @bo (y6 @bZ (y6 @bC (y6 @bA aC))))))
 repeat' ((first |refine ae.aF (by decide +kernel) rfl fun K hK =>?_|(refine .ay [0,1,2,3,4] hK ?_;clear hK K)|(with_reducible refine .done (hK _ ?_);clear hK K)|refine ae.of rfl ?_|(with_reducible refine aB.aE (fun h =>?_) (fun h =>?_) <;>try simp only[h])) <;>try simp only[aG,R,simprocAttr])
 all_goals clear R
theorem Wp{s:aD}(hk:cC s)(to:Int):(fP s to (cm s.bz).length).Nodup:=by
 have hn:s.bz.Nodup:=by
  simp only[aD.bz];exact List.Pairwise.map _ (fun a b h e=>h (by omega)) hk.iJ
 have ab:(cm s.bz).Nodup:=(List.mergeSort_perm _ _).nodup_iff.2 hn;rw[fP,zw1];have hf:=ab.filter (oE s to);exact List.Pairwise.map _ (fun a b h e=>h (by simpa[nd] using congrArg c8.no e)) hf
theorem wb{s:aD}{to:Int} : ∀ {k:Nat} {x:c8},x∈gw s to k→x.no≤k∧(x.kind=2∨x.kind=4)
 |0,x,h=>by simp[gw] at h
 |k+1,x,h=>by
  rw[pc] at h;rcases zy7.1 h with h | h
  ·have:=wb h;omega
  ·simp only[kp] at h;split at h
   ·rw[zy3.1 h];refine ⟨by simp,?_⟩;simp only;split <;>simp
   ·cases h
theorem BV(s:aD)(to:Int):∀ k,(gw s to k).Nodup
 |0=>by simp[gw]
 |k+1=>by
  rw[pc];refine List.nodup_append.2 ⟨BV s to k,?_,fun a ha b hb e =>?_⟩
  ·simp only[kp];split <;>simp
  ·have J:=(wb ha).1;have U:b.no=(k:Int)+1:=by
    simp only[kp] at hb;split at hb
    ·rw[zy3.1 hb];simp
    ·cases hb
   rw[e] at J;omega
theorem Y1{s:aD}(hk:cC s)(to:Int):(fj s to).Nodup:=by
 refine List.nodup_append.2 ⟨Wp hk to,BV s to 200,fun a ha b hb e =>?_⟩;have J:=(wb hb).2;rw[←e] at J;simp only[fP,zy0] at ha;obtain ⟨n,_,rfl⟩:=ha;simp only[nd] at J;split at J <;>omega
def fO(p:bu):List bg:=p.j.take p.cE.toNat
def l3(p:bu)(to:Int):List c8×Int:=match dn p with
 |none=>([],91)
 |some _=>if c4 0 5 to=false∨to=p.ar then ([],90) else match fC p.ar (fO p) with
  |some s=>(fj s to,0)
  |none=>([],0)
theorem A8{p:bu}{s:aD}(ho:dn p=some s):0≤p.cE∧p.cE.toNat≤p.j.length∧∃ s2,fC p.ar (fO p)=some s2∧cC s2∧s2.aQ.length≤200:=by
 obtain ⟨_,_,_,au,h5,h6⟩:=iL ho;simp only[ic,c4,t8,decide_eq_true_eq] at h5;obtain ⟨_,_,h7,h8⟩:=h5;have hsp:p.j=fO p++p.j.drop p.cE.toNat:=by simp[fO]
 rw[fC,hsp,pJ] at h6;cases hr:fI (eM p.ar) (fO p) with
 |none=>rw[hr] at h6;cases h6
 |some s2 =>
  refine ⟨h7,by omega,s2,hr,(mi (kj p.ar) hr).1,?_⟩;have:=xq hr;simp only[eM,List.length_nil,fO,zy4] at this;omega
theorem Zi{A:ai}{l:List bg}{i:Nat}(h:i≤l.length):ji A 4 none (some (.int .i64 i)) (some (.int .i64 i)) (enc l)=some (if i=0 then .c0 4 else enc (l.take i)):=by
 simp only[ji,hl,show Enc.sz bg=4 from rfl,if_true,iR,jo,Z9];rw[if_pos ⟨by omega,by omega,by omega,by omega⟩];by_cases aY:i=0
 ·simp[aY]
 ·rw[if_neg (by simp;omega),if_neg aY];simp
theorem mr{i:Nat}(l:List bg)(aN:Bool)(A:ai):bh aN A (if i=0 then .c0 4 else enc (l.take i))=some (enc (l.take i)):=by
 by_cases aY:i=0
 ·rw[if_pos aY,aY];simp only[bh];rfl
 ·rw[if_neg aY,lJ]
theorem BU(s:aD)(to:Int):∀ k,(gw s to k).length≤k
 |0=>by simp[gw]
 |k+1=>by
  have J:=BU s to k;have U:(kp s to (k+1)).length≤1:=by simp only[kp];split <;>simp
  rw[pc,Z6];omega
theorem Y0(s:aD)(to:Int):(fj s to).length≤s.aQ.length+200:=by
 have J:=BU s to 200;have U:(fP s to (cm s.bz).length).length≤s.aQ.length:=by
  simp only[fP,Z9,zw1];refine zw3 (List.length_filter_le _ _) ?_;simp[cm,aD.bz]
 rw[fj,Z6];omega
def iT(xs:List c8):List (Nat×aq):=[(1000009,.box (.own 1000080 xs.length)),(1000080,.bU 39 5 (xs.map enc))]
theorem Zr(xs ys:List c8):eY (iT xs) (iT ys):=by
 refine ⟨fun n=>by simp only[iT,aw,aj];(repeat' split) <;>rfl,fun n x h =>?_,fun n h =>?_⟩
 ·simp only[iT,aj] at h
  repeat' split at h
  all_goals first | (cases h;done) | (simp only[v6] at h;subst h;exact ⟨by simp[iT,aw,aj,aq.only,I.only,fu],rfl⟩)
 ·simp only[iT,aw,aj] at h
  repeat' split at h
  all_goals first | omega | (simp at h;done)
theorem rY(p:bu)(to:Int):bd Tryz.prog 14 [enc p,enc to] (.tuple [enc (l3 p to).1,enc (l3 p to).2]):=by
 refine bd.b6 Tryz.func14 Ib Ji Kz (u8 rfl) (fun hwf W0 bG E1 =>?_);simp only[yS,Dw,bH,Z1];clear hwf;have hF:=r0 p;simp only[oQ] at hF;simp only[l3];cases ho:dn p with
 |none =>
  rw[ho] at hF;have R:=y6 @cn (y6 @bo (y6 @bZ (y6 @bC (y6 @bA aC))))
  repeat' ((first |(with_reducible refine .guard (fun hb =>?_) (fun hb =>?_) <;>try simp only[hb])|refine ae.aF (by decide +kernel) rfl fun K hK =>?_|refine .lead _ (hF) ?_|(refine .ay [0,1,2,4,5,6,7,9,10,14,24,40,41,54] hK ?_;clear hK K)|(with_reducible refine .done (hK _ ?_);clear hK K)|refine ae.of rfl ?_|(with_reducible refine aB.aE (fun h =>?_) (fun h =>?_) <;>try simp only[h])) <;>try simp only[aG,R,simprocAttr])
  all_goals clear R
  all_goals rfl
 |some s =>
  obtain ⟨f1,f2,s2,hr,hk,hl2⟩:=A8 ho;have hjl:=(iL ho).2.2.2.1;rw[ho] at hF
  dsimp only at hF ⊢
  have hT:=mw to;rcases q2:c4 0 5 to
  ·rw[q2] at hT;simp only[true_or,if_true];have R:=y6 @cn (y6 @bo (y6 @bZ (y6 @bC (y6 @bA aC))))
   repeat' ((first |(with_reducible refine .guard (fun hb =>?_) (fun hb =>?_) <;>try simp only[hb])|refine ae.aF (by decide +kernel) rfl fun K hK =>?_|refine .lead _ (hF) ?_|refine .flat _ (hT) rfl ?_|(refine .ay [0,1,2,4,5,6,7,9,10,14,24,40,41,54] hK ?_;clear hK K)|(with_reducible refine .done (hK _ ?_);clear hK K)|refine ae.of rfl ?_|(with_reducible refine aB.aE (fun h =>?_) (fun h =>?_) <;>try simp only[h])) <;>try simp only[aG,R,simprocAttr])
   all_goals clear R
   all_goals rfl
  rw[q2] at hT;rcases q3:(to==p.ar)
  case true =>
   have e:to=p.ar:=by simpa using q3
   simp only[Bool.true_eq_false,false_or,if_pos e];have R:=y6 @q3 (y6 @cn (y6 @bo (y6 @bZ (y6 @bC (y6 @bA aC)))))
   repeat' ((first |(with_reducible refine .guard (fun hb =>?_) (fun hb =>?_) <;>try simp only[hb])|refine ae.aF (by decide +kernel) rfl fun K hK =>?_|refine .lead _ (hF) ?_|refine .flat _ (hT) rfl ?_|(refine .ay [0,1,2,4,5,6,7,9,10,14,24,40,41,54] hK ?_;clear hK K)|(with_reducible refine .done (hK _ ?_);clear hK K)|refine ae.of rfl ?_|(with_reducible refine aB.aE (fun h =>?_) (fun h =>?_) <;>try simp only[h])) <;>try simp only[aG,R,simprocAttr])
   all_goals clear R
   all_goals rfl
  have e:¬ to=p.ar:=by simpa using q3
  simp only[Bool.true_eq_false,false_or,if_neg e,hr];have hR:=Gf p.ar (fO p) (by simp only[fO,zy4];omega);rw[hr] at hR;simp only[Er] at hR;obtain ⟨w,hsl,hfw⟩:∃ w:I,(∀ A,ji A 4 none (some (.int .i64 p.cE)) (some (.int .i64 p.cE)) (enc p.j)=some w)∧∀ aN A,bh aN A w=some (enc (fO p)) :=
   ⟨_,fun A=>by
    have:=Zi (A:=A) (l:=p.j) (i:=p.cE.toNat) f2;rw[show ((p.cE.toNat:Nat):Int)=p.cE by omega] at this;exact this,fun aN A=>mr p.j aN A⟩
  have h63:=Gg s2 to;have R:=y6 @q3 (y6 @hsl (y6 @hfw (y6 @eF (y6 @cn (y6 @bo (y6 @bZ (y6 @bC (y6 @bA aC))))))))
  repeat' ((first |(with_reducible refine .guard (fun hb =>?_) (fun hb =>?_) <;>try simp only[hb])|refine ae.aF (by decide +kernel) rfl fun K hK =>?_|refine .lead _ (hF) ?_|refine .flat _ (hT) rfl ?_|refine .lead _ (hR) ?_|refine .lead _ (h63) ?_|(refine .ay [0,1,2,4,5,6,7,9,10,14,24,40,41,54] hK ?_;clear hK K)|(with_reducible refine .done (hK _ ?_);clear hK K)|refine ae.of rfl ?_|(with_reducible refine aB.aE (fun h =>?_) (fun h =>?_) <;>try simp only[h])) <;>try simp only[aG,R,Option.map_none,simprocAttr])
  all_goals clear R
  have hcap:I.ca [.ref (dH s2),.ref (.int .i64 to)]=true:=by simp[I.ca,I.bw,oy]
  refine ae.sub (bx.GR 9 80 39 5 5 [] _ rfl rfl rfl (B:=av [(9,.ptr 9 []),(40,.func 107 [.ref (dH s2),.ref (.int .i64 to)])] [(9,.box (.own 80 0)),(80,.bU 39 5 [])]) ?_) ?_
  ·simp only[ot];refine bx.df ?_ ?_ ?_ ?_ <;>simp[*,cw,cY,cH,cJ,aw,cq,dx,I.only,I.ct,aq.only,oz]
  have hnd:=Y1 hk to;refine ae.mf (osb0:=iT []) (tsR:=[(9,.ptr 1000009 [])]) (ρ:=[(1999999,999999),(1000009,9),(1000080,80)])
   (fun k os=>os=iT ((fj s2 to).take k))
   (fun _ _=>False)
   ⟨rfl,rfl⟩ (u8 rfl) (by simp only[bF,simprocAttr]) hcap zL (FC s2 to (by omega)) (fun _=>rfl) rfl rfl rfl (fun o=>⟨?_,?_⟩) ?_ ?_ ?_ ?_ ?_ ?_ ?_
  ·intro n x hx;simp only[ep,iT,aj] at hx
   repeat' split at hx
   all_goals first | (cases hx;done) | (subst_vars;simp only[v6] at hx;subst hx;simp[ep,iT,aw,bI,aj,aq.bm,I.bm,I.dX,aq.only,I.only,I.ct,aq.ej])
  ·intro a b ha hb;simp only[ep,iT,aw,aj] at ha hb
   repeat' split at ha
   all_goals first | (simp at ha;done) | skip
   all_goals (repeat' split at hb)
   all_goals first | (simp at hb;done) | (subst_vars;simp[bI])
  ·simp[nl,cq,I.bm,bI,I.only,iT,aw,aj]
  ·rintro k os rfl;exact Zr ..
  ·rintro e os h;exact h.elim
  ·simp[iT]
  ·rintro k osb hk' rfl W1 D1 E1 qF o1 o2;obtain ⟨r,hr0⟩:∃ r,r=(fj s2 to).getD k tH:=⟨_,rfl⟩
   have hri:(fj s2 to)[k]=r:=by rw[hr0];simp[Z0,hk']
   have hsu:(fj s2 to).take (k+1)=(fj s2 to).take k++[r]:=by rw[zz3 hk',hri]
   have hN2:(fj s2 to).length≤400:=by
    have J:=Y0 s2 to;omega
   have hk2:k<400:=Nat.lt_of_lt_of_le hk' hN2;have hlast:∀ j,j+1=k→∃ u,((fj s2 to).take k)[j]?=some u∧u≠r:=fun j hj=>by
    refine ⟨(fj s2 to)[j],by rw[List.getElem?_take_of_lt (by omega),zz4],fun e =>?_⟩;rw[←hri] at e;have:=(List.getElem_inj hnd).1 e;omega
   have hxl:((fj s2 to).take k).length=k:=by rw[zy4];omega
   generalize (fj s2 to).take k=xs at hsu hlast hxl ⊢;simp only[←hr0,tC,ep,iT];have hst:∀ A rest b x y z w u,db A (some 5) 10 [] b (enc r) rest (some (.agg [.int .i64 x,.int .i64 y,.int .i64 z,.int .i64 w,.int .i64 u]))=az rest (A.aS 10 (.box (enc r))):=fun A rest b x y z w u=>j2.1 A 10 b rest r x y z w u;have R:=y6 @hst (y6 @cn (y6 @bo (y6 @bZ (y6 @bC (y6 @bA aC)))))
   repeat' ((first |(with_reducible refine .guard (fun hb =>?_) (fun hb =>?_) <;>try simp only[hb])|refine ae.aF (by decide +kernel) rfl fun K hK =>?_|(refine .ay [0,1,2,4,5,6,7,9,10,14,24,40,41,54] hK ?_;clear hK K)|(with_reducible refine .done (hK _ ?_);clear hK K)|refine ae.of rfl ?_|(with_reducible refine aB.aE (fun h =>?_) (fun h =>?_) <;>try simp only[h])) <;>try simp only[aG,R,simprocAttr])
   all_goals clear R
   refine ⟨by simp[],?_⟩;have stOwn:∀ (A:ai) n b m k m' k' rest,db A none n [] b (.own m k) rest (some (.own m' k'))=az rest (A.aS n (.box (.own m k))) :=
    fun _ _ _ m k m' k' _=>by rw[dE (s:=none) (v:=.own m k) (old:=.own m' k') rfl rfl rfl,ot]
   have hbs:fm 5 (some [enc r])=some (enc [r]):=iw 5 r rfl;have hap:=fun (A:ai) d rest=>nA (A:=A) (d:=d) 39 5 40 1000080 (l:=xs.length) (es:=xs) (ys:=[r]) (rest:=rest) rfl rfl (by simp) (by simp[maxLen];omega) (by simp;omega);have iv:∀ ts z1 z2 z3 z4 z5,EL o2 (fun os=>os=[(1000009,.box (.own 1000080 ((fj s2 to).take (k+1)).length)),(1000080,.bU 39 5 (((fj s2 to).take (k+1)).map enc))]) (fun _ _=>False) .normal
     (av ts [(1000009,.box (.own 1000080 (xs++[r]).length)),(1000080,.bU 39 5 ((xs++[r]).map enc)),(1999999,.dK o2),(10,z1),(10,z2),(1999999,z3),(1000009,z4),(1000080,z5)]):=fun ts z1 z2 z3 z4 z5=>by
    refine ⟨_,?_,rfl⟩;rw[hsu];intro n x hx;simp only[ep,aj] at hx
    (repeat' split at hx) <;>first
     |(cases hx;done)
     |(subst_vars;simp only[v6] at hx;subst hx;simp[ep,aw,av,aj,aq.only,I.only,aq.ej,fu,-List.map_append])
   have hle:=fun (A:ai) (h:A.o 1000080=some (.bU 39 5 (xs.map enc)))=>WH A 1000080 xs.length 39 5 xs h rfl;by_cases aY:k=0
   ·have hz:((xs.length:Int)==0)=true:=by rw[beq_iff_eq];omega
    have R:=y6 @hle (y6 @hz (y6 @hbs (y6 @hap (y6 @stOwn (y6 @cn (y6 @bo (y6 @bZ (y6 @bC (y6 @bA aC)))))))))
    repeat' ((first |(with_reducible refine .guard (fun hb =>?_) (fun hb =>?_) <;>try simp only[hb])|refine ae.aF (by decide +kernel) rfl fun K hK =>?_|(refine .ay [0,1,2,4,5,6,7,9,10,14,24,40,41,54] hK ?_;clear hK K)|(with_reducible refine .done (hK _ ?_);clear hK K)|refine ae.of rfl ?_|(with_reducible refine aB.aE (fun h =>?_) (fun h =>?_) <;>try simp only[h])) <;>try simp only[aG,R,simprocAttr])
    all_goals clear R
    exact iv _ _ _ _ _ _
   ·have hz:((xs.length:Int)==0)=false:=by rw[beq_eq_false_iff_ne];omega
    obtain ⟨u,hu,hne⟩:=hlast (k-1) (by omega);have hw1:IntKind.i64.wrap ((xs.length:Int)-1)=((k-1:Nat):Int):=by rw[hZ _ (by omega) (by omega)];omega
    have hq:=AH u r;rw[decide_eq_false hne] at hq;have hie:=fun (A:ai) (h:A.o 1000080=some (.bU 39 5 (xs.map enc)))=>(by
     have hu2:(xs.map (enc (α:=c8)))[k-1]?=some (enc u):=by rw[zz9,hu];rfl
     have hc:xs.length=(xs.map (enc (α:=c8))).length∧True∧(0:Int)≤((k-1:Nat):Int)∧((k-1:Nat):Int)<((xs.map (enc (α:=c8))).length:Nat):=⟨by simp,trivial,by omega,by simp;omega⟩
     simp only[jP,h];rw[if_pos hc,Int.toNat_natCast,hu2];rfl:jP A 5 ((k-1:Nat):Int) (.own 1000080 xs.length)=some (.ref (enc u)))
    have R:=y6 @hle (y6 @hz (y6 @hw1 (y6 @hie (y6 @hq (y6 @hbs (y6 @hap (y6 @stOwn (y6 @cn (y6 @bo (y6 @bZ (y6 @bC (y6 @bA aC))))))))))))
    repeat' ((first |(with_reducible refine .guard (fun hb =>?_) (fun hb =>?_) <;>try simp only[hb])|refine ae.aF (by decide +kernel) rfl fun K hK =>?_|(refine .ay [0,1,2,4,5,6,7,9,10,14,24,40,41,54] hK ?_;clear hK K)|(with_reducible refine .done (hK _ ?_);clear hK K)|refine ae.of rfl ?_|(with_reducible refine aB.aE (fun h =>?_) (fun h =>?_) <;>try simp only[h])) <;>try simp only[aG,R,simprocAttr])
    all_goals clear R
    all_goals exact iv _ _ _ _ _ _
  ·rintro os rfl;rw[zw1];simp only[iT,dF,Z4,zy6,bI,aq.bm,I.bm,tJ,eA,jK,reduceIte,Nat.reduceEqDiff,Z7,zx6];have hfo:ke (fj s2 to).length (some (.bU 39 5 ((fj s2 to).map enc)))=some (enc (fj s2 to)):=oZ 5 rfl rfl;have R:=y6 @hfo (y6 @cn (y6 @bo (y6 @bZ (y6 @bC (y6 @bA aC)))))
   repeat' ((first |(with_reducible refine .guard (fun hb =>?_) (fun hb =>?_) <;>try simp only[hb])|refine ae.aF (by decide +kernel) rfl fun K hK =>?_|(refine .ay [0,1,2,4,5,6,7,9,10,14,24,40,41,54] hK ?_;clear hK K)|(with_reducible refine .done (hK _ ?_);clear hK K)|refine ae.of rfl ?_|(with_reducible refine aB.aE (fun h =>?_) (fun h =>?_) <;>try simp only[h])) <;>try simp only[aG,R,simprocAttr])
   all_goals clear R
  ·rintro e os h;exact h.elim
def vn:bu:=⟨0,[],0⟩
def vp:bu:=⟨0,[⟨1,7,0,0⟩],0⟩
def vq:bu:=⟨0,[⟨1,7,0,0⟩],1⟩
def nG:bu:=⟨0,[⟨1,7,0,0⟩,⟨3,7,1,1⟩],1⟩
def nH:bu:=⟨0,[⟨1,7,0,0⟩,⟨3,7,1,1⟩],2⟩
def vr:bu:=⟨0,[⟨1,7,0,0⟩,⟨3,7,1,1⟩,⟨5,7,1,1⟩],2⟩
def vt:bu:=⟨1,[],0⟩
def qf:bu:=⟨1,[⟨7,7,0,1⟩],0⟩
def vu:bu:=⟨1,[⟨7,7,0,1⟩],1⟩
def oW:c8:=⟨1,0,1,7,1⟩
def oX:c8:=⟨2,1,0,7,1⟩
def vv:fg:=⟨⟨#[112,111,117,110,100,32,48,32,49,10,112,111,117,110,100,32,55,10,115,101,110,100,32,55,32,49,32,49,10]⟩⟩
theorem MA:qR 0=(vn,0):=by decide +kernel
theorem MK:qR 1=(vt,0):=by decide +kernel
theorem MC:jd vn 7=(vp,0):=by decide +kernel
theorem MD:j5 vp=(vq,0):=by decide +kernel
theorem ME:rC vq 7 1=(nG,⟨1,1,7,false⟩,0):=by decide +kernel
theorem MF:l3 nG 1=([],0):=by decide +kernel
theorem MG:tB nG=(vv,0):=by decide +kernel
theorem MH:j5 nG=(nH,0):=by decide +kernel
theorem MI:l3 nH 1=([oW],0):=by decide +kernel
theorem ML:qu vt oW=(qf,0):=by decide +kernel
theorem MP:ue [nH,qf] 7=([1],0):=by decide +kernel
theorem MN:j5 qf=(vu,0):=by decide +kernel
theorem MO:l3 vu 0=([oX],0):=by decide +kernel
theorem MJ:qu nH oX=(vr,0):=by decide +kernel
theorem MB:tL vr=([],0):=by decide +kernel
theorem HK(a b c d:Int):(dT [.int .i64 0,.int .i64 0,.int .i64 0,.int .i64 0,.int .i64 0] [(0,.int .i64 a),(2,.int .i64 b),(3,.int .i64 c),(4,.int .i64 d)]).map I.agg=some (enc (⟨a,0,b,c,d⟩:c8)):=by simp[dT,I.bR,I.size];rfl
theorem HL(a b c d:Int):(dT [.int .i64 0,.int .i64 0,.int .i64 0,.int .i64 0,.int .i64 0] [(0,.int .i64 a),(1,.int .i64 b),(3,.int .i64 c),(4,.int .i64 d)]).map I.agg=some (enc (⟨a,b,0,c,d⟩:c8)):=by simp[dT,I.bR,I.size];rfl
theorem HQ(r:c8):fm 5 (some [enc r])=some (enc [r]):=iw 5 r rfl
theorem HU(a b:bu):fm 3 (some [enc a,enc b])=some (enc [a,b]):=p8 (ys:=[a,b]) 3 rfl
theorem Mu(s:fg)(b:ByteArray)(h:s.b=b):cD .eql (enc s) (.bP b)=some (.bool true):=by
 subst h
 show cD .eql (.bP s.b) (.bP s.b)=_
 simp[cD]
theorem F0:bd Tryz.prog 18 [] (enc true):=by
 have J:=xY 0;have U:=xY 1;have ah:=F2 vn 7;have au:=rW vp;have h5:=F4 vq 7 1;have h6:=rY nG 1;have h7:=F9 nG;have h8:=rW nG;have h9:=rY nH 1;have h10:=xZ vt oW;have h11:=F5 [nH,qf] 7;have h12:=rW qf;have h13:=rY vu 0;have h14:=xZ nH oX;have h15:=F7 vr;rw[MA] at J;rw[MK] at U;rw[MC] at ah;rw[MD] at au;rw[ME] at h5;rw[MF] at h6;rw[MG] at h7;rw[MH] at h8;rw[MI] at h9;rw[ML] at h10;rw[MP] at h11;rw[MN] at h12;rw[MO] at h13;rw[MJ] at h14;rw[MB] at h15;simp only at J U ah au h5 h6 h7 h8 h9 h10 h11 h12 h13 h14 h15;have h16:=um [oW] [oW];have h17:=um [oX] [oX];have h18:=F6 [1] [1];rw[decide_eq_true rfl] at h16 h17 h18;refine bd.b6 Tryz.func18 Ih Jn KF (u8 rfl) (fun hwf W0 bG E1 =>?_);simp only[yX,DE,bH];clear hwf;have q3:((0:Int)==0)=true:=rfl;have hst:∀ A n b rest x y z w (q:dc),db A (some 4) n [] b (enc q) rest (some (.agg [.int .i64 x,.int .i64 y,.int .i64 z,.bool w]))=az rest (A.aS n (.box (enc q))):=fun A n b rest x y z w q=>j4.1 A n b rest q x y z w;have hst2:∀ A n b rest (q:c8) x y z w u,db A (some 5) n [] b (enc q) rest (some (.agg [.int .i64 x,.int .i64 y,.int .i64 z,.int .i64 w,.int .i64 u]))=az rest (A.aS n (.box (enc q))):=fun A n b rest q x y z w u=>j2.1 A n b rest q x y z w u;have eO:(⟨1,0,1,7,1⟩:c8)=oW:=rfl;have eR:(⟨2,1,0,7,1⟩:c8)=oX:=rfl;have hR:=Mt ⟨1,1,7,false⟩ ⟨1,1,7,false⟩;rw[decide_eq_true rfl] at hR;have hS:cD .eql (enc vv) (.bP ⟨#[112,111,117,110,100,32,48,32,49,10,112,111,117,110,100,32,55,10,115,101,110,100,32,55,32,49,32,49,10]⟩)=some (.bool true):=Mu vv _ rfl;have hL:∀ α:Type,((([]:List α).length:Nat):Int)=0:=fun _=>rfl;have R:=y6 @q3 (y6 @hL (y6 @hst (y6 @hst2 (y6 @HK (y6 @HL (y6 @eO (y6 @eR (y6 @sr (y6 @HQ (y6 @HU (y6 @yE (y6 @hR (y6 @hS (y6 @cn (y6 @bo (y6 @bZ (y6 @bC (y6 @bA aC))))))))))))))))))
 repeat' ((first |(with_reducible refine .guard (fun hb =>?_) (fun hb =>?_) <;>try simp only[hb])|refine ae.aF (by decide +kernel) rfl fun K hK =>?_|refine .lead _ (J) ?_|refine .lead _ (U) ?_|refine .lead _ (ah) ?_|refine .lead _ (au) ?_|refine .lead _ (h5) ?_|refine .lead _ (h6) ?_|refine .lead _ (h7) ?_|refine .lead _ (h8) ?_|refine .lead _ (h9) ?_|refine .lead _ (h10) ?_|refine .lead _ (h11) ?_|refine .lead _ (h12) ?_|refine .lead _ (h13) ?_|refine .lead _ (h14) ?_|refine .lead _ (h15) ?_|refine .flat _ (h16) rfl ?_|refine .flat _ (h17) rfl ?_|refine .flat _ (h18) rfl ?_|(refine .ay [0,1,2,3,4,5,6,7,8,9,10,11,12,13,14,15,16,17,18,19,20,21,22,23,24,25,26] hK ?_;clear hK K)|(with_reducible refine .done (hK _ ?_);clear hK K)|refine ae.of rfl ?_|(with_reducible refine aB.aE (fun h =>?_) (fun h =>?_) <;>try simp only[h])) <;>try simp only[aG,R,simprocAttr])
 all_goals clear R
def oa(ar to:Int)(r:dc):c8:=⟨if r.dw then 3 else 1,ar,to,r.aK,r.no⟩
def pF(ar to no:Int)(x:fW):c8:=⟨if x.kind=8 then 4 else 2,ar,to,x.aK,no⟩
def kn(t:List dc)(ar to:Int):List c8:=(t.filter fun r=>r.to==to).map (oa ar to)
def mV(t:List fW)(ar to no:Int):List c8:=(t.filter fun x=>decide (x.cQ=to∧x.no=no)).map (pF ar to no)
def kZ(t:List fW)(ar to:Int)(k:Nat):List c8:=(List.range k).flatMap fun i:Nat=>mV t ar to ((i:Int)+1)
theorem X9(t:List dc)(ar to:Int){i:Nat}(h:i<t.length):kn (t.take (i+1)) ar to=kn (t.take i) ar to++if t[i].to==to then [oa ar to t[i]] else []:=by
 simp only[kn,zz3 h,List.filter_append,zz2,List.filter_cons,List.filter_nil]
 congr 1
 split <;>rfl
theorem Yb(t:List fW)(ar to no:Int){i:Nat}(h:i<t.length):mV (t.take (i+1)) ar to no=mV (t.take i) ar to no++if t[i].cQ=to∧t[i].no=no then [pF ar to no t[i]] else []:=by
 simp only[mV,zz3 h,List.filter_append,zz2,List.filter_cons,List.filter_nil]
 congr 1
 by_cases e:t[i].cQ=to∧t[i].no=no
 ·rw[decide_eq_true e,if_pos e];rfl
 ·rw[decide_eq_false e,if_neg e];rfl
theorem Ya(t:List fW)(ar to:Int)(k:Nat):kZ t ar to (k+1)=kZ t ar to k++mV t ar to ((k:Int)+1):=by
 simp only[kZ,List.range_succ,List.flatMap_append,List.flatMap_cons,List.flatMap_nil,zx0]
def tu(t:b8)(ar to:Int):List c8:=kn t.bp ar to++kZ t.bj ar to 200
def hU(p:bu)(to:Int):List c8×Int:=if fM p=0 then (if c4 0 5 to=true∧¬ to=p.ar then (tu (eC (gb p.ar) (fO p)).1 p.ar to,0) else ([],90)) else ([],91)
def lD(p:bu)(to:Int)(s:b8)(ts:List (Nat×I))(xs:List c8):ai:=av ([(1,.int .i64 to),(2,.ptr 2 []),(5,.int .i64 0),(7,.ptr 7 []),(9,.own 905 xs.length)]++ts) [(905,.bU 39 5 (xs.map enc)),(7,.box (enc s)),(2,.box (enc p))]
theorem MU{xs:List c8} : ke xs.length (some (.bU 39 5 (xs.map enc)))=some (enc xs):=oZ 5 rfl rfl
theorem ER:∀ (a b:List bg) (s:b8),(eC s (a++b)).2=true→(eC s a).2=true
 | [],_,_,_=>rfl
 |x::a,b,s,h=>by
  simp only[Z7,eC] at h ⊢;split at h
  ·split at h
   ·rename_i J U;rw[if_pos J,if_pos U];exact ER a b _ h
   ·cases h
  ·cases h
theorem ir.le{s:b8}{i j:Nat}(h:ir s i)(hj:i≤j):ir s j:=by
 obtain ⟨J,U,ah,au,h5⟩:=h;exact ⟨by omega,by omega,by omega,au,by omega⟩
theorem M7{p:bu}(hc:fM p=0):(eC (gb p.ar) (fO p)).2=true∧ir (eC (gb p.ar) (fO p)).1 200:=by
 obtain ⟨_,ao,hfi,hrn⟩:=sy hc;have hsp:p.j=fO p++p.j.drop p.cE.toNat:=by simp[fO]
 rw[hsp] at hrn;have J:=ER _ _ _ hrn;have U:=xr (fO p) (Fb p.ar) J;exact ⟨J,U.le (by simp only[fO,zy4];omega)⟩
theorem FX(p:bu)(to:Int):bd Tryz.prog 15 [enc p,enc to] (.tuple [enc (hU p to).1,enc (hU p to).2]):=by
 refine bd.b6 Tryz.func15 Ic Jj KA (u8 rfl) (fun hwf W0 bG E1 =>?_);simp only[yT,Dy,bH,Z1];clear hwf;have hF1:=r2 p;have hT:=uo to;by_cases hc:fM p=0
 rotate_left
 ·have J:fM p=91:=by simp only[fM] at hc ⊢;split <;>simp_all
  rw[J] at hF1;rw[show hU p to=([],91) by simp only[hU,if_neg hc]];have R:=y6 @cn (y6 @bo aC)
  repeat' ((first |(with_reducible refine .guard (fun hb =>?_) (fun hb =>?_) <;>try simp only[hb])|refine ae.aF (by decide +kernel) rfl fun K hK =>?_|refine .flat _ (hF1) rfl ?_|(refine .ay [0,1,2,4,5,6,7,9,11,12,13,15,16,20,30,39,40,41,42,48,58,66,70,71,72,73,85,95] hK ?_;clear hK K)|(with_reducible refine .done (hK _ ?_);clear hK K)|refine ae.of rfl ?_|(with_reducible refine aB.aE (fun h =>?_) (fun h =>?_) <;>try simp only[h])) <;>try simp only[aG,R,simprocAttr])
  all_goals clear R
  all_goals rfl
 rw[hc] at hF1;rcases q2:c4 0 5 to
 ·rw[q2] at hT;rw[show hU p to=([],90) by simp only[hU,if_pos hc];rw[if_neg fun h=>by rw[q2] at h;cases h.1]];have R:=y6 @cn (y6 @bo aC)
  repeat' ((first |(with_reducible refine .guard (fun hb =>?_) (fun hb =>?_) <;>try simp only[hb])|refine ae.aF (by decide +kernel) rfl fun K hK =>?_|refine .flat _ (hF1) rfl ?_|refine .flat _ (hT) rfl ?_|(refine .ay [0,1,2,4,5,6,7,9,11,12,13,15,16,20,30,39,40,41,42,48,58,66,70,71,72,73,85,95] hK ?_;clear hK K)|(with_reducible refine .done (hK _ ?_);clear hK K)|refine ae.of rfl ?_|(with_reducible refine aB.aE (fun h =>?_) (fun h =>?_) <;>try simp only[h])) <;>try simp only[aG,R,simprocAttr])
  all_goals clear R
  all_goals rfl
 rw[q2] at hT;rcases q3:(to==p.ar)
 case true =>
  have e:to=p.ar:=by simpa using q3
  rw[show hU p to=([],90) by simp only[hU,if_pos hc];rw[if_neg fun h=>h.2 e]];have R:=y6 @q3 (y6 @cn (y6 @bo aC))
  repeat' ((first |(with_reducible refine .guard (fun hb =>?_) (fun hb =>?_) <;>try simp only[hb])|refine ae.aF (by decide +kernel) rfl fun K hK =>?_|refine .flat _ (hF1) rfl ?_|refine .flat _ (hT) rfl ?_|(refine .ay [0,1,2,4,5,6,7,9,11,12,13,15,16,20,30,39,40,41,42,48,58,66,70,71,72,73,85,95] hK ?_;clear hK K)|(with_reducible refine .done (hK _ ?_);clear hK K)|refine ae.of rfl ?_|(with_reducible refine aB.aE (fun h =>?_) (fun h =>?_) <;>try simp only[h])) <;>try simp only[aG,R,simprocAttr])
  all_goals clear R
  all_goals rfl
 have e:¬ to=p.ar:=by simpa using q3
 obtain ⟨_,ao,hfi,hrn⟩:=sy hc;simp only[c4,t8,decide_eq_true_eq] at hfi;have hF2:=uq p p.cE.toNat (by omega) (by omega);rw[show ((p.cE.toNat:Nat):Int)=p.cE by omega] at hF2;rw[show hU p to=(tu (eC (gb p.ar) (fO p)).1 p.ar to,0) by simp only[hU,if_pos hc];rw[if_pos ⟨q2,e⟩]];have hsm:ir (eC (gb p.ar) (fO p)).1 200:=(M7 hc).2;rw[←fO] at hF2;generalize (eC (gb p.ar) (fO p)).1=s at *;generalize (eC (gb p.ar) (fO p)).2=ok at *;have R:=y6 @q3 (y6 @cu (y6 @cn (y6 @bo aC)))
 repeat' ((first |(with_reducible refine .guard (fun hb =>?_) (fun hb =>?_) <;>try simp only[hb])|refine ae.aF (by decide +kernel) rfl fun K hK =>?_|refine .flat _ (hF1) rfl ?_|refine .flat _ (hT) rfl ?_|refine .lead _ (hF2) ?_|(refine .ay [0,1,2,4,5,6,7,9,11,12,13,15,16,20,30,39,40,41,42,48,58,66,70,71,72,73,85,95] hK ?_;clear hK K)|(with_reducible refine .done (hK _ ?_);clear hK K)|refine ae.of rfl ?_|(with_reducible refine aB.aE (fun h =>?_) (fun h =>?_) <;>try simp only[h])) <;>try simp only[aG,R,simprocAttr])
 all_goals clear R
 have hbs:∀ y:c8,fm 5 (some [enc y])=some (enc [y]):=fun y=>iw 5 y rfl;have hN1:=hsm.ao;have hN2:=hsm.ab;refine ae.loop (fun t:Nat×List c8=>lD p to s [(39,enc s.bp),(40,.int .i64 s.bp.length),(41,.int .i64 t.1)] t.2) (fun t=>t.1≤s.bp.length∧t.2=kn (s.bp.take t.1) p.ar to∧t.2.length≤t.1) (fun t=>s.bp.length-t.1) (0,[]) ⟨zy9 _,rfl,Z3 _⟩ ?_ ?_
 ·refine bx.pX 9 905 39 5 5 rfl rfl ?_;simp only[lD,Z7,zx6];refine bx.df ?_ ?_ ?_ ?_ <;>simp[cw,cY,cH,cJ,aw,cq,dx,I.only,I.ct,aq.only,cA]
 rintro ⟨i,xs⟩ ⟨hi,hxs,hxl⟩;simp only at hi hxs hxl;simp only[lD,Z7,zx6];by_cases hlt:i<s.bp.length
 ·have hlc:=gx hlt;have he:=fun A=>fb (A:=A) 4 hlt rfl;have hw:=gq (i:=i) (by omega);have hsn:=X9 s.bp p.ar to hlt;rw[←hxs] at hsn;obtain ⟨r,hr⟩:∃ r,r=s.bp[i]:=⟨_,rfl⟩
  rw[←hr] at he hsn;have hap:=fun (A:ai) d rest y=>nA (A:=A) (d:=d) 39 5 40 905 (l:=xs.length) (es:=xs) (ys:=[y]) (rest:=rest) rfl rfl (by simp) (by simp[maxLen];omega) (by simp;omega);rcases q:(r.to != to)
  ·have q':(r.to==to)=true:=by simpa using q
   rw[q',if_pos rfl] at hsn;have hto:r.to=to:=by simpa using q
   rcases qc:r.dw
   ·have hrd:oa p.ar to r=⟨1,p.ar,to,r.aK,r.no⟩:=by simp[oa,qc]
    rw[hrd] at hsn;have R:=y6 @hlc (y6 @he (y6 @hw (y6 @q (y6 @qc (y6 @hbs (y6 @hap (y6 @kL (y6 @j2 (y6 @j4 (y6 @cu (y6 @cn (y6 @bo aC))))))))))))
    repeat' ((first |(with_reducible refine .guard (fun hb =>?_) (fun hb =>?_) <;>try simp only[hb])|refine ae.aF (by decide +kernel) rfl fun K hK =>?_|(refine .ay [0,1,2,4,5,6,7,9,11,12,13,15,16,20,30,39,40,41,42,48,58,66,70,71,72,73,85,95] hK ?_;clear hK K)|(with_reducible refine .done (hK _ ?_);clear hK K)|refine ae.of rfl ?_|(with_reducible refine aB.aE (fun h =>?_) (fun h =>?_) <;>try simp only[h])) <;>try simp only[aG,R,simprocAttr])
    all_goals clear R
    refine ⟨(i+1,xs++[⟨1,p.ar,to,r.aK,r.no⟩]),⟨by simp only;omega,hsn.symm,by simp only[Z6,zx1];omega⟩,by simp only;omega,?_⟩;simp only[];clear hxs hsn hr;refine bx.df ?_ ?_ ?_ ?_ <;>simp[cw,cY,cH,cJ,aw,cq,dx,I.only,I.ct,aq.only,fu,lZ,cA]
   ·have hrd:oa p.ar to r=⟨3,p.ar,to,r.aK,r.no⟩:=by simp[oa,qc]
    rw[hrd] at hsn;have R:=y6 @hlc (y6 @he (y6 @hw (y6 @q (y6 @qc (y6 @hbs (y6 @hap (y6 @kL (y6 @j2 (y6 @j4 (y6 @cu (y6 @cn (y6 @bo aC))))))))))))
    repeat' ((first |(with_reducible refine .guard (fun hb =>?_) (fun hb =>?_) <;>try simp only[hb])|refine ae.aF (by decide +kernel) rfl fun K hK =>?_|(refine .ay [0,1,2,4,5,6,7,9,11,12,13,15,16,20,30,39,40,41,42,48,58,66,70,71,72,73,85,95] hK ?_;clear hK K)|(with_reducible refine .done (hK _ ?_);clear hK K)|refine ae.of rfl ?_|(with_reducible refine aB.aE (fun h =>?_) (fun h =>?_) <;>try simp only[h])) <;>try simp only[aG,R,simprocAttr])
    all_goals clear R
    refine ⟨(i+1,xs++[⟨3,p.ar,to,r.aK,r.no⟩]),⟨by simp only;omega,hsn.symm,by simp only[Z6,zx1];omega⟩,by simp only;omega,?_⟩;simp only[];clear hxs hsn hr;refine bx.df ?_ ?_ ?_ ?_ <;>simp[cw,cY,cH,cJ,aw,cq,dx,I.only,I.ct,aq.only,fu,lZ,cA]
  ·have q':(r.to==to)=false:=by simpa using q
   rw[q',if_neg (by decide),zx0] at hsn;have R:=y6 @hlc (y6 @he (y6 @hw (y6 @q (y6 @j4 (y6 @cu (y6 @cn (y6 @bo aC)))))))
   repeat' ((first |(with_reducible refine .guard (fun hb =>?_) (fun hb =>?_) <;>try simp only[hb])|refine ae.aF (by decide +kernel) rfl fun K hK =>?_|(refine .ay [0,1,2,4,5,6,7,9,11,12,13,15,16,20,30,39,40,41,42,48,58,66,70,71,72,73,85,95] hK ?_;clear hK K)|(with_reducible refine .done (hK _ ?_);clear hK K)|refine ae.of rfl ?_|(with_reducible refine aB.aE (fun h =>?_) (fun h =>?_) <;>try simp only[h])) <;>try simp only[aG,R,simprocAttr])
   all_goals clear R
   refine ⟨(i+1,xs),⟨by simp only;omega,hsn.symm,by simp only;omega⟩,by simp only;omega,?_⟩;simp only[];clear hxs hsn hr;refine bx.df ?_ ?_ ?_ ?_ <;>simp[cw,cY,cH,cJ,aw,cq,dx,I.only,aq.only,fu,cA]
 have hlc:=gL hlt;have hge:i=s.bp.length:=by omega
 have hx2:xs=kn s.bp p.ar to:=by rw[hxs,hge,zw1]
 clear hxs;have R:=y6 @hlc (y6 @cn (y6 @bo aC))
 repeat' ((first |(with_reducible refine .guard (fun hb =>?_) (fun hb =>?_) <;>try simp only[hb])|refine ae.aF (by decide +kernel) rfl fun K hK =>?_|(refine .ay [0,1,2,4,5,6,7,9,11,12,13,15,16,20,30,39,40,41,42,48,58,66,70,71,72,73,85,95] hK ?_;clear hK K)|(with_reducible refine .done (hK _ ?_);clear hK K)|refine ae.of rfl ?_|(with_reducible refine aB.aE (fun h =>?_) (fun h =>?_) <;>try simp only[h])) <;>try simp only[aG,R,simprocAttr])
 all_goals clear R
 refine ae.loop (fun t:Nat×List c8=>lD p to s [(13,.int .i64 ((t.1+1:Nat):Int))] t.2) (fun t=>t.1≤200∧t.2=kn s.bp p.ar to++kZ s.bj p.ar to t.1∧t.2.length≤200+200*t.1) (fun t=>200-t.1) (0,xs) ⟨zy9 _,by simp only[hx2,kZ];simp,by simp only;omega⟩ ?_ ?_
 ·simp only[lD,Z7,zx6];clear hx2;refine bx.df ?_ ?_ ?_ ?_ <;>simp[cw,cY,cH,cJ,aw,cq,dx,I.only,aq.only,fu,cA]
 clear hxl hx2 hge hlc hi hlt;clear i xs;rintro ⟨k,xs⟩ ⟨hk,hxs,hxl⟩;simp only at hk hxs hxl;simp only[lD,Z7,zx6];by_cases hlt:k<200
 ·have hlc:decide (((k+1:Nat):Int)≤200)=true:=by simp;omega
  have hw:=gq (i:=k+1) (by omega);have R:=y6 @hlc (y6 @cu (y6 @cn (y6 @bo aC)))
  repeat' ((first |(with_reducible refine .guard (fun hb =>?_) (fun hb =>?_) <;>try simp only[hb])|refine ae.aF (by decide +kernel) rfl fun K hK =>?_|(refine .ay [0,1,2,4,5,6,7,9,11,12,13,15,16,20,30,39,40,41,42,48,58,66,70,71,72,73,85,95] hK ?_;clear hK K)|(with_reducible refine .done (hK _ ?_);clear hK K)|refine ae.of rfl ?_|(with_reducible refine aB.aE (fun h =>?_) (fun h =>?_) <;>try simp only[h])) <;>try simp only[aG,R,simprocAttr])
  all_goals clear R
  refine ae.loop (fun t:Nat×List c8=>lD p to s [(13,.int .i64 ((k+1:Nat):Int)),(70,enc s.bj),(71,.int .i64 s.bj.length),(72,.int .i64 t.1)] t.2) (fun t=>t.1≤s.bj.length∧t.2=xs++mV (s.bj.take t.1) p.ar to ((k:Int)+1)∧t.2.length≤200+200*k+t.1) (fun t=>s.bj.length-t.1) (0,xs) ⟨zy9 _,by simp[mV],by simp only;omega⟩ ?_ ?_
  ·simp only[lD,Z7,zx6];clear hxs;refine bx.df ?_ ?_ ?_ ?_ <;>simp[cw,cY,cH,cJ,aw,cq,dx,I.only,aq.only,fu,cA]
  rintro ⟨j,ys⟩ ⟨hj,hys,hyl⟩;simp only at hj hys hyl;simp only[lD,Z7,zx6];by_cases hjt:j<s.bj.length
  ·have hjc:=gx hjt;have he:=fun A=>fb (A:=A) 4 hjt rfl;have hwj:=gq (i:=j) (by omega);have hsn:=Yb s.bj p.ar to ((k:Int)+1) hjt;obtain ⟨x,hx⟩:∃ x,x=s.bj[j]:=⟨_,rfl⟩
   rw[←hx] at he hsn;have hsn2:=congrArg (xs ++ ·) hsn;simp only[←zz0,←hys] at hsn2;clear hsn;have hap:=fun (A:ai) d rest y=>nA (A:=A) (d:=d) 39 5 40 905 (l:=ys.length) (es:=ys) (ys:=[y]) (rest:=rest) rfl rfl (by simp) (by simp[maxLen];omega) (by simp;omega);have hcast:(((k+1:Nat):Int))=(k:Int)+1:=rfl;rcases q:(x.cQ != to)
   ·have q1:x.cQ=to:=by simpa using q
    rcases q4:(x.no != ((k+1:Nat):Int))
    ·have q5:x.no=(k:Int)+1:=by simpa using q4
     rw[if_pos ⟨q1,q5⟩] at hsn2;rcases q8:(x.kind==8)
     ·have hrd:pF p.ar to ((k:Int)+1) x=⟨2,p.ar,to,x.aK,((k+1:Nat):Int)⟩:=by
       have:¬ x.kind=8:=by simpa using q8
       simp[pF,this]
      rw[hrd] at hsn2;have R:=y6 @hjc (y6 @he (y6 @hwj (y6 @q (y6 @q4 (y6 @q8 (y6 @hbs (y6 @hap (y6 @kL (y6 @j2 (y6 @pO (y6 @cu (y6 @cn (y6 @bo aC)))))))))))))
      repeat' ((first |(with_reducible refine .guard (fun hb =>?_) (fun hb =>?_) <;>try simp only[hb])|refine ae.aF (by decide +kernel) rfl fun K hK =>?_|(refine .ay [0,1,2,4,5,6,7,9,11,12,13,15,16,20,30,39,40,41,42,48,58,66,70,71,72,73,85,95] hK ?_;clear hK K)|(with_reducible refine .done (hK _ ?_);clear hK K)|refine ae.of rfl ?_|(with_reducible refine aB.aE (fun h =>?_) (fun h =>?_) <;>try simp only[h])) <;>try simp only[aG,R,simprocAttr])
      all_goals clear R
      refine ⟨(j+1,ys++[⟨2,p.ar,to,x.aK,((k+1:Nat):Int)⟩]),⟨by simp only;omega,hsn2.symm,by simp only[Z6,zx1];omega⟩,by simp only;omega,?_⟩;simp only[];clear hys hsn2 hxs hx hrd;refine bx.df ?_ ?_ ?_ ?_ <;>simp[cw,cY,cH,cJ,aw,cq,dx,I.only,I.ct,aq.only,fu,lZ,cA]
     ·have hrd:pF p.ar to ((k:Int)+1) x=⟨4,p.ar,to,x.aK,((k+1:Nat):Int)⟩:=by
       have:x.kind=8:=by simpa using q8
       simp[pF,this]
      rw[hrd] at hsn2;have R:=y6 @hjc (y6 @he (y6 @hwj (y6 @q (y6 @q4 (y6 @q8 (y6 @hbs (y6 @hap (y6 @kL (y6 @j2 (y6 @pO (y6 @cu (y6 @cn (y6 @bo aC)))))))))))))
      repeat' ((first |(with_reducible refine .guard (fun hb =>?_) (fun hb =>?_) <;>try simp only[hb])|refine ae.aF (by decide +kernel) rfl fun K hK =>?_|(refine .ay [0,1,2,4,5,6,7,9,11,12,13,15,16,20,30,39,40,41,42,48,58,66,70,71,72,73,85,95] hK ?_;clear hK K)|(with_reducible refine .done (hK _ ?_);clear hK K)|refine ae.of rfl ?_|(with_reducible refine aB.aE (fun h =>?_) (fun h =>?_) <;>try simp only[h])) <;>try simp only[aG,R,simprocAttr])
      all_goals clear R
      refine ⟨(j+1,ys++[⟨4,p.ar,to,x.aK,((k+1:Nat):Int)⟩]),⟨by simp only;omega,hsn2.symm,by simp only[Z6,zx1];omega⟩,by simp only;omega,?_⟩;simp only[];clear hys hsn2 hxs hx hrd;refine bx.df ?_ ?_ ?_ ?_ <;>simp[cw,cY,cH,cJ,aw,cq,dx,I.only,I.ct,aq.only,fu,lZ,cA]
    ·have q5:¬ x.no=(k:Int)+1:=by simpa using q4
     rw[if_neg (fun h=>q5 h.2),zx0] at hsn2;have R:=y6 @hjc (y6 @he (y6 @hwj (y6 @q (y6 @q4 (y6 @pO (y6 @cu (y6 @cn (y6 @bo aC))))))))
     repeat' ((first |(with_reducible refine .guard (fun hb =>?_) (fun hb =>?_) <;>try simp only[hb])|refine ae.aF (by decide +kernel) rfl fun K hK =>?_|(refine .ay [0,1,2,4,5,6,7,9,11,12,13,15,16,20,30,39,40,41,42,48,58,66,70,71,72,73,85,95] hK ?_;clear hK K)|(with_reducible refine .done (hK _ ?_);clear hK K)|refine ae.of rfl ?_|(with_reducible refine aB.aE (fun h =>?_) (fun h =>?_) <;>try simp only[h])) <;>try simp only[aG,R,simprocAttr])
     all_goals clear R
     refine ⟨(j+1,ys),⟨by simp only;omega,hsn2.symm,by simp only;omega⟩,by simp only;omega,?_⟩;simp only[];clear hys hsn2 hxs hx;refine bx.df ?_ ?_ ?_ ?_ <;>simp[cw,cY,cH,cJ,aw,cq,dx,I.only,aq.only,fu,cA]
   ·have q1:¬ x.cQ=to:=by simpa using q
    rw[if_neg (fun h=>q1 h.1),zx0] at hsn2;have R:=y6 @hjc (y6 @he (y6 @hwj (y6 @q (y6 @pO (y6 @cu (y6 @cn (y6 @bo aC)))))))
    repeat' ((first |(with_reducible refine .guard (fun hb =>?_) (fun hb =>?_) <;>try simp only[hb])|refine ae.aF (by decide +kernel) rfl fun K hK =>?_|(refine .ay [0,1,2,4,5,6,7,9,11,12,13,15,16,20,30,39,40,41,42,48,58,66,70,71,72,73,85,95] hK ?_;clear hK K)|(with_reducible refine .done (hK _ ?_);clear hK K)|refine ae.of rfl ?_|(with_reducible refine aB.aE (fun h =>?_) (fun h =>?_) <;>try simp only[h])) <;>try simp only[aG,R,simprocAttr])
    all_goals clear R
    refine ⟨(j+1,ys),⟨by simp only;omega,hsn2.symm,by simp only;omega⟩,by simp only;omega,?_⟩;simp only[];clear hys hsn2 hxs hx;refine bx.df ?_ ?_ ?_ ?_ <;>simp[cw,cY,cH,cJ,aw,cq,dx,I.only,aq.only,fu,cA]
  ·have hjc:=gL hjt;have hge:j=s.bj.length:=by omega
   rw[hge,zw1] at hys;have R:=y6 @hjc (y6 @hw (y6 @cn (y6 @bo aC)))
   repeat' ((first |(with_reducible refine .guard (fun hb =>?_) (fun hb =>?_) <;>try simp only[hb])|refine ae.aF (by decide +kernel) rfl fun K hK =>?_|(refine .ay [0,1,2,4,5,6,7,9,11,12,13,15,16,20,30,39,40,41,42,48,58,66,70,71,72,73,85,95] hK ?_;clear hK K)|(with_reducible refine .done (hK _ ?_);clear hK K)|refine ae.of rfl ?_|(with_reducible refine aB.aE (fun h =>?_) (fun h =>?_) <;>try simp only[h])) <;>try simp only[aG,R,simprocAttr])
   all_goals clear R
   refine ⟨(k+1,ys),⟨by simp only;omega,?_,by simp only;omega⟩,by simp only;omega,?_⟩
   ·simp only;rw[Ya,←zz0,←hxs];exact hys
   ·simp only[];clear hys hxs;refine bx.df ?_ ?_ ?_ ?_ <;>simp[cw,cY,cH,cJ,aw,cq,dx,I.only,aq.only,fu,cA]
 ·have hk2:k=200:=by omega
  subst hk2;have hlc:decide (((200+1:Nat):Int)≤200)=false:=rfl;rw[show tu s p.ar to=xs from hxs.symm];have R:=y6 @hlc (y6 @MU (y6 @cn (y6 @bo aC)))
  repeat' ((first |(with_reducible refine .guard (fun hb =>?_) (fun hb =>?_) <;>try simp only[hb])|refine ae.aF (by decide +kernel) rfl fun K hK =>?_|(refine .ay [0,1,2,4,5,6,7,9,11,12,13,15,16,20,30,39,40,41,42,48,58,66,70,71,72,73,85,95] hK ?_;clear hK K)|(with_reducible refine .done (hK _ ?_);clear hK K)|refine ae.of rfl ?_|(with_reducible refine aB.aE (fun h =>?_) (fun h =>?_) <;>try simp only[h])) <;>try simp only[aG,R,decide_false,simprocAttr])
  all_goals clear R
theorem W9{s s':aD}{x:bg}(h:s.dp.Nodup)(hn:ed s x=some s'):s'.dp.Nodup:=by
 have ab:∀ l,s'.bj=s.bj++l→(l=[]∨(l=[x]∧s.unknown x=true))→s'.dp.Nodup:=by
  rintro l ao (rfl | ⟨rfl,hu⟩)
  ·simp only[aD.dp,ao,zx0];exact h
  ·simp only[aD.unknown,t8,Bool.not_eq_true',decide_eq_false_iff_not] at hu;simp only[aD.dp,ao,zz2,Z4,zy6];refine List.nodup_append.2 ⟨h,by simp,fun a ha b hb e =>?_⟩;rw[zy3.1 hb] at e;exact hu.2 (e▸ha)
 simp only[ed] at hn
 repeat' split at hn
 all_goals first | cases hn | skip
 all_goals first
  |exact ab [] (zx0 _).symm (.inl rfl)
  |(rename_i hc;first | exact ab [x] rfl (.inr ⟨rfl,hc.1⟩) | exact ab [x] rfl (.inr ⟨rfl,hc⟩))
theorem EP:∀ (l:List bg) {s s':aD},s.dp.Nodup→fI s l=some s'→s'.dp.Nodup
 | [],s,s',h,hr=>by cases hr;exact h
 |x::l,s,s',h,hr=>by
  simp only[fI,gp] at hr;by_cases hx:gA x=true
  ·rw[if_pos hx] at hr;cases hn:ed s x with
   |none=>rw[hn] at hr;cases hr
   |some s1=>rw[hn] at hr;exact EP l (W9 h hn) hr
  ·rw[if_neg hx] at hr;cases hr
theorem AU{α β:Type}[DecidableEq β](f:α→β)(a:β):∀ (l:List α),(l.map f).Nodup→l.filter (fun x=>decide (f x=a))=match l.find? fun x=>decide (f x=a) with
  |some x=>[x]
  |none=>[]
 | [],_=>rfl
 |x::l,h=>by
  obtain ⟨J,U⟩:=List.nodup_cons.1 h;have ih:=AU f a l U;simp only[List.filter_cons,List.find?_cons];by_cases e:f x=a
  ·rw[decide_eq_true e,if_pos rfl];have:l.filter (fun y=>decide (f y=a))=[]:=by
    refine List.filter_eq_nil_iff.2 fun y hy =>?_;simp only[decide_eq_true_eq];intro e2;exact J (zy0.2 ⟨y,hy,e2.trans e.symm⟩)
   rw[this]
  ·rw[decide_eq_false e,if_neg (by decide)];exact ih
theorem Zn{l:List Int}(h:l.Pairwise (· < ·)):cm l=l :=
 List.mergeSort_of_pairwise (h.imp fun hab=>decide_eq_true (Int.le_of_lt hab))
theorem dB.bz{s:aD}{t:b8}(h:dB s t):cm s.bz=s.bz :=
 Zn (by
  simp only[aD.bz,List.pairwise_map];exact h.cB.imp fun hab=>by omega)
theorem dB.kn{s:aD}{t:b8}(h:dB s t)(to:Int):fP s to (cm s.bz).length=kn t.bp s.ar to:=by
 have hno:∀ i∈s.aQ,(s.b9 i).no=(i:Int)+1:=fun i hi=>h.no i (h.ok.cB i hi);simp only[fP];rw[h.bz,zw1];simp only[Go.Proofs.YthbdbocionnfgaaGreatDoor.kn,h.bp,aD.bp,aD.bz];revert hno;generalize s.aQ=l;intro hno
 induction l with
 |nil=>rfl
 |cons i l ih =>
  have ih':=ih fun j hj=>hno j (List.mem_cons_of_mem _ hj);have hi:=hno i List.mem_cons_self;have e1:((i:Int)+1).toNat-1=i:=by omega
  simp only[Z4,List.filter_cons,oE,e1];by_cases c:(s.b9 i).to==to
  ·simp only[c,if_true,Z4,ih',nd,oa,e1,hi]
  ·simp only[c,Z2,if_false];exact ih'
theorem dB.kZ{s:aD}{t:b8}(h:dB s t)(hw:s.dp.Nodup)(to:Int)(k:Nat):gw s to k=kZ t.bj s.ar to k:=by
 simp only[gw,Go.Proofs.YthbdbocionnfgaaGreatDoor.kZ]
 congr 1
 funext i
 have hf:=AU eQ ⟨to,(i:Int)+1⟩ s.bj hw;have hg:(s.bj.map lr).filter (fun x=>decide (x.cQ=to∧x.no=(i:Int)+1))=(s.bj.filter fun x=>decide (eQ x=⟨to,(i:Int)+1⟩)).map lr:=by
  rw[List.filter_map]
  congr 1
  refine List.filter_congr fun x _ =>?_
  show decide ((lr x).cQ=to∧(lr x).no=(i:Int)+1)=decide (eQ x=⟨to,(i:Int)+1⟩)
  exact decide_eq_decide.2 (by simp only[lr,eQ,mz.mk.injEq])
 simp only[mV,h.bj,hg,hf,kp];rw[show (((i+1:Nat)):Int)=(i:Int)+1 from rfl];cases s.bj.find? (fun x=>decide (eQ x=⟨to,(i:Int)+1⟩)) with
 |none=>rfl
 |some x=>rfl
theorem Yc(p:bu)(to:Int):l3 p to=hU p to:=by
 rcases both p with ⟨ho,hc⟩ | ⟨s,ho,hc,hr,ab,ao⟩
 ·simp only[l3,ho,hU,hc];rfl
 ·obtain ⟨_,_,s2,hrd,hk,_⟩:=A8 ho;have hrun:=dB.run (fO p) (dB.zero p.ar);have hrd':=hrd;rw[fC] at hrd';rw[hrd'] at hrun;obtain ⟨_,hrel⟩:=hrun;have hme:s2.ar=p.ar:=(mi (kj p.ar) hrd').2.1;have hw:s2.dp.Nodup:=EP (fO p) (s:=eM p.ar) (by simp[eM,aD.dp]) hrd';simp only[l3,ho,hU,hc,if_true,hrd];by_cases c:c4 0 5 to=false∨to=p.ar
  ·rw[if_pos c,if_neg];rintro ⟨J,U⟩;rcases c with c | c
   ·rw[c] at J;cases J
   ·exact U c
  ·have c':=not_or.1 c;rw[if_neg c,if_pos ⟨by simpa using c'.1,c'.2⟩];have hA:=hrel.kn to;have hB:=hrel.kZ hw to 200;simp only[fj,tu,hA,hB,hme]
theorem F3(p:bu)(dj to:Int):bd Tryz.prog 3 [enc p,enc dj,enc to] (enc true):=by
 refine bd.b6 Tryz.func3 Ip Ju KM (u8 rfl) (fun hwf W0 bG E1 =>?_);simp only[c3,n5,bH,Z1,Nat.reduceAdd];clear hwf;have hS:∀ q:bu,bd Tryz.prog 16 [enc q,enc q] (enc true):=fun q=>by
  have:=FZ q q
  rwa [decide_eq_true rfl] at this
 have hc:∀ a:Int,(a==a)=true:=fun a=>beq_self_eq_true a;have h6:=F0;have hO:=rY p to;rw[Yc] at hO;have hR:bd Tryz.prog 17 [enc (hU p to).1,enc (hU p to).1] (enc true):=by
  have:=um (hU p to).1 (hU p to).1
  rwa [decide_eq_true rfl] at this
 have R:=y6 @hc (y6 @j4 (y6 @cn (y6 @bo aC)))
 repeat' ((first |(with_reducible refine .guard (fun hb =>?_) (fun hb =>?_) <;>try simp only[hb])|refine ae.aF (by decide +kernel) rfl fun K hK =>?_|refine .lead _ (rW p) ?_|refine .lead _ (FD p) ?_|refine .lead _ (FG p dj) ?_|refine .lead _ (FQ p dj) ?_|refine .lead _ (hO) ?_|refine .lead _ (FX p to) ?_|refine .flat _ (hS _) rfl ?_|refine .flat _ (hR) rfl ?_|refine .flat _ (h6) rfl ?_|(refine .ay [0,1,2,3,6,7,8,9,10,11,12,13,14,15,16,17,18] hK ?_;clear hK K)|(with_reducible refine .done (hK _ ?_);clear hK K)|refine ae.of rfl ?_|(with_reducible refine aB.aE (fun h =>?_) (fun h =>?_) <;>try simp only[h])) <;>try simp only[aG,R,simprocAttr])
 all_goals clear R
end Go.Proofs.YthbdbocionnfgaaGreatDoor
