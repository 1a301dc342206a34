/-
  A part of the proof that the law MarchValid returns true for every input; three tables of Go's library start as the text lays them (the card ties them); conditions: none beyond the statement's own. (part 5 of 6)
-/
import Derived.Shelf.Sort.Plain
import Derived.Shelf.Slices.In.SortNone
import Derived.Shelf.Strconv.Itoa3
import Derived.Lib.ItoaLen
import Derived.Test.YthbdbocionnfgaaGreatDoorNfd
set_option linter.unusedSimpArgs false
set_option linter.unusedVariables false
set_option maxHeartbeats 16000000
set_option maxRecDepth 100000
namespace Go.Proofs.YthbdbocionnfgaaGreatDoor
open Go Go.Abs Go.Shelf
open Go.Abs.Enc (enc)
def VM:Go.Shelf.Ren:=⟨fun | 189=>89 | 125=>117 | 257=>116 | 128=>142 | 129=>143 | 294=>133 | 295=>134 | 296=>135 | 297=>136 | 298=>137 | 299=>138 | 216=>139 | 300=>140 | 301=>141 | 328=>153 | 329=>154 | 330=>155 | 331=>156 | 332=>157 | 215=>158 | 343=>169 | n=>n,fun | 28=>54 | 3=>3 | 46=>151 | 0=>0 | 51=>169 | 53=>171 | 4=>4 | 183=>161 | 182=>160 | 131=>166 | 5=>5 | 9=>9 | 218=>178 | 222=>182 | 228=>195 | 229=>196 | n=>n,fun | n=>n⟩
theorem B6:Go.Proofs.Lays.n189 Tryz.prog VM := {
 mixed:=by kernel_rfl
 f125:=Tryz.func117.trans (congrArg some (by kernel_rfl))
 f128:=Tryz.func142.trans (congrArg some (by kernel_rfl))
 f129:=Tryz.func143.trans (congrArg some (by kernel_rfl))
 f189:=Tryz.func89.trans (congrArg some (by kernel_rfl))
 f215:=Tryz.func158.trans (congrArg some (by kernel_rfl))
 f216:=Tryz.func139.trans (congrArg some (by kernel_rfl))
 f257:=Tryz.func116.trans (congrArg some (by kernel_rfl))
 f294:=Tryz.func133.trans (congrArg some (by kernel_rfl))
 f295:=Tryz.func134.trans (congrArg some (by kernel_rfl))
 f296:=Tryz.func135.trans (congrArg some (by kernel_rfl))
 f297:=Tryz.func136.trans (congrArg some (by kernel_rfl))
 f298:=Tryz.func137.trans (congrArg some (by kernel_rfl))
 f299:=Tryz.func138.trans (congrArg some (by kernel_rfl))
 f300:=Tryz.func140.trans (congrArg some (by kernel_rfl))
 f301:=Tryz.func141.trans (congrArg some (by kernel_rfl))
 f328:=Tryz.func153.trans (congrArg some (by kernel_rfl))
 f329:=Tryz.func154.trans (congrArg some (by kernel_rfl))
 f330:=Tryz.func155.trans (congrArg some (by kernel_rfl))
 f331:=Tryz.func156.trans (congrArg some (by kernel_rfl))
 f332:=Tryz.func157.trans (congrArg some (by kernel_rfl))
 f343:=Tryz.func169.trans (congrArg some (by kernel_rfl))
 t0:=Tryz.underlying0
 a0:=Tryz.isAgg0
 z0:=Tryz.sizeOf0
 v0:=Tryz.zeroValue0
 t3:=Tryz.underlying3
 a3:=Tryz.isAgg3
 z3:=Tryz.sizeOf3
 v3:=Tryz.zeroValue3
 t4:=Tryz.underlying4
 a4:=Tryz.isAgg4
 z4:=Tryz.sizeOf4
 v4:=Tryz.zeroValue4
 t5:=Tryz.underlying5
 a5:=Tryz.isAgg5
 z5:=Tryz.sizeOf5
 v5:=Tryz.zeroValue5
 t9:=Tryz.underlying9
 a9:=Tryz.isAgg9
 z9:=Tryz.sizeOf9
 v9:=Tryz.zeroValue9
 t28:=Tryz.underlying54
 a28:=Tryz.isAgg54
 z28:=Tryz.sizeOf54
 v28:=Tryz.zeroValue54
 t46:=Tryz.underlying151
 a46:=Tryz.isAgg151
 z46:=Tryz.sizeOf151
 v46:=Tryz.zeroValue151
 t51:=Tryz.underlying169
 a51:=Tryz.isAgg169
 z51:=Tryz.sizeOf169
 v51:=Tryz.zeroValue169
 t53:=Tryz.underlying171
 a53:=Tryz.isAgg171
 z53:=Tryz.sizeOf171
 v53:=Tryz.zeroValue171
 t131:=Tryz.underlying166
 a131:=Tryz.isAgg166
 z131:=Tryz.sizeOf166
 v131:=Tryz.zeroValue166
 t182:=Tryz.underlying160
 a182:=Tryz.isAgg160
 z182:=Tryz.sizeOf160
 v182:=Tryz.zeroValue160
 t183:=Tryz.underlying161
 a183:=Tryz.isAgg161
 z183:=Tryz.sizeOf161
 v183:=Tryz.zeroValue161
 t218:=Tryz.underlying178
 a218:=Tryz.isAgg178
 z218:=Tryz.sizeOf178
 v218:=Tryz.zeroValue178
 t222:=Tryz.underlying182
 a222:=Tryz.isAgg182
 z222:=Tryz.sizeOf182
 v222:=Tryz.zeroValue182
 t228:=Tryz.underlying195
 a228:=Tryz.isAgg195
 z228:=Tryz.sizeOf195
 v228:=Tryz.zeroValue195
 t229:=Tryz.underlying196
 a229:=Tryz.isAgg196
 z229:=Tryz.sizeOf196
 v229:=Tryz.zeroValue196 }
def j5(k:Nat)(ws:List Int):List (Nat×aq):=[(k,.box (.agg (ws.map enc)))]
theorem Cp(p:Nat→Bool)(l:List Int):(I.agg (l.map enc)).only p=true:=by simp only[I.only];exact ik p l
def Yf(ws:List Int):cF:=fun r os'=>r=.tuple []∧os'=j5 1000000 ws
def cm(xs:List Int):List Int:=xs.mergeSort fun x y=>decide (x≤y)
theorem Ep{w:World}{D:aP}{E:aY} : ∀ {xs:List Int} {cs:List Value},aM w D E (xs.map enc) cs→cs=xs.map (Value.int .i64)∧∀ x∈xs,IntKind.i64.min≤x∧x≤IntKind.i64.max
 | [],cs,h=>by
  simp only[zy1,aM] at h;subst h;exact ⟨rfl,by simp⟩
 |x::xs,cs,h=>by
  simp only[Z4,aM] at h;obtain ⟨c1,c2,rfl,J,U⟩:=h;obtain ⟨rfl,ah⟩:=Ep U;have h1':c1=[.int .i64 x]∧IntKind.i64.min≤x∧x≤IntKind.i64.max:=J;obtain ⟨rfl,ar⟩:=h1';refine ⟨rfl,fun y hy =>?_⟩;rcases zx3.1 hy with rfl | hy
  ·exact ar
  ·exact ah y hy
theorem rl{w:World}{D:aP}{E:aY} : ∀ {xs:List Int},(∀ x∈xs,IntKind.i64.min≤x∧x≤IntKind.i64.max)→aM w D E (xs.map enc) (xs.map (Value.int .i64))
 | [],_=>rfl
 |x::xs,h=>⟨[.int .i64 x],xs.map (Value.int .i64),rfl,⟨rfl,h x (by simp)⟩,rl fun y hy=>h y (by simp[hy])⟩
theorem rH(xs:List Int):(I.agg (xs.map enc)).aX=.eG (List.replicate xs.length .one):=by
 show cP.eG (I.cX _)=_
 congr 1
 induction xs with
 |nil=>rfl
 |cons x xs ih=>simp only[Z4,I.cX,ih,zy5,List.replicate_succ];rfl
theorem XH{xs ys q:List Int}(ao:ys.length=xs.length){cs:Array Value}(hc:cs.toList=(xs++q).map (Value.int .i64)):(Sort.putCells (Value.int .i64) 0 ys.toArray cs).toList=(ys++q).map (Value.int .i64):=by
 apply List.ext_getElem?;intro k;have J:cs[k]?=((xs++q).map (Value.int .i64))[k]?:=by rw[←hc,zy2]
 rw[zy2,Sort.putCells,Array.getElem?_mapIdx,J];simp only[zz3,List.size_toArray,zx1,true_and,Z1,Nat.sub_zero];by_cases hk:k<ys.length
 ·simp only[hk,if_true];rw[Y8 (by omega),Y8 hk,Y7 (by omega),Y7 hk];simp[hk]
 ·simp only[hk,if_false];rw[zy4 (by omega),zy4 (by omega),ao];cases (q[k-xs.length]?) <;>rfl
open Go.Sort Go.RowKit in
theorem GA(xs q:List Int)(hn:xs.length≤1000):cU Tryz.prog 89 [.view 1000000 [] 1 0 xs.length] (j5 1000000 (xs++q)) (Yf (cm xs++q)):=by
 refine ⟨zV,fun w D E vs _ hD hO hv =>?_⟩;have ho:=hO.bP 1000000;simp only[j5,aj,if_true] at ho;obtain ⟨b,cs,T,ay,-,hb,hr,hnD⟩:=ho;have hEn:∀ n,n≠1000000→E n=none:=fun n hn=>by
  have:=hO.bP n;simpa only[j5,aj,if_neg hn,cZ] using this
 simp only[aF] at hv;obtain ⟨v,rest,cs',rfl,hp,hr',rfl⟩:=hv;obtain ⟨b',aX,off,l,hE',hoff,hpart,rfl,hl1,hl2,hl3⟩:=hr';rw[ay] at hE';simp only[v6,bM.aN.injEq] at hE';obtain ⟨rfl,rfl⟩:=hE';have hoff':off=0:=by
  have:(some 0:Option Nat)=some off:=by rw[←hoff];rw[rH];rfl
  injection this with this;exact this.symm
 subst hoff';have hp':v=.slice (some ⟨b,0,none⟩) xs.length (l.length-0):=by
  have:[Value.slice (some ⟨b,0+0*1,none⟩) xs.length (l.length-0)]=[v]:=hp;simpa using this.symm
 subst hp';obtain ⟨hcs,hrg⟩:=Ep hr;have hbs:b<w.heap.size:=(Y4.1 hb).1;have hH:Holds (Value.int .i64) w b 0 xs.toArray:=fun j hj=>by
  simp only[List.size_toArray] at hj;constructor
  ·simp only[World.cell?,hb,Option.isSome_none,Z2,if_false,Z1];rw[←zy2,hcs];rw[Y6,Y8 (by simpa using hj)];simp[hj]
  ·simp[World.frozen?,hb]
 have hlen:(cm xs).length=xs.length:=by simp[cm]
 refine (Any.slices_Sort_int B6 b 0 (l.length-0) xs w hH hbs (by omega)).mono ?_;rintro e w' ⟨rfl,n,os,rfl⟩;have hb1:(putRow (Value.int .i64) (Sort.ahead w n) b 0 (cm xs).toArray).heap[b]?=some (.cells (putCells (Value.int .i64) 0 (cm xs).toArray cs) T (0,0)):=by
  simp[putRow,mapBlock,Sort.ahead,Array.getElem?_modify,hb,onCells]
 have hother:∀ k,k<w.heap.size→k≠b→(grow (putRow (Value.int .i64) (Sort.ahead w n) b 0 (cm xs).toArray) os).heap[k]?=w.heap[k]?:=fun k hk hkb=>by
  rw[heap_grow_old _ _ (by simpa[Sort.ahead] using hk)];simp[putRow,mapBlock,Sort.ahead,Array.getElem?_modify,Ne.symm hkb]
 have hb2:(grow (putRow (Value.int .i64) (Sort.ahead w n) b 0 (cm xs).toArray) os).heap[b]?=some (.cells (putCells (Value.int .i64) 0 (cm xs).toArray cs) T (0,0)):=by
  rw[heap_grow_old _ _ (by simpa[Sort.ahead] using hbs)];exact hb1
 have hsz:w.heap.size≤(grow (putRow (Value.int .i64) (Sort.ahead w n) b 0 (cm xs).toArray) os).heap.size:=by simp[Sort.ahead]
 have hshow:(grow (putRow (Value.int .i64) (Sort.ahead w n) b 0 (xs.mergeSort fun x y=>decide (x≤y)).toArray) os)=(grow (putRow (Value.int .i64) (Sort.ahead w n) b 0 (cm xs).toArray) os):=rfl;rw[hshow];have hw1:(grow (putRow (Value.int .i64) (Sort.ahead w n) b 0 (cm xs).toArray) os).os=w.os:=rfl;have hw2:(grow (putRow (Value.int .i64) (Sort.ahead w n) b 0 (cm xs).toArray) os).tape=w.tape:=rfl;have hw3:(grow (putRow (Value.int .i64) (Sort.ahead w n) b 0 (cm xs).toArray) os).output=w.output:=rfl;revert hother hb2 hsz hw1 hw2 hw3;generalize grow (putRow (Value.int .i64) (Sort.ahead w n) b 0 (cm xs).toArray) os=w2;intro hother hb2 hsz hw1 hw2 hw3;have hmem:∀ x∈cm xs++q,IntKind.i64.min≤x∧x≤IntKind.i64.max:=fun x hx=>hrg x (by
  rcases zy0.1 hx with h | h
  ·exact List.mem_append_left _ (by simpa[cm] using h)
  ·exact List.mem_append_right _ h)
 refine ⟨.tuple #[],D,E,.tuple [],j5 1000000 (cm xs++q),rfl,⟨rfl,rfl⟩,⟨[],rfl,rfl⟩,⟨fun m =>?_,hO.cN⟩,⟨hw1,hw2,hw3,hsz,fun k hk =>?_⟩,fun _ _ h=>h,fun b0 o h=>Nat.lt_of_lt_of_le (hD b0 o h) hsz,fun _ _ h _ _=>h,fun m e h _=>⟨e,h,bM.le.refl e⟩,⟨fun b0 o u af hc =>?_,fun b0 es ck af hc =>?_⟩⟩
 ·by_cases hm:m=1000000
  ·subst hm;simp only[j5,aj,if_true];refine ⟨b,_,T,?_,.inr ⟨1000000,_,ay,rfl⟩,hb2,?_,hnD⟩
   ·rw[ay,rH,rH,Z6,Z6,hlen]
   ·show aM w2 D E _ _
    rw[XH hlen hcs];exact rl hmem
  ·simp only[j5,aj,if_neg hm,cZ];exact hEn m hm
 ·by_cases hk2:k<w.heap.size
  ·exact hother k hk2 fun e=>hk (.inr ⟨1000000,_,ay,by rw[e];rfl⟩)
  ·exact absurd (.inl (Nat.le_of_not_lt hk2)) hk
 ·have hne:b0≠b:=fun e=>hnD o (e▸af);simp only[World.cell?,hother b0 (hD b0 o af) hne] at hc ⊢;exact hc
 ·have hne:b0≠b:=fun e=>hnD 0 (e▸af);rw[hother b0 (hD b0 0 af) hne];exact hc
theorem GB(v:I)(hv0:v=.nils 1∨v=enc ([]:List Int)):bf Tryz.prog 89 [v] (.tuple []):=by
 refine ⟨zV,fun w D vs _ hD hv =>?_⟩;simp only[aF] at hv;obtain ⟨u,rest,cs',rfl,hp,hr',rfl⟩:=hv;have hu:∃ a cap,u=.slice a 0 cap:=by
  rcases hv0 with rfl | rfl
  ·have J:cs'=[.slice none 0 0]:=hr';have U:cs'=[u]:=hp;rw[J] at U;exact ⟨none,0,by simpa using U.symm⟩
  ·obtain ⟨a,cap,J,_⟩:=hr';have U:cs'=[u]:=hp;rw[J] at U;exact ⟨a,cap,by simpa using U.symm⟩
 obtain ⟨a,cap,rfl⟩:=hu;refine (Any.slices_Sort_int_none B6 a cap w).mono ?_;rintro e w' ⟨rfl,rfl⟩;exact ⟨.tuple #[],D,rfl,⟨[],rfl,rfl⟩,⟨rfl,rfl,rfl,Z3 _,fun _ _=>rfl⟩,hD,fun _ _ h _=>h⟩
end Go.Proofs.YthbdbocionnfgaaGreatDoor
namespace Go.Proofs.YthbdbocionnfgaaGreatDoor
open Go Go.Abs
open Go.Abs.Enc (enc)
theorem AO(n:Nat)(ts:List (Nat×I)):∀ t,Abs.bW (lK [n] ts) t=if (Abs.bW ts t).only (fun j => ![n].contains j)=true then Abs.bW ts t else .du:=by
 intro t;simp only[lK]
 induction ts with
 |nil=>simp[Abs.bW]
 |cons q ts ih =>
  obtain ⟨k,v⟩:=q;simp only[Z4,Abs.bW];split
  ·rfl
  ·exact ih
theorem ui{p q:Nat→Bool}(h:∀ n,p n=true→q n=true){y:aq}(hy:y.only p=true):y.only q=true:=by
 cases y with
 |box x=>exact iL h _ hy
 |bY T sz es=>exact il h _ hy
 |dG o=>rfl
 |dH T xs=>rfl
 |bt ks vs=>simp only[aq.only,t8] at hy ⊢;exact ⟨il h _ hy.1,il h _ hy.2⟩
 |it ks vs l c=>simp only[aq.only,t8] at hy ⊢;exact ⟨il h _ hy.1,il h _ hy.2⟩
theorem CM{n k:Nat} : ∀ {ts:List (Nat×I)},(∀ q∈ts,qW n k q.2)→∀ t,qW n k (Abs.bW ts t)
 | [],_,_=>.inr rfl
 |(a,v)::ts,h,t=>by
  simp only[Abs.bW];split
  ·exact h (a,v) (by simp)
  ·exact CM (fun q hq=>h q (by simp[hq])) t
theorem tn{p:Nat→Bool}{n k:Nat}(hp:p=fun j => ![n].contains j)(f:aq→aq)(hf:∀ y:aq,y.only p=true→f y=y):∀ {os:List (Nat×aq)},cR p (eM [n] os)→cR p (eM [n] (os.map fun q=>(q.1,f q.2)))
 | [],_=>trivial
 |(m,y)::os,h=>by
  simp only[Z4,eM,List.filter_cons] at h ⊢;split
  ·rename_i hm;rw[if_pos hm] at h;refine ⟨?_,tn (k:=k) hp f hf h.2⟩;rw[hf y h.1];exact h.1
  ·rename_i hm;rw[if_neg hm] at h;exact tn (k:=k) hp f hf h
theorem MJ{ys q:List Int}{k:Nat}(hk:ys.length=k):lL 1 0 k (some ((ys++q).map enc))=some (enc ys):=by
 have h:(((ys++q).map (enc (α:=Int))).drop 0).take k=ys.map enc:=by
  rw[List.drop_zero,Y6,List.take_append_of_le_length (by simp[hk]),List.take_of_length_le (by simp[hk])]
 simp only[lL,h];rw[if_pos (iD ys),hs];rfl
theorem Fm{n k:Nat} : ∀ y:aq,y.only (fun j => ![n].contains j)=true→jE (iV n k) y=y:=fun y hy=>by
 cases y <;>try rfl
 simp only[aq.only] at hy;simp only[jE,tZ (iL (fun j hj=>by simpa using hj) _ hy)]
theorem Fk{n:Nat} : ∀ y:aq,y.only (fun j => ![n].contains j)=true→jE (iU n) y=y:=fun y hy=>by
 cases y <;>try rfl
 simp only[aq.only] at hy;simp only[jE,Fl (iL (fun j hj=>by simpa using hj) _ hy)]
theorem Fj{ts ts':List (Nat×I)}(h:∀ q∈ts',Abs.bW ts q.1=q.2):cC ts ts':=by
 induction ts' with
 |nil=>trivial
 |cons q ts' ih=>exact ⟨h q (by simp),ih fun q hq=>h q (by simp[hq])⟩
theorem ae.Yv{W0:World}{bH:aP}{nn:Nat}{ow:Nat→Prop}{E1:aY}{Y:Value→List I→List (Nat×aq)→cF→Prop}{j2:Option Nat}{ba:Option (List Deferred)}{y:bx}{Q:Exit→ai→Prop}{ts:List (Nat×I)}{os:List (Nat×aq)}{a b d n:Nat}{xs:List Int}
  (af:Abs.bW ts d=.own n xs.length) (hn:aj os n=some (.dH 3 xs)) (hlt:n<1000000) (ao:xs.length≤1000) (ht:∀ t,qW n xs.length (Abs.bW ts t)) (ho:cR (fun j => ![n].contains j) (eM [n] os))
  (ts':List (Nat×I)) (J:∀ q∈ts',q.1≠a∧q.1≠b∧Abs.bW ts q.1=q.2∧q.2.only (fun j=>j != n)=true)
  (hda:d≠a) (hdb:d≠b)
  (h:ae ⟨Tryz.prog,W0,bH,nn,ow,E1,Y,j2,ba⟩ y Q (au ((d,enc (cm xs))::ts') (eM [n] os))) :
  ae ⟨Tryz.prog,W0,bH,nn,ow,E1,Y,j2,ba⟩ (.seq (.b8 none [⟨some a,.mv (.t d),none⟩,⟨some b,.call 89 [.t a],none⟩]) y) Q (au ts os):=by
 have hdrop:∀ m,aj (eM [n] os) m=if m=n then none else aj os m:=fun m=>by
  have:=nO [n] os m;simpa using this
 have ho':∀ m y,aj os m=some y→m≠n→y.only (fun j=>j != n)=true:=fun m y hy hm=>by
  have:=wQ ho m y (by rw[hdrop,if_neg hm];exact hy);exact ui (fun j hj=>by simpa using hj) this
 by_cases hx:xs=[]
 ·subst hx;refine ae.sub (bB.YO hn (bB.refl _)) ?_;refine ae.seq (ae.b8 (cl:=[]) (by rfl) fun K hK =>?_);have hd':Abs.bW (ts.map fun q=>(q.1,iU n q.2)) d=.nils 1:=by
   rw[pw _ rfl,af];simp[iU]
  simp only[bG,simprocAttr,hd'];refine .flat _ (GB _ (.inr rfl)) rfl ?_
  try simp only[bG,simprocAttr]
  refine .done (hK _ ?_);clear hK K;refine ae.sub ((bB.jN [n] d (x:=.nils 1) (y:=enc ([]:List Int)) ?_ (by rfl) ?_).trans (bB.slots ?_ fun m =>?_)) h
  ·simp only[Abs.bW,hda,hdb,if_false];exact hd'
  ·exact tn (k:=0) rfl (jE (iU n)) Fk ho
  ·refine ⟨by simp[Abs.bW,cm],Fj fun q hq =>?_⟩;obtain ⟨k1,k2,k3,k4⟩:=J q hq;have hqd:q.1≠d:=fun e=>by
    rw[e,af] at k3;rw[←k3] at k4;simp[I.only] at k4
   have h5:Abs.bW (ts.map fun p=>(p.1,iU n p.2)) q.1=q.2:=by
    rw[pw _ rfl,k3,Fl k4]
   simp only[Abs.bW,AO,k1,k2,hqd,if_false,h5];rw[if_pos (iL (fun j hj=>by simpa using hj) _ k4)]
  ·rw[hdrop,nO,s7];by_cases hm:m=n
   ·simp[hm]
   ·cases h6:aj os m with
    |none=>simp[hm]
    |some y =>
     have h7:jE (iU n) y=y:=Fk _ (ui (fun j hj=>by simpa using hj) (ho' _ _ h6 hm));simp[hm,h7]
 ·refine ae.YN hn hx hlt ht (fun m y hy hm=>.inr (ho' m y hy hm)) fun q =>?_;refine ae.seq (ae.b8 (cl:=[]) (by rfl) fun K hK =>?_);have hd':Abs.bW (ts.map fun p=>(p.1,iV n xs.length p.2)) d=.view n [] 1 0 xs.length:=by
   rw[pw _ rfl,af];simp[iV]
  simp only[bG,simprocAttr,hd'];refine .bP false [(1000000,n)] (j5 1000000 (xs++List.replicate q 0)) [.view 1000000 [] 1 0 xs.length] _ rfl (GA xs _ (by omega)) ?_ ?_ ?_ ?_
  ·refine ⟨fun m y hy =>?_,fun m m' h h' _=>by rw[mE.1 h,mE.1 h']⟩;simp only[j5,aj] at hy;split at hy
   ·rename_i hm;cases hy;subst hm;exact ⟨by simp only[bI,if_true,aj,aq.bl,I.bl,tG],Cp _ _,rfl⟩
   ·cases hy
  ·exact ⟨.inl ⟨by simp[I.bl,bI],mE.2 rfl,rfl⟩,trivial⟩
  ·rintro rr os2 ⟨rfl,rfl⟩;refine ⟨fun m y hy =>?_,fun m m' h h' _=>by rw[mE.1 h,mE.1 h'],fun m hm=>by rw[mE.1 hm];exact mE.2 rfl,fun m a b=>by rw[mE.1 a] at b;simp[j5,aw,aj] at b,rfl,fun _=>rfl⟩;simp only[j5,aj] at hy;split at hy
   ·cases hy;exact ⟨Cp _ _,rfl,fun h=>by cases h⟩
   ·cases hy
  ·rintro rr os2 ⟨rfl,rfl⟩
   try simp only[j5,dB,Z4,zy1,aq.bl,I.bl,tG,bI,reduceIte,Z9,List.nil_append,I.dT,bG,simprocAttr]
   refine .done (hK _ ?_);clear hK K;refine ae.sub ((bB.jN [n] d (x:=.view n [] 1 0 xs.length) (y:=enc (cm xs)) ?_ ?_ ?_).trans (bB.slots ?_ fun m =>?_)) h
   ·simp only[Abs.bW,hda,hdb,if_false];exact hd'
   ·have:aj (mH [n] ((n,aq.box (I.agg ((cm xs++List.replicate q 0).map enc)))::(n,aq.box (I.agg ((xs++List.replicate q 0).map enc)))::os.map fun p=>(p.1,jE (iV n xs.length) p.2))) n=some (.box (.agg ((cm xs++List.replicate q 0).map enc))):=by
     rw[pq];simp[aj]
    try simp only[this,bG,simprocAttr]
    exact MJ (by simp[cm])
   ·have:=tn (k:=0) rfl (jE (iV n xs.length)) Fm ho;simpa[eM] using this
   ·refine ⟨by simp[Abs.bW],Fj fun q hq =>?_⟩;obtain ⟨k1,k2,k3,k4⟩:=J q hq;have hqd:q.1≠d:=fun e=>by
     rw[e,af] at k3;rw[←k3] at k4;simp[I.only] at k4
    have h5:Abs.bW (ts.map fun p=>(p.1,iV n xs.length p.2)) q.1=q.2:=by
     rw[pw _ rfl,k3,tZ k4]
    simp only[Abs.bW,AO,k1,k2,hqd,if_false,h5];rw[if_pos (iL (fun j hj=>by simpa using hj) _ k4)]
   ·rw[hdrop,nO];by_cases hm:m=n
    ·simp[hm]
    ·simp only[aj,if_neg hm,s7];cases h6:aj os m with
     |none=>simp[hm]
     |some y =>
      have h7:jE (iV n xs.length) y=y:=Fm _ (ui (fun j hj=>by simpa using hj) (ho' _ _ h6 hm));simp[hm,h7]
def iN(ks:List Int)(aA:List Nat):List Int:=aA.map fun i=>ks.getD i 0
theorem Xp(ks:List Int)(aA:List Nat)(i:Nat):iN ks (aA++[i])=iN ks aA++[ks.getD i 0]:=by simp[iN]
theorem Xo(ks:List Int)(aA:List Nat):(iN ks aA).length=aA.length:=by simp[iN]
theorem Xn{ks:List Int}{aA:List Nat}(h:aA.Perm (List.range ks.length)):(iN ks aA).Perm ks:=by
 have e:(List.range ks.length).map (fun i=>ks.getD i 0)=ks:=by
  refine List.ext_getElem (by simp) fun i J U =>?_;simp[Z0,U]
 simp only[iN];have:=h.map fun i=>ks.getD i 0
 rwa [e] at this
theorem Yu{xs ys:List Int}(h:xs.Perm ys):cm xs=cm ys:=by
 unfold cm;have hx:=List.pairwise_mergeSort (le:=fun x y:Int=>decide (x≤y)) (by intro a b c;simp;omega) (by intro a b;simp;omega) xs;have hy:=List.pairwise_mergeSort (le:=fun x y:Int=>decide (x≤y)) (by intro a b c;simp;omega) (by intro a b;simp;omega) ys;refine List.Perm.eq_of_pairwise (fun a b _ _ h k =>?_) hx hy ((List.mergeSort_perm _ _).trans (h.trans (List.mergeSort_perm _ _).symm));simp only[decide_eq_true_eq] at h k;omega
theorem CR(p:Nat→Bool)(f:Nat→dh):∀ l:List Nat,I.ct p (l.map fun i=>.ref (enc (f i)))=true
 | []=>rfl
 |i::l=>by simp[I.ct,I.only,cJ,CR p f l]
def ye(s:aB)(t:List Nat×List Nat×Option Nat):ai :=
 au [(3,.own 905 (iN s.bE t.1).length),(9,.dk 9)] [(9,.it (s.bE.map enc) (s.aQ.map fun i=>.ref (enc (s.bJ i))) t.2.1 t.2.2),(905,.dH 3 (iN s.bE t.1))]
theorem x2(s:aB)(ao:s.aQ.length≤1000):bf Tryz.prog 85 [dD s] (enc (cm s.bE)):=by
 refine bf.b9 Tryz.func85 IS JN K0 (u8 rfl) (fun hwf W0 bH E1 =>?_);simp only[zx,Ei,bN];clear hwf;have hlen:s.bE.length=s.aQ.length:=by simp[aB.bE]
 refine .gq (by decide +kernel) fun K hK =>?_;simp only[Bu,bG,simprocAttr];refine .done (hK _ ?_);clear hK K;refine .gq (by decide +kernel) fun K hK =>?_;simp only[Bv,bG,simprocAttr];refine .done (hK _ ?_);clear hK K;refine ae.seq (ae.seq ?_);refine .j0 (by decide +kernel) fun K hK =>?_;simp only[Bw,bG,simprocAttr]
 try simp only[ea,jy,bp,mJ,bG,simprocAttr]
 refine .done (hK _ ?_);clear hK K;try simp only[ef]
 refine ae.block (ae.loop (ye s) (fun t=>(t.1++t.2.1).Perm (List.range s.bE.length)) (fun t=>t.2.1.length) ([],List.range s.bE.length,none) (by simp) ?_ ?_)
 ·refine bB.GU 3 905 3 1 rfl rfl ?_;refine bB.slots ?_ (fun n =>?_)
  ·simp[cC,cz,iN]
  ·simp only[iN,zy1,dX,qL,Z8,hlen]
   (repeat' split) <;>simp_all
 rintro ⟨aA,left,cur⟩ hC;simp only at hC;have hdl:aA.length+left.length=s.bE.length:=by simpa using hC.length_eq
 have hpl:=Xo s.bE aA;simp only[ye];by_cases hn:left=[]
 ·subst hn;refine .gq (by decide +kernel) fun K hK =>?_;simp only[vT,bG,simprocAttr]
  try simp only[mJ,CG,bG,simprocAttr]
  refine .done (hK _ ?_);clear hK K;refine ae.seq ?_;refine ae.js ?_;simp only[aC,bG,simprocAttr];refine ⟨fun h =>?_,fun h =>?_⟩
  case refine_1=>cases h
  refine ae.exit ?_;try simp only[ef,jL,simprocAttr]
  have hdn:(iN s.bE aA).Perm s.bE:=Xn (by simpa using hC);rw[←Yu hdn];generalize iN s.bE aA=xs at hpl;refine ae.Yv (a:=18) (b:=19) (d:=3) (n:=905) (xs:=xs) rfl rfl (by decide) (by omega) (CM (by simp[qW,I.only,I.ct])) (by simp only[eM,List.filter_cons,List.filter_nil,List.contains_cons];simp[cR,aq.only,ik,CR,-List.map_map]) [] (by simp) (by decide) (by decide) ?_;have R:=aH
  repeat' ((first |refine ae.aJ (by decide +kernel) rfl fun K hK =>?_|(refine .aA [0,2,3,4,9,11] hK ?_;clear hK K)|(with_reducible refine .done (hK _ ?_);clear hK K)|refine ae.of rfl ?_|(with_reducible refine aC.aI (fun h =>?_) (fun h =>?_) <;>try simp only[h])) <;>try simp only[aK,R,simprocAttr])
  all_goals clear R
 ·refine .gq (by decide +kernel) fun K hK =>?_;simp only[vT,bG,simprocAttr]
  try simp only[mJ,bG,simprocAttr]
  refine aR.ig hn fun i hi =>?_;have hib:i<s.bE.length:=zx0.1 (hC.mem_iff.1 (by simp[hi]));have hib2:i<s.aQ.length:=by omega
  obtain ⟨hm,hC2⟩:=Cd hC hi;have hk1:(s.bE.map (enc (α:=Int)))[i]?=some (enc s.bE[i]):=by simp[hib]
  have hk2:(s.aQ.map fun i=>I.ref (enc (s.bJ i)))[i]?=some (.ref (enc (s.bJ s.aQ[i]))):=by simp[hib2]
  refine ⟨_,_,hk1,hk2,?_⟩;have hent:mA (s.bE.map enc) (s.aQ.map fun i=>I.ref (enc (s.bJ i))) (some i)=some (.tuple [enc s.bE[i],.ref (enc (s.bJ s.aQ[i]))]):=by
   simp only[mA,hk1,hk2]
  have hx:s.bE.getD i 0=s.bE[i]:=by simp[Z0,hib]
  have hsn:=Xp s.bE aA i;rw[hx] at hsn;have hbs:fE 1 (some [.int .i64 s.bE[i]])=some (enc [s.bE[i]]):=jm 1 s.bE[i] rfl;have hap:=fun (A:ai) d rest=>G5 (A:=A) (d:=d) (e:=3) (bytes:=8) (n:=905) (l:=(iN s.bE aA).length) (xs:=iN s.bE aA) (y:=s.bE[i]) (rest:=rest) rfl (by simp[maxLen];omega) (by omega)
  try simp only[bG,simprocAttr]
  refine .done (hK _ ?_);clear hK K;refine ae.seq ?_;refine ae.js ?_;simp only[aC,bG,simprocAttr];refine ⟨fun h =>?_,fun h =>?_⟩
  case refine_2=>cases h
  refine ae.skip ?_;try simp only[ef,simprocAttr]
  refine ae.block ?_;have R:=y6 @hent (y6 @hbs (y6 @hap aH))
  repeat' ((first |refine ae.aJ (by decide +kernel) rfl fun K hK =>?_|(refine .aA [0,2,3,4,9,11] hK ?_;clear hK K)|(with_reducible refine .done (hK _ ?_);clear hK K)|refine ae.of rfl ?_|(with_reducible refine aC.aI (fun h =>?_) (fun h =>?_) <;>try simp only[h])) <;>try simp only[aK,R,simprocAttr])
  all_goals clear R
  refine ⟨(aA++[i],left.filter (· != i),some i),hC2,hm,?_⟩;simp only[hsn];refine bB.slots ?_ (fun n =>?_)
  ·simp[cC,cz]
  ·simp only[dX,qL];(repeat' split) <;>simp_all
theorem Yd:(∀ A d rest l,tK A d rest (jO l)=az rest ((A.aV d (.it (l.map enc) (List.replicate l.length (.bool true)) (List.range (l.map (enc (α:=Int))).length) none)).put d (.dk d))):=fun _ _ _ _=>rfl
def mU(s:aB):List dh:=(cm s.bE).map fun n=>s.bJ (n.toNat-1)
def tI(p:bo):List dh×Int:=match cS p with
 |none=>([],91)
 |some s=>(mU s,0)
theorem Hh{s:aB}{n:Int}(h:n∈s.bE):∃ j,s.at n=some j∧n=(j:Int)+1∧j∈s.aQ:=by
 obtain ⟨j,hj,rfl⟩:=zz5.1 h;have ab:(s.at ((j:Int)+1)).isSome=true:=by
  simp only[aB.at,List.find?_isSome];exact ⟨j,hj,by simp⟩
 obtain ⟨k,hk⟩:=zz2.1 ab;obtain ⟨J,U⟩:=h3 hk;exact ⟨k,hk,U,J⟩
theorem Yt{l:List Int}{n:Int} : n∈cm l↔n∈l:=by simp[cm]
theorem xm:∀ {l:List bg} {s s':aB},fG s l=some s'→s'.aQ.length≤s.aQ.length+l.length
 | [],s,s',h=>by cases h;simp
 |x::l,s,s',h=>by
  simp only[fG] at h;cases hx:fh s x with
  |none=>rw[hx] at h;cases h
  |some s2 =>
   rw[hx] at h;have J:=xm h;have he:∀ b,(s.aQ.erase b).length≤s.aQ.length:=fun b=>List.length_erase_le;have U:s2.aQ.length≤s.aQ.length+1:=by
    simp only[fh] at hx;split at hx
    ·simp only[di] at hx
     (repeat' split at hx) <;>first
      |(cases hx;done)
      |(cases hx;exact zx4 (he _) (Nat.le_succ _))
      |(cases hx;exact Nat.le_succ _)
      |(cases hx;simp)
    ·cases hx
   simp only[zy5];omega
theorem Xh{p:bo}{s:aB}(h:cS p=some s):s.aQ.length≤200:=by
 obtain ⟨_,_,_,ar,_,h6⟩:=gf h;have:=xm h6;simp only[eN,List.length_nil] at this;omega
theorem Ch(s:aB){i:Nat}(h:i<(cm s.bE).length):fu (.i .i64) .nilp (.int .i64 (cm s.bE)[i]) (s.bE.map enc) (s.aQ.map fun i=>.ref (enc (s.bJ i)))=some (.ref (enc (s.bJ ((cm s.bE)[i].toNat-1))),true):=by
 have hm:(cm s.bE)[i]∈s.bE:=Yt.1 (List.getElem_mem h);obtain ⟨j,hj,e,_⟩:=Hh hm;rw[sZ (s:=s) (fun i=>.ref (enc (s.bJ i))),hj];have:(cm s.bE)[i].toNat-1=j:=by omega
 simp only[this]
theorem MI{xs:List dh} : kV xs.length (some (.bY 48 4 (xs.map enc)))=some (enc xs):=ql 4 rfl rfl
def uv(p:bo)(s:aB)(t:Nat×List dh):ai :=
 au [(1,.ptr 1 []),(4,dD s),(6,.own 905 t.2.length),(18,enc (cm s.bE)),(19,.int .i64 (cm s.bE).length),(20,.int .i64 t.1)] [(905,.bY 48 4 (t.2.map enc)),(1,.box (enc p))]
theorem F8(p:bo):bf Tryz.prog 46 [enc p] (.tuple [enc (tI p).1,enc (tI p).2]):=by
 refine bf.b9 Tryz.func46 Iv Ju KG (u8 rfl) (fun hwf W0 bH E1 =>?_);simp only[zc,DU,bN];clear hwf;have hF:=nl p;simp only[tI];cases ho:cS p with
 |none =>
  rw[ho] at hF;simp only[iM] at hF;have R:=y6 @cD (y6 @bq (y6 @bS (y6 @bu (y6 @bp aH))))
  repeat' ((first |refine ae.aJ (by decide +kernel) rfl fun K hK =>?_|refine .lead _ (hF) ?_|(refine .aA [0,1,2,3,4,5,6,8,15,18,19,20,21] hK ?_;clear hK K)|(with_reducible refine .done (hK _ ?_);clear hK K)|refine ae.of rfl ?_|(with_reducible refine aC.aI (fun h =>?_) (fun h =>?_) <;>try simp only[h])) <;>try simp only[aK,R,simprocAttr])
  all_goals clear R
  rfl
 |some s =>
  have ao:=Xh ho;have hN:=x2 s (by omega);have hlen:(cm s.bE).length=s.aQ.length:=by simp[cm,aB.bE]
  have hrl:(mU s).length=(cm s.bE).length:=by simp[mU]
  have hso:∀ p,(dD s).only p=true:=fun p=>kl p _ (ou s);rw[ho] at hF;simp only[iM] at hF;have R:=y6 @Yd (y6 @ea (y6 @cD (y6 @bq (y6 @bS (y6 @bu (y6 @bp aH))))))
  repeat' ((first |refine ae.aJ (by decide +kernel) rfl fun K hK =>?_|refine .lead _ (hF) ?_|refine .lead _ (hN) ?_|(refine .aA [0,1,2,3,4,5,6,8,15,18,19,20,21] hK ?_;clear hK K)|(with_reducible refine .done (hK _ ?_);clear hK K)|refine ae.of rfl ?_|(with_reducible refine aC.aI (fun h =>?_) (fun h =>?_) <;>try simp only[h])) <;>try simp only[aK,R,simprocAttr])
  all_goals clear R
  refine ae.loop (uv p s) (fun t=>t.1≤(cm s.bE).length∧t.2=(mU s).take t.1) (fun t=>(cm s.bE).length-t.1) (0,[]) ⟨zx1 _,rfl⟩ ?_ ?_
  ·refine bB.sc 6 905 48 4 4 rfl rfl ?_;simp only[uv];refine bB.dF ?_ ?_ ?_ ?_ <;>simp[*,cC,dq,cO,cR,aw,cz,dX,I.only,I.ct,aq.only,cJ]
  rintro ⟨i,xs⟩ ⟨hi,hxs⟩;simp only at hi hxs;have htl:xs.length=i:=by rw[hxs,zz8];omega
  simp only[uv];by_cases hlt:i<(cm s.bE).length
  ·have hc:=gX hlt;have he:=fun A=>fb (A:=A) 1 hlt rfl;have hw:=gK (i:=i) (by omega);have hlk:=Ch s hlt;obtain ⟨r,hr⟩:∃ r,r=s.bJ ((cm s.bE)[i].toNat-1):=⟨_,rfl⟩
   rw[←hr] at hlk;have hbs:fE 4 (some [enc r])=some (enc [r]):=jm 4 _ rfl;have hap:=fun (A:ai) d rest=>p5 (A:=A) (d:=d) 48 4 32 905 (l:=xs.length) (es:=xs) (ys:=[r]) (rest:=rest) rfl rfl (by simp) (by simp[maxLen];omega) (by simp;omega);have htk:(mU s).take (i+1)=xs++[r]:=by
    have hik:i<(mU s).length:=by rw[hrl];exact hlt
    rw[zz1 hik,hxs,hr];simp[mU]
   have R:=y6 @hc (y6 @he (y6 @hw (y6 @hlk (y6 @hbs (y6 @hap (y6 @ea (y6 @cD (y6 @bq (y6 @bS (y6 @bu (y6 @bp aH)))))))))))
   repeat' ((first |refine ae.aJ (by decide +kernel) rfl fun K hK =>?_|(refine .aA [0,1,2,3,4,5,6,8,15,18,19,20,21] hK ?_;clear hK K)|(with_reducible refine .done (hK _ ?_);clear hK K)|refine ae.of rfl ?_|(with_reducible refine aC.aI (fun h =>?_) (fun h =>?_) <;>try simp only[h])) <;>try simp only[aK,R,simprocAttr])
   all_goals clear R
   refine ⟨(i+1,xs++[r]),⟨by simp only;omega,htk.symm⟩,by simp only;omega,?_⟩;simp only;clear hxs htk htl;refine bB.dF ?_ ?_ ?_ ?_ <;>simp[*,cC,dq,cO,cR,aw,cz,dX,I.only,I.ct,aq.only,ik,qX,cJ]
  ·have hge:i=(cm s.bE).length:=by omega
   have hc:=hP hlt;have htk:xs=mU s:=by rw[hxs];exact List.take_of_length_le (by omega)
   rw[←htk];have R:=y6 @hc (y6 @MI (y6 @ea (y6 @cD (y6 @bq (y6 @bS (y6 @bu (y6 @bp aH)))))))
   repeat' ((first |refine ae.aJ (by decide +kernel) rfl fun K hK =>?_|(refine .aA [0,1,2,3,4,5,6,8,15,18,19,20,21] hK ?_;clear hK K)|(with_reducible refine .done (hK _ ?_);clear hK K)|refine ae.of rfl ?_|(with_reducible refine aC.aI (fun h =>?_) (fun h =>?_) <;>try simp only[h])) <;>try simp only[aK,R,simprocAttr])
   all_goals clear R
theorem uI(a b:Int):(dO [.int .i64 0,.int .i64 0] [(0,.int .i64 a),(1,.int .i64 b)]).map I.agg=some (.agg [.int .i64 a,.int .i64 b]):=by simp[dO,I.bU,I.size]
instance:Enc aB where
 enc s:=dD s
 sz:=1
 aX:=.one
 gH:=false
 done s:=by simp only[dD,I.done,An]
 size _:=rfl
 iu _:=rfl
 agg _:=rfl
theorem Mh(s:aB):(enc s:I)=dD s:=rfl
def h0(l:List bo)(i:Nat):bo:=l.getD i default
theorem wW{l:List bo}{i:Nat}(h:i<l.length):l[i]=h0 l i:=by simp[h0,Z0,h]
def iF(l:List bo)(i:Nat):Bool:=(cS (h0 l i)).isSome&&(i==0||decide ((h0 l (i-1)).av<(h0 l i).av))
def sd(l:List bo):Bool:=(List.range l.length).all (iF l)
def nh(l:List bo):List aB:=l.filterMap cS
def j8(l:List bo)(b:Int):List aB×Int:=if sd l then (if cG 1 9999 b then (nh l,0) else ([],1)) else ([],96)
theorem CT{p:bo}(h:(cS p).isSome=true):0≤p.av∧p.av≤5:=by
 obtain ⟨s,ab⟩:=zz2.1 h;have h5:=(gf ab).2.2.2.2.1;simp only[ij,cG,t8,decide_eq_true_eq] at h5;exact h5.1
theorem Ve{l:List bo}{n:Nat}(h:∀ j,j<n→iF l j=true):∀ j,j<n→(j:Int)≤(h0 l j).av:=by
 intro j
 induction j with
 |zero =>
  intro hj;have aW:=h 0 hj;simp only[iF,t8] at aW;exact (CT aW.1).1
 |succ j ih =>
  intro hj;have J:=ih (by omega);have U:=h (j+1) hj;simp only[iF,t8,Bool.or_eq_true,beq_iff_eq,decide_eq_true_eq] at U;rcases U.2 with ah | ah
  ·omega
  ·have:j+1-1=j:=rfl;rw[this] at ah;omega
theorem BK{l:List bo}{n:Nat}(h:∀ j,j<n→iF l j=true):n≤6:=by
 rcases Nat.lt_or_ge 6 n with hn | hn
 ·have J:=Ve h 6 hn;have U:=h 6 hn;simp only[iF,t8] at U;have:=(CT U.1).2;omega
 ·exact hn
theorem YF{l:List bo}{i:Nat}(h:i<l.length):nh (l.take (i+1))=nh (l.take i)++(match cS (h0 l i) with | some s=>[s] | none=>[]):=by
 rw[zz1 h,wW h];simp only[nh,List.filterMap_append,List.filterMap_cons,List.filterMap_nil];cases cS (h0 l i) <;>rfl
theorem Fh(l:List bo):(nh l).length≤l.length:=List.length_filterMap_le _ _
theorem AS{xs:List aB} : kV xs.length (some (.bY 80 1 (xs.map enc)))=some (enc xs):=ql 1 rfl rfl
def ux(l:List bo)(b:Int)(t:Nat×List aB):ai :=
 au [(0,enc l),(1,.int .i64 b),(6,.own 905 t.2.length),(11,enc l),(12,.int .i64 l.length),(13,.int .i64 t.1)] [(905,.bY 80 1 (t.2.map enc))]
theorem Gz(l:List bo)(b:Int):bf Tryz.prog 83 [enc l,enc b] (.tuple [enc (j8 l b).1,enc (j8 l b).2]):=by
 refine bf.b9 Tryz.func83 IQ JM KZ (u8 rfl) (fun hwf W0 bH E1 =>?_);simp only[zw,Eg,bN,Z1];have hlen:l.length≤maxLen:=((nj l).1 hwf.1).1;simp only[maxLen] at hlen;clear hwf;have R:=y6 @cD (y6 @bq (y6 @bS (y6 @bu (y6 @bp aH))))
 repeat' ((first |(with_reducible refine .guard (fun hb =>?_) (fun hb =>?_) <;>try simp only[hb])|refine ae.aJ (by decide +kernel) rfl fun K hK =>?_|(refine .aA [0,1,4,5,6,7,8,9,10,11,12,13,14,39,47] hK ?_;clear hK K)|(with_reducible refine .done (hK _ ?_);clear hK K)|refine ae.of rfl ?_|(with_reducible refine aC.aI (fun h =>?_) (fun h =>?_) <;>try simp only[h])) <;>try simp only[aK,R,simprocAttr])
 all_goals clear R
 refine ae.loop (ux l b) (fun t=>t.1≤l.length∧(∀ j,j<t.1→iF l j=true)∧t.2=nh (l.take t.1)) (fun t=>l.length-t.1) (0,[]) ⟨zx1 _,by simp,rfl⟩ ?_ ?_
 ·refine bB.sc 6 905 80 1 1 rfl rfl ?_;simp only[ux];refine bB.dF ?_ ?_ ?_ ?_ <;>simp[cC,dq,cO,cR,aw,cz,dX,I.only,I.ct,aq.only,cJ]
  all_goals rfl
 rintro ⟨i,xs⟩ ⟨hi,hg,hxs⟩;simp only at hi hg hxs;have hi6:=BK hg;have hxl:xs.length≤i:=by
  rw[hxs];refine zx4 (Fh _) ?_;rw[zz8];omega
 simp only[ux];by_cases hlt:i<l.length
 ·have hc:=gX hlt;have he:=fun A=>fb (A:=A) 3 hlt rfl;rw[wW hlt] at he;have hw:=gK (i:=i) (by omega);have hF:=nl (h0 l i);have hbad:iF l i=false→j8 l b=([],96):=fun h=>by
   have:sd l=false:=by
    simp only[sd,List.all_eq_false];exact ⟨i,zx0.2 hlt,by simp[h]⟩
   simp[j8,this]
  cases ho:cS (h0 l i) with
  |none =>
   rw[ho] at hF;simp only[iM] at hF;rw[hbad (by simp[iF,ho])];have R:=y6 @hc (y6 @he (y6 @cD (y6 @bq (y6 @bS (y6 @bu (y6 @bp aH))))))
   repeat' ((first |(with_reducible refine .guard (fun hb =>?_) (fun hb =>?_) <;>try simp only[hb])|refine ae.aJ (by decide +kernel) rfl fun K hK =>?_|refine .lead _ (hF) ?_|(refine .aA [0,1,4,5,6,7,8,9,10,11,12,13,14,39,47] hK ?_;clear hK K)|(with_reducible refine .done (hK _ ?_);clear hK K)|refine ae.of rfl ?_|(with_reducible refine aC.aI (fun h =>?_) (fun h =>?_) <;>try simp only[h])) <;>try simp only[aK,R,simprocAttr])
   all_goals clear R
   rfl
  |some s =>
   rw[ho] at hF;simp only[iM] at hF;have hbs:fE 1 (some [dD s])=some (enc [s]):=jm 1 s rfl;have hap:=fun (A:ai) d rest=>p5 (A:=A) (d:=d) 80 1 8 905 (l:=xs.length) (es:=xs) (ys:=[s]) (rest:=rest) rfl rfl (by simp) (by simp[maxLen];omega) (by simp;omega);have hst:nh (l.take (i+1))=xs++[s]:=by rw[YF hlt,ho,hxs]
   have hso:∀ p,(dD s).only p=true:=fun p=>kl p _ (ou s);by_cases aW:i=0
   ·have hz:decide ((i:Int)>0)=false:=by simp;omega
    have hgi:iF l i=true:=by simp only[iF,ho];simp[aW]
    have R:=y6 @hc (y6 @he (y6 @hz (y6 @hw (y6 @hbs (y6 @hap (y6 @cD (y6 @ea (y6 @bq (y6 @bS (y6 @bu (y6 @bp aH)))))))))))
    repeat' ((first |(with_reducible refine .guard (fun hb =>?_) (fun hb =>?_) <;>try simp only[hb])|refine ae.aJ (by decide +kernel) rfl fun K hK =>?_|refine .lead _ (hF) ?_|(refine .aA [0,1,4,5,6,7,8,9,10,11,12,13,14,39,47] hK ?_;clear hK K)|(with_reducible refine .done (hK _ ?_);clear hK K)|refine ae.of rfl ?_|(with_reducible refine aC.aI (fun h =>?_) (fun h =>?_) <;>try simp only[h])) <;>try simp only[aK,R,simprocAttr])
    all_goals clear R
    refine ⟨(i+1,xs++[s]),⟨by simp only;omega,fun j hj =>?_,hst.symm⟩,by simp only;omega,?_⟩
    ·by_cases e:j=i
     ·rw[e];exact hgi
     ·exact hg j (by simp only at hj;omega)
    ·simp only;clear hxs hst;refine bB.dF ?_ ?_ ?_ ?_ <;>simp[*,cC,dq,cO,cR,aw,cz,dX,I.only,I.ct,aq.only,ik,qX,cJ]
   ·have hz:decide ((i:Int)>0)=true:=by simp;omega
    have hw1:IntKind.i64.wrap ((i:Int)-1)=((i-1:Nat):Int):=by rw[jG _ (by omega) (by omega)];omega
    have he1:∀ A,jP A 3 ((i-1:Nat):Int) (enc l)=some (.ref (enc (h0 l (i-1)))):=fun A=>by
     have hlt1:i-1<l.length:=by omega
     have:=fb (A:=A) 3 hlt1 rfl;rw[wW hlt1] at this;exact this
    rcases q:decide ((h0 l (i-1)).av≥(h0 l i).av)
    ·have hgi:iF l i=true:=by
      have:(h0 l (i-1)).av<(h0 l i).av:=by have:=of_decide_eq_false q;omega
      simp[iF,ho,this]
     have R:=y6 @hc (y6 @he (y6 @hz (y6 @hw1 (y6 @he1 (y6 @q (y6 @hw (y6 @hbs (y6 @hap (y6 @cD (y6 @ea (y6 @bq (y6 @bS (y6 @bu (y6 @bp aH))))))))))))))
     repeat' ((first |(with_reducible refine .guard (fun hb =>?_) (fun hb =>?_) <;>try simp only[hb])|refine ae.aJ (by decide +kernel) rfl fun K hK =>?_|refine .lead _ (hF) ?_|(refine .aA [0,1,4,5,6,7,8,9,10,11,12,13,14,39,47] hK ?_;clear hK K)|(with_reducible refine .done (hK _ ?_);clear hK K)|refine ae.of rfl ?_|(with_reducible refine aC.aI (fun h =>?_) (fun h =>?_) <;>try simp only[h])) <;>try simp only[aK,R,simprocAttr])
     all_goals clear R
     refine ⟨(i+1,xs++[s]),⟨by simp only;omega,fun j hj =>?_,hst.symm⟩,by simp only;omega,?_⟩
     ·by_cases e:j=i
      ·rw[e];exact hgi
      ·exact hg j (by simp only at hj;omega)
     ·simp only;clear hxs hst;refine bB.dF ?_ ?_ ?_ ?_ <;>simp[*,cC,dq,cO,cR,aw,cz,dX,I.only,I.ct,aq.only,ik,qX,cJ]
    ·have hgi:iF l i=false:=by
      have:¬ (h0 l (i-1)).av<(h0 l i).av:=by have:=of_decide_eq_true q;omega
      simp[iF,this,aW]
     rw[hbad hgi];have R:=y6 @hc (y6 @he (y6 @hz (y6 @hw1 (y6 @he1 (y6 @q (y6 @hw (y6 @hbs (y6 @hap (y6 @cD (y6 @ea (y6 @bq (y6 @bS (y6 @bu (y6 @bp aH))))))))))))))
     repeat' ((first |(with_reducible refine .guard (fun hb =>?_) (fun hb =>?_) <;>try simp only[hb])|refine ae.aJ (by decide +kernel) rfl fun K hK =>?_|refine .lead _ (hF) ?_|(refine .aA [0,1,4,5,6,7,8,9,10,11,12,13,14,39,47] hK ?_;clear hK K)|(with_reducible refine .done (hK _ ?_);clear hK K)|refine ae.of rfl ?_|(with_reducible refine aC.aI (fun h =>?_) (fun h =>?_) <;>try simp only[h])) <;>try simp only[aK,R,simprocAttr])
     all_goals clear R
     rfl
 ·have hge:i=l.length:=by omega
  have hc:=hP hlt;have hx2:xs=nh l:=by rw[hxs,hge,List.take_length]
  have hgood:sd l=true:=zz4.2 fun j hj=>hg j (by have:=zx0.1 hj;omega);have hB:=oG b;simp only[j8,hgood,if_true,←hx2];rw[hge];rw[hge] at hc;rcases q:cG 1 9999 b
  ·rw[q] at hB;have R:=y6 @hc (y6 @AS (y6 @cD (y6 @bq (y6 @bS (y6 @bu (y6 @bp aH))))))
   repeat' ((first |(with_reducible refine .guard (fun hb =>?_) (fun hb =>?_) <;>try simp only[hb])|refine ae.aJ (by decide +kernel) rfl fun K hK =>?_|refine .flat _ (hB) rfl ?_|(refine .aA [0,1,4,5,6,7,8,9,10,11,12,13,14,39,47] hK ?_;clear hK K)|(with_reducible refine .done (hK _ ?_);clear hK K)|refine ae.of rfl ?_|(with_reducible refine aC.aI (fun h =>?_) (fun h =>?_) <;>try simp only[h])) <;>try simp only[aK,R,simprocAttr])
   all_goals clear R
   rfl
  ·rw[q] at hB;have R:=y6 @hc (y6 @AS (y6 @cD (y6 @bq (y6 @bS (y6 @bu (y6 @bp aH))))))
   repeat' ((first |(with_reducible refine .guard (fun hb =>?_) (fun hb =>?_) <;>try simp only[hb])|refine ae.aJ (by decide +kernel) rfl fun K hK =>?_|refine .flat _ (hB) rfl ?_|(refine .aA [0,1,4,5,6,7,8,9,10,11,12,13,14,39,47] hK ?_;clear hK K)|(with_reducible refine .done (hK _ ?_);clear hK K)|refine ae.of rfl ?_|(with_reducible refine aC.aI (fun h =>?_) (fun h =>?_) <;>try simp only[h])) <;>try simp only[aK,R,simprocAttr])
   all_goals clear R
def ue(l:List bo)(b:Int):List Int×Int:=(((j8 l b).1.filter fun s=>decide (b∈s.here)).map (·.av),(j8 l b).2)
theorem GV(l:List bo)(b:Int):(j8 l b).1.length≤6:=by
 simp only[j8];split
 ·rename_i hg;split
  ·have J:=BK (l:=l) (n:=l.length) fun j hj=>zz4.1 hg j (zx0.2 hj);exact zx4 (Fh l) J
  ·simp
 ·simp
def pR(all:List aB)(b:Int):List Int:=(all.filter fun s=>decide (b∈s.here)).map (·.av)
theorem YV(all:List aB)(b:Int){i:Nat}(h:i<all.length):pR (all.take (i+1)) b=pR (all.take i) b++if b∈all[i].here then [all[i].av] else []:=by
 rw[zz1 h];simp only[pR,List.filter_append,Y6,List.filter_cons,List.filter_nil,decide_eq_true_eq]
 congr 1
 split <;>rfl
def uu(all:List aB)(e b:Int)(t:Nat×List Int):ai :=
 au [(1,.int .i64 b),(7,.int .i64 e),(8,.own 905 t.2.length),(17,enc all),(18,.int .i64 all.length),(19,.int .i64 t.1)] [(905,.bY 3 1 (t.2.map enc))]
theorem AQ{xs:List Int} : kV xs.length (some (.bY 3 1 (xs.map enc)))=some (enc xs):=ql 1 rfl rfl
theorem F6(l:List bo)(b:Int):bf Tryz.prog 37 [enc l,enc b] (.tuple [enc (ue l b).1,enc (ue l b).2]):=by
 refine bf.b9 Tryz.func37 Is Jr KD (u8 rfl) (fun hwf W0 bH E1 =>?_);simp only[y9,DR,bN,Z1];clear hwf;have hF:=Gz l b;have hal:=GV l b;simp only[ue];generalize (j8 l b).1=all at *;generalize (j8 l b).2=e at *;have R:=y6 @cD (y6 @bq (y6 @bS (y6 @bu (y6 @bp aH))))
 repeat' ((first |refine ae.aJ (by decide +kernel) rfl fun K hK =>?_|refine .lead _ (hF) ?_|(refine .aA [0,1,4,5,6,7,8,10,17,18,19,20,28] hK ?_;clear hK K)|(with_reducible refine .done (hK _ ?_);clear hK K)|refine ae.of rfl ?_|(with_reducible refine aC.aI (fun h =>?_) (fun h =>?_) <;>try simp only[h])) <;>try simp only[aK,R,simprocAttr])
 all_goals clear R
 refine ae.loop (uu all e b) (fun t=>t.1≤all.length∧t.2=pR (all.take t.1) b) (fun t=>all.length-t.1) (0,[]) ⟨zx1 _,rfl⟩ ?_ ?_
 ·refine bB.sc 8 905 3 1 1 rfl rfl ?_;simp only[uu];refine bB.dF ?_ ?_ ?_ ?_ <;>simp[cC,dq,cO,cR,aw,cz,dX,I.only,I.ct,aq.only,cJ]
  all_goals rfl
 rintro ⟨i,xs⟩ ⟨hi,hxs⟩;simp only at hi hxs;have hxl:xs.length≤i:=by
  rw[hxs,pR,Z8];refine zx4 (List.length_filter_le _ _) ?_;rw[zz8];omega
 simp only[uu];by_cases hlt:i<all.length
 ·have hc:=gX hlt;have he:=fun A=>fb (A:=A) 1 hlt rfl;have hw:=gK (i:=i) (by omega);have hsn:=YV all b hlt;rw[←hxs] at hsn;obtain ⟨s,ab⟩:∃ s,s=all[i]:=⟨_,rfl⟩
  rw[←ab] at he hsn;simp only[Mh] at he;have hlk:=ga eS b s.here;rw[eE] at hlk;have hbs:fE 1 (some [.int .i64 s.av])=some (enc [s.av]):=jm 1 s.av rfl;have hap:=fun (A:ai) d rest=>p5 (A:=A) (d:=d) 3 1 8 905 (l:=xs.length) (es:=xs) (ys:=[s.av]) (rest:=rest) rfl rfl (by simp) (by simp[maxLen];omega) (by simp;omega);rcases q:decide (b∈s.here)
  ·have bC:b∉s.here:=of_decide_eq_false q;rw[if_neg bC,List.append_nil] at hsn;have R:=y6 @hc (y6 @he (y6 @hw (y6 @hlk (y6 @q (y6 @ea (y6 @cD (y6 @bq (y6 @bS (y6 @bu (y6 @bp aH))))))))))
   repeat' ((first |refine ae.aJ (by decide +kernel) rfl fun K hK =>?_|(refine .aA [0,1,4,5,6,7,8,10,17,18,19,20,28] hK ?_;clear hK K)|(with_reducible refine .done (hK _ ?_);clear hK K)|refine ae.of rfl ?_|(with_reducible refine aC.aI (fun h =>?_) (fun h =>?_) <;>try simp only[h])) <;>try simp only[aK,R,simprocAttr])
   all_goals clear R
   refine ⟨(i+1,xs),⟨by simp only;omega,hsn.symm⟩,by simp only;omega,?_⟩;simp only;clear hxs hsn;refine bB.dF ?_ ?_ ?_ ?_ <;>simp[cC,dq,cO,cR,aw,cz,dX,I.only,aq.only,ik,cJ]
  ·have bC:b∈s.here:=of_decide_eq_true q;rw[if_pos bC] at hsn;have R:=y6 @hc (y6 @he (y6 @hw (y6 @hlk (y6 @q (y6 @hbs (y6 @hap (y6 @ea (y6 @cD (y6 @bq (y6 @bS (y6 @bu (y6 @bp aH))))))))))))
   repeat' ((first |refine ae.aJ (by decide +kernel) rfl fun K hK =>?_|(refine .aA [0,1,4,5,6,7,8,10,17,18,19,20,28] hK ?_;clear hK K)|(with_reducible refine .done (hK _ ?_);clear hK K)|refine ae.of rfl ?_|(with_reducible refine aC.aI (fun h =>?_) (fun h =>?_) <;>try simp only[h])) <;>try simp only[aK,R,simprocAttr])
   all_goals clear R
   refine ⟨(i+1,xs++[s.av]),⟨by simp only;omega,hsn.symm⟩,by simp only;omega,?_⟩;simp only;clear hxs hsn;refine bB.dF ?_ ?_ ?_ ?_ <;>simp[cC,dq,cO,cR,aw,cz,dX,I.only,I.ct,aq.only,ik,qX,cJ,eE]
 ·have hge:i=all.length:=by omega
  have hc:=hP hlt;have hx2:xs=pR all b:=by rw[hxs,hge,List.take_length]
  rw[show ((all.filter fun s=>decide (b∈s.here)).map (·.av))=xs from hx2.symm];have R:=y6 @hc (y6 @AQ (y6 @cD (y6 @bq (y6 @bS (y6 @bu (y6 @bp aH))))))
  repeat' ((first |refine ae.aJ (by decide +kernel) rfl fun K hK =>?_|(refine .aA [0,1,4,5,6,7,8,10,17,18,19,20,28] hK ?_;clear hK K)|(with_reducible refine .done (hK _ ?_);clear hK K)|refine ae.of rfl ?_|(with_reducible refine aC.aI (fun h =>?_) (fun h =>?_) <;>try simp only[h])) <;>try simp only[aK,R,simprocAttr])
  all_goals clear R
structure hh where
 kind:Int
 dc:Int
 no:Int
 aD:Int
 deriving DecidableEq,Inhabited
instance:Enc hh where
 enc g:=.agg [.int .i64 g.kind,.int .i64 g.dc,.int .i64 g.no,.int .i64 g.aD]
 sz:=4
 aX:=.eG [.one,.one,.one,.one]
 gH:=true
 done g:=by simp only[I.done,I.hl,Bool.and_self]
 size g:=by simp only[I.size,I.sizes]
 iu g:=by simp only[I.aX,I.cX]
 agg _:=rfl
structure cd where
 av:Int
 here:List Int
 dC:Int
 bF:List dh
 bn:List hh
 deriving Inhabited
def gB(a:Int)(h:I)(s:Int)(r e:I):I:=.agg [.int .i64 a,h,.int .i64 s,r,e]
instance:Enc cd where
 enc g:=gB g.av (enc g.here) g.dC (enc g.bF) (enc g.bn)
 sz:=5
 aX:=.eG [.one,.one,.one,.one,.one]
 gH:=true
 done g:=by simp only[gB,I.done,I.hl,Enc.done,Bool.and_self]
 size g:=by simp only[gB,I.size,I.sizes,kS,kd]
 iu g:=by simp only[gB,I.aX,I.cX,eQ,nB]
 agg _:=rfl
theorem cL:(∀ g:cd,(enc g).dJ=some [.int .i64 g.av,enc g.here,.int .i64 g.dC,enc g.bF,enc g.bn])∧(∀ a h s r e,(gB a h s r e).dJ=some [.int .i64 a,h,.int .i64 s,r,e])∧(∀ g:hh,(enc g).dJ=some [.int .i64 g.kind,.int .i64 g.dc,.int .i64 g.no,.int .i64 g.aD]) ∧
  (∀ g:cd,b7 (some 5) (enc g)=true)∧(∀ g:hh,b7 (some 4) (enc g)=true)∧(∀ g:List Int,b7 none (enc g)=true)∧(∀ g:List dh,b7 none (enc g)=true)∧(∀ g:List hh,b7 none (enc g)=true) ∧
  (∀ (a b:Int) (h:List Int) (r:List dh) (e:List hh) v,dm [.int .i64 a,enc h,.int .i64 b,enc r,enc e] 0 0 v=some v)∧(∀ (a b:Int) (h:List Int) (r:List dh) (e:List hh) v,dm [.int .i64 a,enc h,.int .i64 b,enc r,enc e] 1 1 v=some v)∧(∀ (a b:Int) (h:List Int) (r:List dh) (e:List hh) v,dm [.int .i64 a,enc h,.int .i64 b,enc r,enc e] 2 2 v=some v) ∧
  (∀ (a b:Int) (h:List Int) (r:List dh) (e:List hh) v,dm [.int .i64 a,enc h,.int .i64 b,enc r,enc e] 3 3 v=some v)∧(∀ (a b:Int) (h:List Int) (r:List dh) (e:List hh) v,dm [.int .i64 a,enc h,.int .i64 b,enc r,enc e] 4 4 v=some v) ∧
  (∀ A n b rest (q:cd) x y,dp A (some 5) n [] b (enc q) rest (some (.agg [.int .i64 x,.nils 1,.int .i64 y,.nils 4,.nils 4]))=az rest (A.aV n (.box (enc q))))∧(∀ A n b rest (q r:cd),dp A (some 5) n [] b (enc q) rest (some (enc r))=az rest (A.aV n (.box (enc q)))) ∧
  (∀ A n b rest (q:dh) x y z w,dp A (some 4) n [] b (enc q) rest (some (.agg [.int .i64 x,.int .i64 y,.int .i64 z,.bool w]))=az rest (A.aV n (.box (enc q))))∧(∀ A n b rest (q:hh) x y z w,dp A (some 4) n [] b (enc q) rest (some (.agg [.int .i64 x,.int .i64 y,.int .i64 z,.int .i64 w]))=az rest (A.aV n (.box (enc q)))) ∧
  (∀ (A:ai) n (q:cd) (l k:List Int) rest,dp A none n [1] (enc q) (enc l) rest (some (enc k))=az rest (A.aV n (.box (enc ({ q with here:=l } : cd)))))∧(∀ (A:ai) n (q:cd) (v u:Int) rest,dp A none n [2] (enc q) (.int .i64 v) rest (some (.int .i64 u))=az rest (A.aV n (.box (enc ({ q with dC:=v } : cd))))) :=
 ⟨fun _=>rfl,fun _ _ _ _ _=>rfl,fun _=>rfl,fun _=>by rw[fq];rfl,fun _=>by rw[fq];rfl,fun _=>by simp[kQ,kP],fun _=>by simp[kQ,kP],fun _=>by simp[kQ,kP],
  fun _ _ _ _ _ _=>jV (by simp) rfl,fun _ _ _ _ _ _=>jV (by simp) rfl,fun _ _ _ _ _ _=>jV (by simp) (by simp[I.sizes,I.size,kS,kd]),fun _ _ _ _ _ _=>jV (by simp) (by simp[I.sizes,I.size,kS,kd]),fun _ _ _ _ _ _=>jV (by simp) (by simp[I.sizes,I.size,kS,kd]),
  fun A n b rest q x y=>dP (ev _) (by rw[fq];rfl) (eQ _),fun A n b rest q r=>dP (ev _) (by rw[fq];rfl) ((eQ _).trans (eQ _).symm),fun A n b rest q x y z w=>dP (ev _) (by rw[fq];rfl) (eQ _),fun A n b rest q x y z w=>dP (ev _) (by rw[fq];rfl) (eQ _),
  fun A n q l k rest=>dP (ev _) (by simp[kQ,kP]) rfl,fun A n q v u rest=>dP rfl rfl rfl⟩
theorem Gv(l:List Int)(n:Int):bf Tryz.prog 78 [enc l,enc n] (enc (decide (n∈l))):=by
 refine bf.b9 Tryz.func78 IL JJ KV (u8 rfl) (fun hwf W0 bH E1 =>?_);simp only[zr,Ed,bN,Z1];have hlen:l.length≤maxLen:=((nj l).1 hwf.1).1;simp only[maxLen] at hlen;clear hwf;have R:=y6 @bq aH
 repeat' ((first |refine ae.aJ (by decide +kernel) rfl fun K hK =>?_|(refine .aA [0,1,4,6,7,8,9,10,15] hK ?_;clear hK K)|(with_reducible refine .done (hK _ ?_);clear hK K)|refine ae.of rfl ?_|(with_reducible refine aC.aI (fun h =>?_) (fun h =>?_) <;>try simp only[h])) <;>try simp only[aK,R,simprocAttr])
 all_goals clear R
 refine ae.loop (fun i:Nat=>au [(1,.int .i64 n),(7,enc l),(8,.int .i64 l.length),(9,.int .i64 i)] []) (fun i=>i≤l.length∧n∉l.take i) (fun i=>l.length-i) 0 ⟨zx1 _,by simp⟩ ?_ (fun i hi =>?_)
 ·refine bB.dF ?_ ?_ ?_ ?_ <;>simp[cC,dq,cO,cR,cz,I.only,cJ]
 obtain ⟨hi1,hi2⟩:=hi;by_cases hlt:i<l.length
 ·have hc:=gX hlt;have he:=fun A=>fb (A:=A) 1 hlt rfl;have hw:=gK (i:=i) (by omega);rcases hp:(l[i]==n)
  ·have R:=y6 @hc (y6 @he (y6 @hp (y6 @hw aH)))
   repeat' ((first |refine ae.aJ (by decide +kernel) rfl fun K hK =>?_|(refine .aA [0,1,4,6,7,8,9,10,15] hK ?_;clear hK K)|(with_reducible refine .done (hK _ ?_);clear hK K)|refine ae.of rfl ?_|(with_reducible refine aC.aI (fun h =>?_) (fun h =>?_) <;>try simp only[h])) <;>try simp only[aK,R,simprocAttr])
   all_goals clear R
   refine ⟨i+1,⟨by omega,?_⟩,by omega,?_⟩
   ·rw[zz1 hlt];have:¬ l[i]=n:=by simpa using hp
    simp only[zy0,zz7];exact fun h=>h.elim hi2 fun e=>this e.symm
   ·refine bB.dF ?_ ?_ ?_ ?_ <;>simp[cC,dq,cO,cR,cz,I.only,cJ]
  ·have hm:n∈l:=by
    have:l[i]=n:=by simpa using hp
    rw[←this];exact List.getElem_mem hlt
   have R:=y6 @hc (y6 @he (y6 @hp aH))
   repeat' ((first |refine ae.aJ (by decide +kernel) rfl fun K hK =>?_|(refine .aA [0,1,4,6,7,8,9,10,15] hK ?_;clear hK K)|(with_reducible refine .done (hK _ ?_);clear hK K)|refine ae.of rfl ?_|(with_reducible refine aC.aI (fun h =>?_) (fun h =>?_) <;>try simp only[h])) <;>try simp only[aK,R,simprocAttr])
   all_goals clear R
   simp[hm]
 ·have hc:=hP hlt;have hge:i=l.length:=by omega
  have R:=y6 @hc aH
  repeat' ((first |refine ae.aJ (by decide +kernel) rfl fun K hK =>?_|(refine .aA [0,1,4,6,7,8,9,10,15] hK ?_;clear hK K)|(with_reducible refine .done (hK _ ?_);clear hK K)|refine ae.of rfl ?_|(with_reducible refine aC.aI (fun h =>?_) (fun h =>?_) <;>try simp only[h])) <;>try simp only[aK,R,simprocAttr])
  all_goals clear R
  rw[hge,List.take_length] at hi2;simp[hi2]
def iz(s:cd)(b:Int):Bool:=s.bF.any fun r=>decide (r.aD=b)
theorem uk(s:cd)(b:Int)(hlen:s.bF.length≤1000):bf Tryz.prog 108 [enc s,enc b] (enc (iz s b)):=by
 refine bf.b9 Tryz.func108 HY I6 J8 (u8 rfl) (fun hwf W0 bH E1 =>?_);simp only[yI,Dk,bN,Z1];clear hwf;have R:=y6 @cL (y6 @bq aH)
 repeat' ((first |refine ae.aJ (by decide +kernel) rfl fun K hK =>?_|(refine .aA [0,1,2,4,6,8,9,10,11,17] hK ?_;clear hK K)|(with_reducible refine .done (hK _ ?_);clear hK K)|refine ae.of rfl ?_|(with_reducible refine aC.aI (fun h =>?_) (fun h =>?_) <;>try simp only[h])) <;>try simp only[aK,R,simprocAttr])
 all_goals clear R
 refine ae.loop (fun i:Nat=>au [(1,.int .i64 b),(2,.ptr 2 []),(8,enc s.bF),(9,.int .i64 s.bF.length),(10,.int .i64 i)] [(2,.box (enc s))]) (fun i=>i≤s.bF.length∧((s.bF.take i).any fun r=>decide (r.aD=b))=false) (fun i=>s.bF.length-i) 0 ⟨zx1 _,by simp⟩ ?_ (fun i hi =>?_)
 ·refine bB.dF ?_ ?_ ?_ ?_ <;>simp[cC,dq,cO,cR,aw,cz,dX,I.only,aq.only,cJ]
 obtain ⟨hi1,hi2⟩:=hi;by_cases hlt:i<s.bF.length
 ·have hc:=gX hlt;have he:=fun A=>fb (A:=A) 4 hlt rfl;have hw:=gK (i:=i) (by omega);rcases hp:((s.bF[i]).aD==b)
  ·have R:=y6 @hc (y6 @he (y6 @hp (y6 @hw (y6 @cL aH))))
   repeat' ((first |refine ae.aJ (by decide +kernel) rfl fun K hK =>?_|(refine .aA [0,1,2,4,6,8,9,10,11,17] hK ?_;clear hK K)|(with_reducible refine .done (hK _ ?_);clear hK K)|refine ae.of rfl ?_|(with_reducible refine aC.aI (fun h =>?_) (fun h =>?_) <;>try simp only[h])) <;>try simp only[aK,R,simprocAttr])
   all_goals clear R
   refine ⟨i+1,⟨by omega,?_⟩,by omega,?_⟩
   ·rw[zz1 hlt,List.any_append,hi2];have:¬ (s.bF[i]).aD=b:=by simpa using hp
    simp[this]
   ·refine bB.dF ?_ ?_ ?_ ?_ <;>simp[cC,dq,cO,cR,aw,cz,dX,I.only,aq.only,cJ]
  ·have hm:iz s b=true:=by
    have:(s.bF[i]).aD=b:=by simpa using hp
    simp only[iz,List.any_eq_true];exact ⟨s.bF[i],List.getElem_mem hlt,by simp[this]⟩
   rw[hm];have R:=y6 @hc (y6 @he (y6 @hp (y6 @cL aH)))
   repeat' ((first |refine ae.aJ (by decide +kernel) rfl fun K hK =>?_|(refine .aA [0,1,2,4,6,8,9,10,11,17] hK ?_;clear hK K)|(with_reducible refine .done (hK _ ?_);clear hK K)|refine ae.of rfl ?_|(with_reducible refine aC.aI (fun h =>?_) (fun h =>?_) <;>try simp only[h])) <;>try simp only[aK,R,simprocAttr])
   all_goals clear R
 ·have hc:=hP hlt;have hge:i=s.bF.length:=by omega
  rw[hge,List.take_length] at hi2;rw[show iz s b=false from hi2];have R:=y6 @hc (y6 @cL aH)
  repeat' ((first |refine ae.aJ (by decide +kernel) rfl fun K hK =>?_|(refine .aA [0,1,2,4,6,8,9,10,11,17] hK ?_;clear hK K)|(with_reducible refine .done (hK _ ?_);clear hK K)|refine ae.of rfl ?_|(with_reducible refine aC.aI (fun h =>?_) (fun h =>?_) <;>try simp only[h])) <;>try simp only[aK,R,simprocAttr])
  all_goals clear R
def jx(s:cd)(no:Int):Option Nat:=s.bF.findIdx? fun r=>decide (r.no=no)
def kp(s:cd)(no:Int):Int:=match jx s no with
 |some i=>(i:Int)
 |none=>-1
theorem Gw(s:cd)(no:Int)(hlen:s.bF.length≤1000):bf Tryz.prog 79 [enc s,enc no] (enc (kp s no)):=by
 refine bf.b9 Tryz.func79 IM JK KW (u8 rfl) (fun hwf W0 bH E1 =>?_);simp only[zt,Ee,bN,Z1];clear hwf;have R:=y6 @cL (y6 @bq aH)
 repeat' ((first |refine ae.aJ (by decide +kernel) rfl fun K hK =>?_|(refine .aA [0,1,2,4,5,6,8,9,10,11,18] hK ?_;clear hK K)|(with_reducible refine .done (hK _ ?_);clear hK K)|refine ae.of rfl ?_|(with_reducible refine aC.aI (fun h =>?_) (fun h =>?_) <;>try simp only[h])) <;>try simp only[aK,R,simprocAttr])
 all_goals clear R
 refine ae.loop (fun i:Nat=>au [(1,.int .i64 no),(2,.ptr 2 []),(8,enc s.bF),(9,.int .i64 s.bF.length),(10,.int .i64 i)] [(2,.box (enc s))]) (fun i=>i≤s.bF.length∧∀ k,k<i→∀ h:k<s.bF.length,(s.bF[k]).no≠no) (fun i=>s.bF.length-i) 0 ⟨zx1 _,fun k h=>by omega⟩ ?_ (fun i hi =>?_)
 ·refine bB.dF ?_ ?_ ?_ ?_ <;>simp[cC,dq,cO,cR,aw,cz,dX,I.only,aq.only,cJ]
 obtain ⟨hi1,hi2⟩:=hi;by_cases hlt:i<s.bF.length
 ·have hc:=gX hlt;have he:=fun A=>fb (A:=A) 4 hlt rfl;have hw:=gK (i:=i) (by omega);rcases hp:((s.bF[i]).no==no)
  ·have R:=y6 @hc (y6 @he (y6 @hp (y6 @hw (y6 @cL aH))))
   repeat' ((first |refine ae.aJ (by decide +kernel) rfl fun K hK =>?_|(refine .aA [0,1,2,4,5,6,8,9,10,11,18] hK ?_;clear hK K)|(with_reducible refine .done (hK _ ?_);clear hK K)|refine ae.of rfl ?_|(with_reducible refine aC.aI (fun h =>?_) (fun h =>?_) <;>try simp only[h])) <;>try simp only[aK,R,simprocAttr])
   all_goals clear R
   refine ⟨i+1,⟨by omega,fun k hk h =>?_⟩,by omega,?_⟩
   ·by_cases e:k=i
    ·subst e;simpa using hp
    ·exact hi2 k (by omega) h
   ·refine bB.dF ?_ ?_ ?_ ?_ <;>simp[cC,dq,cO,cR,aw,cz,dX,I.only,aq.only,cJ]
  ·have hm:jx s no=some i:=by
    refine List.findIdx?_eq_some_iff_getElem.2 ⟨hlt,by simpa using hp,fun j hj =>?_⟩;simpa using hi2 j hj (by omega)
   rw[show kp s no=(i:Int) by simp[kp,hm]];have R:=y6 @hc (y6 @he (y6 @hp (y6 @cL aH)))
   repeat' ((first |refine ae.aJ (by decide +kernel) rfl fun K hK =>?_|(refine .aA [0,1,2,4,5,6,8,9,10,11,18] hK ?_;clear hK K)|(with_reducible refine .done (hK _ ?_);clear hK K)|refine ae.of rfl ?_|(with_reducible refine aC.aI (fun h =>?_) (fun h =>?_) <;>try simp only[h])) <;>try simp only[aK,R,simprocAttr])
   all_goals clear R
 ·have hc:=hP hlt;have hm:jx s no=none:=by
   refine List.findIdx?_eq_none_iff.2 fun x hx =>?_;obtain ⟨k,hk,rfl⟩:=List.mem_iff_getElem.1 hx;simpa using hi2 k (by omega) hk
  rw[show kp s no=-1 by simp[kp,hm]];have R:=y6 @hc (y6 @cL aH)
  repeat' ((first |refine ae.aJ (by decide +kernel) rfl fun K hK =>?_|(refine .aA [0,1,2,4,5,6,8,9,10,11,18] hK ?_;clear hK K)|(with_reducible refine .done (hK _ ?_);clear hK K)|refine ae.of rfl ?_|(with_reducible refine aC.aI (fun h =>?_) (fun h =>?_) <;>try simp only[h])) <;>try simp only[aK,R,simprocAttr])
  all_goals clear R
def jd(s:cd)(dc no:Int):Int:=match s.bn.find? fun x=>decide (x.dc=dc∧x.no=no) with
 |some x=>x.kind
 |none=>0
theorem x4(s:cd)(dc no:Int)(hlen:s.bn.length≤1000):bf Tryz.prog 88 [enc s,enc dc,enc no] (enc (jd s dc no)):=by
 refine bf.b9 Tryz.func88 IT JO K8 (u8 rfl) (fun hwf W0 bH E1 =>?_);simp only[zy,Ej,bN,Z1,Nat.reduceAdd];clear hwf;have R:=y6 @cL (y6 @bq aH)
 repeat' ((first |(with_reducible refine .guard (fun hb =>?_) (fun hb =>?_) <;>try simp only[hb])|refine ae.aJ (by decide +kernel) rfl fun K hK =>?_|(refine .aA [0,1,2,3,6,8,10,11,12,13,25] hK ?_;clear hK K)|(with_reducible refine .done (hK _ ?_);clear hK K)|refine ae.of rfl ?_|(with_reducible refine aC.aI (fun h =>?_) (fun h =>?_) <;>try simp only[h])) <;>try simp only[aK,R,simprocAttr])
 all_goals clear R
 refine ae.loop (fun i:Nat=>au [(1,.int .i64 dc),(2,.int .i64 no),(3,.ptr 3 []),(10,enc s.bn),(11,.int .i64 s.bn.length),(12,.int .i64 i)] [(3,.box (enc s))]) (fun i=>i≤s.bn.length∧((s.bn.take i).find? fun x=>decide (x.dc=dc∧x.no=no))=none) (fun i=>s.bn.length-i) 0 ⟨zx1 _,by simp⟩ ?_ (fun i hi =>?_)
 ·refine bB.dF ?_ ?_ ?_ ?_ <;>simp[cC,dq,cO,cR,aw,cz,dX,I.only,aq.only,cJ]
 obtain ⟨hi1,hi2⟩:=hi;by_cases hlt:i<s.bn.length
 ·have hc:=gX hlt;have he:=fun A=>fb (A:=A) 4 hlt rfl;have hw:=gK (i:=i) (by omega);have hst:(s.bn.take (i+1)).find? (fun x=>decide (x.dc=dc∧x.no=no))=if (s.bn[i]).dc=dc∧(s.bn[i]).no=no then some s.bn[i] else none:=by
   rw[zz1 hlt,List.find?_append,hi2];simp only[Option.none_or,List.find?_cons,List.find?_nil];by_cases h:(s.bn[i]).dc=dc∧(s.bn[i]).no=no
   ·simp[h]
   ·rw[decide_eq_false h,if_neg h]
  rcases hp:((s.bn[i]).dc==dc)
  ·have J:¬ (s.bn[i]).dc=dc:=by simpa using hp
   rw[if_neg (fun h=>J h.1)] at hst;have R:=y6 @hc (y6 @he (y6 @hp (y6 @hw (y6 @cL aH))))
   repeat' ((first |(with_reducible refine .guard (fun hb =>?_) (fun hb =>?_) <;>try simp only[hb])|refine ae.aJ (by decide +kernel) rfl fun K hK =>?_|(refine .aA [0,1,2,3,6,8,10,11,12,13,25] hK ?_;clear hK K)|(with_reducible refine .done (hK _ ?_);clear hK K)|refine ae.of rfl ?_|(with_reducible refine aC.aI (fun h =>?_) (fun h =>?_) <;>try simp only[h])) <;>try simp only[aK,R,simprocAttr])
   all_goals clear R
   refine ⟨i+1,⟨by omega,hst⟩,by omega,?_⟩;refine bB.dF ?_ ?_ ?_ ?_ <;>simp[cC,dq,cO,cR,aw,cz,dX,I.only,aq.only,cJ]
  ·have J:(s.bn[i]).dc=dc:=by simpa using hp
   rcases hp2:((s.bn[i]).no==no)
   ·have U:¬ (s.bn[i]).no=no:=by simpa using hp2
    rw[if_neg (fun h=>U h.2)] at hst;have R:=y6 @hc (y6 @he (y6 @hp (y6 @hp2 (y6 @hw (y6 @cL aH)))))
    repeat' ((first |(with_reducible refine .guard (fun hb =>?_) (fun hb =>?_) <;>try simp only[hb])|refine ae.aJ (by decide +kernel) rfl fun K hK =>?_|(refine .aA [0,1,2,3,6,8,10,11,12,13,25] hK ?_;clear hK K)|(with_reducible refine .done (hK _ ?_);clear hK K)|refine ae.of rfl ?_|(with_reducible refine aC.aI (fun h =>?_) (fun h =>?_) <;>try simp only[h])) <;>try simp only[aK,R,simprocAttr])
    all_goals clear R
    refine ⟨i+1,⟨by omega,hst⟩,by omega,?_⟩;refine bB.dF ?_ ?_ ?_ ?_ <;>simp[cC,dq,cO,cR,aw,cz,dX,I.only,aq.only,cJ]
   ·have U:(s.bn[i]).no=no:=by simpa using hp2
    rw[if_pos ⟨J,U⟩] at hst;have hk:jd s dc no=(s.bn[i]).kind:=by
     have:s.bn.find? (fun x=>decide (x.dc=dc∧x.no=no))=some s.bn[i]:=by
      have e:=congrArg (List.find? fun x=>decide (x.dc=dc∧x.no=no)) (zy8 (i+1) s.bn);rw[List.find?_append,hst,Option.some_or] at e;exact e.symm
     simp only[jd,this]
    rw[hk];have R:=y6 @hc (y6 @he (y6 @hp (y6 @hp2 (y6 @cL aH))))
    repeat' ((first |(with_reducible refine .guard (fun hb =>?_) (fun hb =>?_) <;>try simp only[hb])|refine ae.aJ (by decide +kernel) rfl fun K hK =>?_|(refine .aA [0,1,2,3,6,8,10,11,12,13,25] hK ?_;clear hK K)|(with_reducible refine .done (hK _ ?_);clear hK K)|refine ae.of rfl ?_|(with_reducible refine aC.aI (fun h =>?_) (fun h =>?_) <;>try simp only[h])) <;>try simp only[aK,R,simprocAttr])
    all_goals clear R
 ·have hc:=hP hlt;have hge:i=s.bn.length:=by omega
  rw[hge,List.take_length] at hi2;rw[show jd s dc no=0 by simp only[jd,hi2]];have R:=y6 @hc (y6 @cL aH)
  repeat' ((first |(with_reducible refine .guard (fun hb =>?_) (fun hb =>?_) <;>try simp only[hb])|refine ae.aJ (by decide +kernel) rfl fun K hK =>?_|(refine .aA [0,1,2,3,6,8,10,11,12,13,25] hK ?_;clear hK K)|(with_reducible refine .done (hK _ ?_);clear hK K)|refine ae.of rfl ?_|(with_reducible refine aC.aI (fun h =>?_) (fun h =>?_) <;>try simp only[h])) <;>try simp only[aK,R,simprocAttr])
  all_goals clear R
def gW(l:List Int)(n:Int):List Int:=l.filter fun x=>x != n
def ur(l:List Int)(n:Int)(t:Nat×List Int):ai:=au [(1,.int .i64 n),(5,.own 905 t.2.length),(8,enc l),(9,.int .i64 l.length),(10,.int .i64 t.1)] [(905,.bY 3 1 (t.2.map enc))]
theorem xO(l:List Int)(n:Int)(hlen:l.length≤1000):bf Tryz.prog 110 [enc l,enc n] (enc (gW l n)):=by
 refine bf.b9 Tryz.func110 H0 I8 Ka (u8 rfl) (fun hwf W0 bH E1 =>?_);simp only[yK,Dm,bN,Z1];clear hwf;have R:=y6 @bq aH
 repeat' ((first |refine ae.aJ (by decide +kernel) rfl fun K hK =>?_|(refine .aA [0,1,4,5,7,8,9,10,11,16] hK ?_;clear hK K)|(with_reducible refine .done (hK _ ?_);clear hK K)|refine ae.of rfl ?_|(with_reducible refine aC.aI (fun h =>?_) (fun h =>?_) <;>try simp only[h])) <;>try simp only[aK,R,simprocAttr])
 all_goals clear R
 refine ae.loop (ur l n) (fun t=>t.1≤l.length∧t.2=gW (l.take t.1) n) (fun t=>l.length-t.1) (0,[]) ⟨zx1 _,rfl⟩ ?_ ?_
 ·refine bB.sc 5 905 3 1 1 rfl rfl ?_;simp only[ur];refine bB.dF ?_ ?_ ?_ ?_ <;>simp[cC,dq,cO,cR,aw,cz,dX,I.only,I.ct,aq.only,cJ]
 rintro ⟨i,xs⟩ ⟨hi,hxs⟩;simp only at hi hxs;have hxl:xs.length≤i:=by
  rw[hxs,gW];refine zx4 (List.length_filter_le _ _) ?_;rw[zz8];omega
 simp only[ur];by_cases hlt:i<l.length
 ·have hc:=gX hlt;have he:=fun A=>fb (A:=A) 1 hlt rfl;have hw:=gK (i:=i) (by omega);have hsn:gW (l.take (i+1)) n=xs++if l[i] != n then [l[i]] else []:=by
   rw[zz1 hlt,gW,List.filter_append,hxs];simp only[gW,List.filter_cons,List.filter_nil]
  obtain ⟨y,hy⟩:∃ y,y=l[i]:=⟨_,rfl⟩
  rw[←hy] at he hsn;have hbs:fE 1 (some [.int .i64 y])=some (enc [y]):=jm 1 y rfl;have hap:=fun (A:ai) d rest=>p5 (A:=A) (d:=d) 3 1 8 905 (l:=xs.length) (es:=xs) (ys:=[y]) (rest:=rest) rfl rfl (by simp) (by simp[maxLen];omega) (by simp;omega);rcases q:(y != n)
  ·rw[q,if_neg (by decide),List.append_nil] at hsn;have R:=y6 @hc (y6 @he (y6 @hw (y6 @q (y6 @bq aH))))
   repeat' ((first |refine ae.aJ (by decide +kernel) rfl fun K hK =>?_|(refine .aA [0,1,4,5,7,8,9,10,11,16] hK ?_;clear hK K)|(with_reducible refine .done (hK _ ?_);clear hK K)|refine ae.of rfl ?_|(with_reducible refine aC.aI (fun h =>?_) (fun h =>?_) <;>try simp only[h])) <;>try simp only[aK,R,simprocAttr])
   all_goals clear R
   refine ⟨(i+1,xs),⟨by simp only;omega,hsn.symm⟩,by simp only;omega,?_⟩;simp only;clear hxs hsn;refine bB.dF ?_ ?_ ?_ ?_ <;>simp[cC,dq,cO,cR,aw,cz,dX,I.only,aq.only,ik,cJ]
  ·rw[q,if_pos rfl] at hsn;have R:=y6 @hc (y6 @he (y6 @hw (y6 @q (y6 @hbs (y6 @hap (y6 @bq aH))))))
   repeat' ((first |refine ae.aJ (by decide +kernel) rfl fun K hK =>?_|(refine .aA [0,1,4,5,7,8,9,10,11,16] hK ?_;clear hK K)|(with_reducible refine .done (hK _ ?_);clear hK K)|refine ae.of rfl ?_|(with_reducible refine aC.aI (fun h =>?_) (fun h =>?_) <;>try simp only[h])) <;>try simp only[aK,R,simprocAttr])
   all_goals clear R
   refine ⟨(i+1,xs++[y]),⟨by simp only;omega,hsn.symm⟩,by simp only;omega,?_⟩;simp only;clear hxs hsn;refine bB.dF ?_ ?_ ?_ ?_ <;>simp[cC,dq,cO,cR,aw,cz,dX,I.only,I.ct,aq.only,ik,qX,cJ,eE]
 ·have hge:i=l.length:=by omega
  have hc:=hP hlt;have hx2:xs=gW l n:=by rw[hxs,hge,List.take_length]
  rw[←hx2];have R:=y6 @hc (y6 @AQ (y6 @bq aH))
  repeat' ((first |refine ae.aJ (by decide +kernel) rfl fun K hK =>?_|(refine .aA [0,1,4,5,7,8,9,10,11,16] hK ?_;clear hK K)|(with_reducible refine .done (hK _ ?_);clear hK K)|refine ae.of rfl ?_|(with_reducible refine aC.aI (fun h =>?_) (fun h =>?_) <;>try simp only[h])) <;>try simp only[aK,R,simprocAttr])
  all_goals clear R
section
variable {α:Type} [Enc α] {P:Program} {ab:List FuncId} {Y:Value→List I→List (Nat×aq)→cF→Prop} {K:ai→Prop} {rest:List aE} {d e esz bytes:Nat}
def kC(esz:Nat)(v:I)(os:List (Nat×aq))(l:List α)(S:List Nat):Prop:=(l=[]∧v=.c0 esz)∨∃ n q,n∈S∧v=.view n [] esz 0 l.length∧aj os n=some (.box (.agg ((l++q).map enc)))
theorem Ha{A:ai}{q:Nat}(z:I){l:List α}(hsz:Enc.sz α=esz)(ao:l≠[])(hf:A.o d=none)(hb:l.length*bytes≤140737488355328)(hml:l.length≤maxLen) :
  ∃ p:Nat→Prop,fO A (some d) e esz bytes z (enc l) rest (.c0 q)=.any p fun m=>az rest ((A.aV d (.box (.agg (l.map enc++List.replicate m z)))).aT (some d) (.view d [] esz 0 l.length)):=by
 have hne:l.map (enc (α:=α))≠[]:=by simpa using ao
 have J:eK A esz (.c0 q)=some []:=rfl;refine ⟨fun m=>l.length+m≤maxLen,?_⟩;simp only[fO,J,nd A esz l hsz,e7,if_neg hne,fX,hf,List.length_nil,Z1,Z8,if_pos (y6 hb hml),List.nil_append]
theorem G9{A:ai}(z:I)(hsz:Enc.sz α=esz){n l:Nat}{xs ys:List α}(hy:ys≠[])(ho:A.o n=some (.box (.agg (xs.map enc))))(ao:l≤xs.length)(hr:xs.length<l+ys.length)(hf:A.o d=none)(hb:(l+ys.length)*bytes≤140737488355328)(hml:l+ys.length≤maxLen) :
  ∃ p:Nat→Prop,fO A (some d) e esz bytes z (enc ys) rest (.view n [] esz 0 l)=.any p fun m=>az rest ((A.aV d (.box (.agg ((xs.take l).map enc++(ys.map enc++List.replicate m z))))).aT (some d) (.view d [] esz 0 (l+ys.length))):=by
 have J:=tP (A:=A) (esz:=esz) (lo:=0) (k:=l) ho (by omega);have U:(I.agg (xs.map (enc (α:=α)))).at []=some (.agg (xs.map enc)):=rfl;have ar:(xs.take l).length=l:=by rw[zz8];omega
 refine ⟨fun m=>l+ys.length+m≤maxLen,?_⟩;simp only[fO,J,List.drop_zero,nd A esz ys hsz,e7];rw[if_neg (by simpa using hy)];simp only[ho,U,Z8,Z1];rw[if_neg (by omega)];simp only[fX,hf,Z8,ar];rw[if_pos ⟨hb,hml⟩]
theorem BL(z:α){ts:List (Nat×I)}{os:List (Nat×aq)}{v:I}{l ys:List α}{S:List Nat}(hsz:Enc.sz α=esz)(hg:kC esz v os l S)(hf:aj os d=none)(hb:(l.length+ys.length)*bytes≤140737488355328)(hml:l.length+ys.length≤maxLen) :
  (∃ v' os',fO (au ts os) (some d) e esz bytes (enc z) (enc ys) rest v=az rest (au ((d,v')::ts) os')∧kC esz v' os' (l++ys) (d::S)∧∀ m,m∉d::S→aj os' m=aj os m) ∨
  (∃ p,∃ v':Nat→I,∃ os':Nat→List (Nat×aq),fO (au ts os) (some d) e esz bytes (enc z) (enc ys) rest v=.any p (fun m=>az rest (au ((d,v' m)::ts) (os' m)))∧∀ k,kC esz (v' k) (os' k) (l++ys) (d::S)∧∀ m,m∉d::S→aj (os' k) m=aj os m):=by
 by_cases hy:ys=[]
 ·subst hy;rw[List.append_nil];rcases hg with ⟨rfl,rfl⟩ | ⟨n,q,hn,rfl,ho⟩
  ·exact .inl ⟨.c0 esz,os,Hb _ hsz,.inl ⟨rfl,rfl⟩,fun _ _=>rfl⟩
  ·refine .inl ⟨_,os,?_,.inr ⟨n,q,List.mem_cons_of_mem _ hn,rfl,ho⟩,fun _ _=>rfl⟩;have J:=tP (A:=au ts os) (esz:=esz) (lo:=0) (k:=l.length) ho (by simp);simp only[fO,J,nd _ esz ([]:List α) hsz,e7,zy1,if_true];rfl
 ·rcases hg with ⟨rfl,rfl⟩ | ⟨n,q,hn,rfl,ho⟩
  ·obtain ⟨p,J⟩:=Ha (A:=au ts os) (rest:=rest) (e:=e) (q:=esz) (enc z) hsz hy hf (by simpa using hb) (by simpa using hml);refine .inr ⟨p,fun m=>.view d [] esz 0 ys.length,fun m=>(d,.box (.agg (ys.map enc++List.replicate m (enc z))))::os,J,fun k=>⟨.inr ⟨d,List.replicate k z,List.mem_cons_self,by simp,?_⟩,fun m hm =>?_⟩⟩
   ·simp[aj]
   ·rw[dX,if_neg (fun h=>by rw[h] at hm;exact hm List.mem_cons_self)]
  ·by_cases hr:l.length+ys.length≤(l++q).length
   ·have J:=yk (A:=au ts os) (rest:=rest) (d:=some d) (e:=e) (bytes:=bytes) (esz:=esz) (enc z) hsz hy ho hr;have e1:(l++q).take l.length++(ys++(l++q).drop (l.length+ys.length))=(l++ys)++q.drop ys.length:=by simp[List.drop_append]
    rw[e1] at J;refine .inl ⟨_,(n,.box (.agg (((l++ys)++q.drop ys.length).map enc)))::os,J,.inr ⟨n,q.drop ys.length,List.mem_cons_of_mem _ hn,by simp,by simp[aj]⟩,fun m hm =>?_⟩;rw[dX,if_neg (fun h=>by rw[h] at hm;exact hm (List.mem_cons_of_mem _ hn))]
   ·obtain ⟨p,J⟩:=G9 (A:=au ts os) (rest:=rest) (d:=d) (e:=e) (bytes:=bytes) (esz:=esz) (enc z) hsz hy ho (by simp) (by omega) hf hb hml;refine .inr ⟨p,fun m=>.view d [] esz 0 (l.length+ys.length),fun m=>(d,.box (.agg (((l++q).take l.length).map enc++(ys.map enc++List.replicate m (enc z)))))::os,J,fun k=>⟨.inr ⟨d,List.replicate k z,List.mem_cons_self,by simp,?_⟩,fun m hm =>?_⟩⟩
    ·simp[aj]
    ·rw[dX,if_neg (fun h=>by rw[h] at hm;exact hm List.mem_cons_self)]
theorem bO.jc(z:α){ts:List (Nat×I)}{os:List (Nat×aq)}{v:I}{l ys:List α}{S:List Nat}(hsz:Enc.sz α=esz)(hg:kC esz v os l S)(hf:aj os d=none)(hb:(l.length+ys.length)*bytes≤140737488355328)(hml:l.length+ys.length≤maxLen)
  (h:∀ v' os',kC esz v' os' (l++ys) (d::S)→(∀ m,m∉d::S→aj os' m=aj os m)→bO P Y ab K (az rest (au ((d,v')::ts) os'))):bO P Y ab K (fO (au ts os) (some d) e esz bytes (enc z) (enc ys) rest v):=by
 rcases BL (rest:=rest) (e:=e) z hsz hg hf hb hml (ts:=ts) with ⟨v',os',J,U,ah⟩ | ⟨p,v',os',J,U⟩
 ·rw[J];exact h v' os' U ah
 ·rw[J];exact .any fun m _=>h _ _ (U m).1 (U m).2
theorem aR.jc(z:α){ts:List (Nat×I)}{os:List (Nat×aq)}{v:I}{l ys:List α}{S:List Nat}(hsz:Enc.sz α=esz)(hg:kC esz v os l S)(hf:aj os d=none)(hb:(l.length+ys.length)*bytes≤140737488355328)(hml:l.length+ys.length≤maxLen)
  (h:∀ v' os',kC esz v' os' (l++ys) (d::S)→(∀ m,m∉d::S→aj os' m=aj os m)→aR P Y false K (az rest (au ((d,v')::ts) os'))):aR P Y false K (fO (au ts os) (some d) e esz bytes (enc z) (enc ys) rest v):=by
 rcases BL (rest:=rest) (e:=e) z hsz hg hf hb hml (ts:=ts) with ⟨v',os',J,U,ah⟩ | ⟨p,v',os',J,U⟩
 ·rw[J];exact h v' os' U ah
 ·rw[J];exact .any rfl fun m _=>h _ _ (U m).1 (U m).2
theorem o8(os:List (Nat×aq))(S:List Nat):kC esz (.c0 esz) os ([]:List α) S:=.inl ⟨rfl,rfl⟩
theorem o6{v:I}{os:List (Nat×aq)}{l:List α}{S:List Nat}{A:ai}(hsz:Enc.sz α=esz)(h:kC esz v os l S)(hA:∀ m∈S,A.o m=aj os m):bh true A v=some (enc l):=by
 rcases h with ⟨rfl,rfl⟩ | ⟨n,q,hn,rfl,ho⟩
 ·simp only[bh,hs,zy1,hsz]
 ·have J:bh true A (.view n [] esz 0 l.length)=lL esz 0 l.length (some ((l++q).map enc)):=by
   rw[vF,hA n hn,ho];rfl
  rw[J,vD hsz,List.take_left]
end
def ej:List Int→Int→List Int
 | [],n=>[n]
 |x::l,n=>if x<n then x::ej l n else if x=n then x::l else n::x::l
theorem Dc:∀ (l:List Int) (n:Int) (i:Nat) (h:i<l.length),(∀ k,k<i→∀ hk:k<l.length,l[k]<n)→l[i]=n→ej l n=l
 | [],_,_,h,_,_=>by simp at h
 |x::l,n,0,_,_,U=>by simp at U;simp[ej,U]
 |x::l,n,i+1,h,J,U=>by
  have hx:=J 0 (by omega) (by simp);simp only[List.getElem_cons_zero] at hx;rw[ej,if_pos hx,Dc l n i (by simpa using h) (fun k hk ao=>J (k+1) (by omega) (by simpa using ao)) (by simpa using U)]
theorem w5:∀ (l:List Int) (n:Int) (i:Nat),i≤l.length→(∀ k,k<i→∀ hk:k<l.length,l[k]<n)→(∀ h:i<l.length,n<l[i])→ej l n=l.take i++n::l.drop i
 | [],n,i,h,_,_=>by simp[ej]
 |x::l,n,0,_,_,U=>by
  have:=U (by simp);simp only[List.getElem_cons_zero] at this;simp[ej,show ¬ x<n by omega,show ¬ x=n by omega]
 |x::l,n,i+1,h,J,U=>by
  have hx:=J 0 (by omega) (by simp);simp only[List.getElem_cons_zero] at hx;rw[ej,if_pos hx,w5 l n i (by simpa using h) (fun k hk ao=>J (k+1) (by omega) (by simpa using ao)) (fun ao=>U (by simpa using ao))];rfl
theorem xD{α:Type}[Enc α]{A:ai}(esz:Nat){l:List α}{i:Nat}(h:i≤l.length)(ab:Enc.sz α=esz):jC A esz (some (.int .i64 i)) none none (enc l)=some (enc (l.drop i)):=by
 simp only[jC,hs,ab,if_true,iR,jk,Z8];rw[if_pos ⟨by omega,by omega,by omega,by omega⟩];simp[List.take_of_length_le]
theorem rY(l:List Int)(n:Int)(ao:l.length≤1000):bf Tryz.prog 109 [enc l,enc n] (enc (ej l n)):=by
 refine bf.b9 Tryz.func109 HZ I7 J9 (u8 rfl) (fun hwf W0 bH E1 =>?_);simp only[yJ,Dl,bN,Z1];clear hwf;have R:=y6 @bq aH
 repeat' ((first |(with_reducible refine .guard (fun hb =>?_) (fun hb =>?_) <;>try simp only[hb])|refine ae.aJ (by decide +kernel) rfl fun K hK =>?_|(refine .aA [0,1,4,5,17,31] hK ?_;clear hK K)|(with_reducible refine .done (hK _ ?_);clear hK K)|refine ae.of rfl ?_|(with_reducible refine aC.aI (fun h =>?_) (fun h =>?_) <;>try simp only[h])) <;>try simp only[aK,R,simprocAttr])
 all_goals clear R
 refine ae.loop (fun i:Nat=>au [(0,enc l),(1,.int .i64 n),(5,.int .i64 i)] []) (fun i=>i≤l.length∧∀ k,k<i→∀ h:k<l.length,l[k]<n) (fun i=>l.length-i) 0 ⟨zx1 _,fun k h=>by omega⟩ ?_ (fun i hi =>?_)
 ·refine bB.dF ?_ ?_ ?_ ?_ <;>simp[cC,dq,cO,cR,cz,I.only,cJ]
 obtain ⟨hi1,hi2⟩:=hi;by_cases hlt:i<l.length
 ·have hc:=gX hlt;have he:=fun A=>fb (A:=A) 1 hlt rfl;have hw:=gK (i:=i) (by omega);rcases hp:decide (l[i]<n)
  ·have hp0:=of_decide_eq_false hp;rcases hq:(l[i]==n)
   ·have hq0:¬ l[i]=n:=by simpa using hq
    have hm:ej l n=l.take i++n::l.drop i:=w5 l n i hi1 hi2 (fun h=>by omega);have R:=y6 @hc (y6 @he (y6 @hp (y6 @hq aH)))
    repeat' ((first |(with_reducible refine .guard (fun hb =>?_) (fun hb =>?_) <;>try simp only[hb])|refine ae.aJ (by decide +kernel) rfl fun K hK =>?_|(refine .aA [0,1,4,5,17,31] hK ?_;clear hK K)|(with_reducible refine .done (hK _ ?_);clear hK K)|refine ae.of rfl ?_|(with_reducible refine aC.aI (fun h =>?_) (fun h =>?_) <;>try simp only[h])) <;>try simp only[aK,R,simprocAttr])
    all_goals clear R
    refine ae.rq (gs:=qp) [] [(33,[]),(0,[]),(41,[])] [0,1,2,3,5,6,8,9,10,4,7,11,12] (by decide +kernel) (cW.of (by simp[ft,cz,qN,I.only,cJ])) fun K hK =>?_;have hbs:fE 1 (some [.int .i64 n])=some (enc [n]):=jm 1 n rfl
    try simp only[fe,qp,Y9,zz0,tO 1 hi1 rfl,xD 1 hi1 rfl,Option.map_none,Z7,hbs,ky,bG,simprocAttr]
    refine bO.jc (0:Int) rfl (o8 _ []) rfl (by simp;omega) (by simp[maxLen];omega) fun v1 o1 g1 f1 =>?_
    try simp only[bG,simprocAttr]
    refine bO.jc (0:Int) rfl g1 (f1 40 (by decide)) (by simp;omega) (by simp[maxLen];omega) fun v2 o2 g2 f2 =>?_
    try simp only[bG,simprocAttr]
    refine bO.jc (0:Int) rfl g2 ((f2 44 (by decide)).trans (f1 44 (by decide))) (by simp;omega) (by simp[maxLen];omega) fun v3 o3 g3 f3 =>?_;have hf:=fun ts=>o6 (A:=au ts o3) rfl g3 fun _ _=>rfl;rw[show ([]++List.take i l++[n]++List.drop i l)=ej l n by rw[hm];simp] at hf
    try simp only[bG,simprocAttr]
    refine .done (hK _ ?_);clear hK K;have R:=y6 @hf aH
    repeat' ((first |(with_reducible refine .guard (fun hb =>?_) (fun hb =>?_) <;>try simp only[hb])|refine ae.aJ (by decide +kernel) rfl fun K hK =>?_|(refine .aA [0,1,4,5,17,31] hK ?_;clear hK K)|(with_reducible refine .done (hK _ ?_);clear hK K)|refine ae.of rfl ?_|(with_reducible refine aC.aI (fun h =>?_) (fun h =>?_) <;>try simp only[h])) <;>try simp only[aK,R,simprocAttr])
    all_goals clear R
   ·have hm:ej l n=l:=Dc l n i hlt hi2 (by simpa using hq);rw[hm];have R:=y6 @hc (y6 @he (y6 @hp (y6 @hq aH)))
    repeat' ((first |(with_reducible refine .guard (fun hb =>?_) (fun hb =>?_) <;>try simp only[hb])|refine ae.aJ (by decide +kernel) rfl fun K hK =>?_|(refine .aA [0,1,4,5,17,31] hK ?_;clear hK K)|(with_reducible refine .done (hK _ ?_);clear hK K)|refine ae.of rfl ?_|(with_reducible refine aC.aI (fun h =>?_) (fun h =>?_) <;>try simp only[h])) <;>try simp only[aK,R,simprocAttr])
    all_goals clear R
  ·have R:=y6 @hc (y6 @he (y6 @hp (y6 @hw aH)))
   repeat' ((first |(with_reducible refine .guard (fun hb =>?_) (fun hb =>?_) <;>try simp only[hb])|refine ae.aJ (by decide +kernel) rfl fun K hK =>?_|(refine .aA [0,1,4,5,17,31] hK ?_;clear hK K)|(with_reducible refine .done (hK _ ?_);clear hK K)|refine ae.of rfl ?_|(with_reducible refine aC.aI (fun h =>?_) (fun h =>?_) <;>try simp only[h])) <;>try simp only[aK,R,simprocAttr])
   all_goals clear R
   refine ⟨i+1,⟨by omega,fun k hk h =>?_⟩,by omega,?_⟩
   ·by_cases e:k=i
    ·subst e;exact of_decide_eq_true hp
    ·exact hi2 k (by omega) h
   ·refine bB.dF ?_ ?_ ?_ ?_ <;>simp[cC,dq,cO,cR,cz,I.only,cJ]
 ·have hc:=hP hlt;have hge:i=l.length:=by omega
  have hm:ej l n=l.take i++n::l.drop i:=w5 l n i hi1 hi2 (fun h=>absurd h hlt);have R:=y6 @hc aH
  repeat' ((first |(with_reducible refine .guard (fun hb =>?_) (fun hb =>?_) <;>try simp only[hb])|refine ae.aJ (by decide +kernel) rfl fun K hK =>?_|(refine .aA [0,1,4,5,17,31] hK ?_;clear hK K)|(with_reducible refine .done (hK _ ?_);clear hK K)|refine ae.of rfl ?_|(with_reducible refine aC.aI (fun h =>?_) (fun h =>?_) <;>try simp only[h])) <;>try simp only[aK,R,simprocAttr])
  all_goals clear R
  refine ae.rq (gs:=qp) [] [(33,[]),(0,[]),(41,[])] [0,1,2,3,5,6,8,9,10,4,7,11,12] (by decide +kernel) (cW.of (by simp[ft,cz,qN,I.only,cJ])) fun K hK =>?_;have hbs:fE 1 (some [.int .i64 n])=some (enc [n]):=jm 1 n rfl
  try simp only[fe,qp,Y9,zz0,tO 1 hi1 rfl,xD 1 hi1 rfl,Option.map_none,Z7,hbs,ky,bG,simprocAttr]
  refine bO.jc (0:Int) rfl (o8 _ []) rfl (by simp;omega) (by simp[maxLen];omega) fun v1 o1 g1 f1 =>?_
  try simp only[bG,simprocAttr]
  refine bO.jc (0:Int) rfl g1 (f1 40 (by decide)) (by simp;omega) (by simp[maxLen];omega) fun v2 o2 g2 f2 =>?_
  try simp only[bG,simprocAttr]
  refine bO.jc (0:Int) rfl g2 ((f2 44 (by decide)).trans (f1 44 (by decide))) (by simp;omega) (by simp[maxLen];omega) fun v3 o3 g3 f3 =>?_;have hf:=fun ts=>o6 (A:=au ts o3) rfl g3 fun _ _=>rfl;rw[show ([]++List.take i l++[n]++List.drop i l)=ej l n by rw[hm];simp] at hf
  try simp only[bG,simprocAttr]
  refine .done (hK _ ?_);clear hK K;have R:=y6 @hf aH
  repeat' ((first |(with_reducible refine .guard (fun hb =>?_) (fun hb =>?_) <;>try simp only[hb])|refine ae.aJ (by decide +kernel) rfl fun K hK =>?_|(refine .aA [0,1,4,5,17,31] hK ?_;clear hK K)|(with_reducible refine .done (hK _ ?_);clear hK K)|refine ae.of rfl ?_|(with_reducible refine aC.aI (fun h =>?_) (fun h =>?_) <;>try simp only[h])) <;>try simp only[aK,R,simprocAttr])
  all_goals clear R
def pL:dh:=⟨0,0,0,false⟩
theorem vg:I.agg [.int .i64 0,.int .i64 0,.int .i64 0,.bool false]=enc pL:=rfl
def xw:hh:=⟨0,0,0,0⟩
theorem Mg:I.agg [.int .i64 0,.int .i64 0,.int .i64 0,.int .i64 0]=enc xw:=rfl
def iZ(s:cd)(i:Nat):cd := { s with bF:=s.bF.take i++s.bF.drop (i+1) }
def jJ(v:I):Prop:=v.bU=true∧b7 none v=true∧v.aX=.one∧v.size=1
theorem Xe(l:List dh):jJ (enc l):=⟨ev _,by simp[kQ,kP],(eQ l).trans nB,by rw[kS,kd]⟩
theorem wP(l:List hh):jJ (enc l):=⟨ev _,by simp[kQ,kP],(eQ l).trans nB,by rw[kS,kd]⟩
theorem o7{α:Type}[Enc α]{esz:Nat}{v:I}{os:List (Nat×aq)}{l:List α}{S:List Nat}(h:kC esz v os l S):jJ v:=by
 rcases h with ⟨_,rfl⟩ | ⟨n,q,_,rfl,_⟩ <;>exact ⟨rfl,rfl,rfl,rfl⟩
theorem YB{a s:Int}{h:List Int}{r e:I}(hr:jJ r)(he:jJ e):(gB a (enc h) s r e).aX=.eG [.one,.one,.one,.one,.one]:=by
 simp only[gB,I.aX,I.cX,eQ,nB,hr.2.2.1,he.2.2.1]
theorem Fg{a s:Int}{h:List Int}{r e:I}(hr:jJ r)(he:jJ e):b7 (some 5) (gB a (enc h) s r e)=true:=by
 simp[b7,gB,I.isAgg,I.size,I.sizes,kS,kd,hr.2.2.2,he.2.2.2]
theorem tU{a s:Int}{h:List Int}{r e:I}(hr:jJ r)(he:jJ e):b7 (some 5) (gB a (enc h) s r e)=true∧(∀ A n rest x y,dp A (some 5) n [] (.agg [.int .i64 x,.nils 1,.int .i64 y,.nils 4,.nils 4]) (gB a (enc h) s r e) rest (some (.agg [.int .i64 x,.nils 1,.int .i64 y,.nils 4,.nils 4]))=az rest (A.aV n (.box (gB a (enc h) s r e)))) :=
 ⟨Fg hr he,fun A n rest x y=>dP rfl (Fg hr he) (YB hr he)⟩
theorem xG{q:cd}{v:I}(hv:jJ v):∀ A n rest,dp A none n [3] (enc q) v rest (some (enc q.bF))=az rest (A.aV n (.box (gB q.av (enc q.here) q.dC v (enc q.bn)))) :=
 fun A n rest=>(dP hv.1 hv.2.1 (hv.2.2.1.trans ((eQ _).trans nB).symm)).trans rfl
theorem YA{q:cd}{v:I}(hv:jJ v):∀ A n rest,dp A none n [4] (enc q) v rest (some (enc q.bn))=az rest (A.aV n (.box (gB q.av (enc q.here) q.dC (enc q.bF) v))) :=
 fun A n rest=>(dP hv.1 hv.2.1 (hv.2.2.1.trans ((eQ _).trans nB).symm)).trans rfl
theorem tV{A:ai}{a s:Int}{h:List Int}{r e:I}{rs:List dh}{es:List hh}(hr:bh true A r=some (enc rs))(he:bh true A e=some (enc es)):bh true A (gB a (enc h) s r e)=some (enc (⟨a,h,s,rs,es⟩:cd)):=by
 have U:∀ k n,bh true A (.int k n)=some (.int k n):=fun k n=>by simp only[bh]
 have ah:bh true A (enc h)=some (enc h):=by simp only[lI]
 simp only[gB,vE,vG,vI,hr,he,U,ah,kb,Z7];rfl
theorem xP(s:cd)(i:Nat)(hi:i<s.bF.length)(ao:s.bF.length≤1000):bf Tryz.prog 111 [enc s,enc (i:Int)] (enc (iZ s i)):=by
 refine bf.b9 Tryz.func111 H8 I9 Kb (u8 rfl) (fun hwf W0 bH E1 =>?_);simp only[yL,Dn,bN,Z1];clear hwf;have hc:=gX hi;have hw:=gK (i:=i) (by omega);have hle:i≤s.bF.length:=by omega
 have af:(s.bF.take i).length+(s.bF.drop (i+1)).length≤1000:=by rw[zz8,List.length_drop];omega
 have hd0:(s.bF.take i).length≤1000:=by omega
 have R:=y6 @hc (y6 @hw (y6 @cL aH))
 repeat' ((first |refine ae.aJ (by decide +kernel) rfl fun K hK =>?_|(refine .aA [0,1,2,4] hK ?_;clear hK K)|(with_reducible refine .done (hK _ ?_);clear hK K)|refine ae.of rfl ?_|(with_reducible refine aC.aI (fun h =>?_) (fun h =>?_) <;>try simp only[h])) <;>try simp only[aK,R,simprocAttr])
 all_goals clear R
 refine ae.rq (gs:=vK) [] [(5,[])] [0,1,2,3,4,6,7,8,9,10,5,11,12,13] (by decide +kernel) (cW.of (by simp[ft,cz,qN,I.only])) fun K hK =>?_
 try simp only[fe,vK,Y9,zz0,tO 4 hle rfl,xD 4 (show i+1≤s.bF.length by omega) rfl,Option.map_none,Z7,hw,vg,ky,cL,aH,bG,simprocAttr]
 refine bO.jc pL rfl (o8 _ []) rfl (by simp;omega) (by simp[maxLen];omega) fun v1 o1 g1 f1 =>?_
 try simp only[bG,simprocAttr]
 refine bO.jc pL rfl g1 (f1 16 (by decide)) (by simp;omega) (by simp[maxLen];omega) fun v2 o2 g2 f2 =>?_;have ho2:aj o2 2=some (.box (enc s)):=(f2 2 (by decide)).trans (f1 2 (by decide));have ho4:aj o2 4=some (.box (.agg [.int .i64 0,.nils 1,.int .i64 0,.nils 4,.nils 4])):=(f2 4 (by decide)).trans (f1 4 (by decide));have ab:=xG (q:=s) (o7 g2);have ht:=tU (a:=s.av) (h:=s.here) (s:=s.dC) (o7 g2) (wP s.bn);have hf:∀ ts os,aj os 10=aj o2 10→aj os 16=aj o2 16→bh true (au ts os) (gB s.av (enc s.here) s.dC v2 (enc s.bn))=some (enc (iZ s i)):=fun ts os J U =>
  (tV (o6 rfl g2 (by intro m hm;simp only[zx3,List.not_mem_nil,or_false] at hm;rcases hm with rfl | rfl;exact U;exact J)) (by simp only[lI])).trans rfl
 try simp only[ho2,ab,cL,aH,bG,simprocAttr]
 refine .done (hK _ ?_);clear hK K;have R:=y6 @ho4 (y6 @ht (y6 @hf (y6 @cL aH)))
 repeat' ((first |refine ae.aJ (by decide +kernel) rfl fun K hK =>?_|(refine .aA [0,1,2,4] hK ?_;clear hK K)|(with_reducible refine .done (hK _ ?_);clear hK K)|refine ae.of rfl ?_|(with_reducible refine aC.aI (fun h =>?_) (fun h =>?_) <;>try simp only[h])) <;>try simp only[aK,R,simprocAttr])
 all_goals clear R
theorem HM(a b c d:Int):(dO [.int .i64 0,.int .i64 0,.int .i64 0,.int .i64 0] [(0,.int .i64 a),(1,.int .i64 b),(2,.int .i64 c),(3,.int .i64 d)]).map I.agg=some (enc (⟨a,b,c,d⟩:hh)):=by simp[dO,I.bU,I.size];rfl
def gh(s:cd)(x:bg):cd := { s with bn:=s.bn++[⟨x.kind,x.other,x.no,x.aD⟩] }
theorem xQ(s:cd)(x:bg)(ao:s.bn.length≤1000):bf Tryz.prog 112 [enc s,enc x] (enc (gh s x)):=by
 refine bf.b9 Tryz.func112 H9 Ja Kc (u8 rfl) (fun hwf W0 bH E1 =>?_);simp only[yM,Dp,bN,Z1];clear hwf;have hbs:∀ y:hh,fE 4 (some [enc y])=some (enc [y]):=fun y=>jm 4 y rfl;have R:=y6 @cL aH
 repeat' ((first |refine ae.aJ (by decide +kernel) rfl fun K hK =>?_|(refine .aA [0,1,2,3,4] hK ?_;clear hK K)|(with_reducible refine .done (hK _ ?_);clear hK K)|refine ae.of rfl ?_|(with_reducible refine aC.aI (fun h =>?_) (fun h =>?_) <;>try simp only[h])) <;>try simp only[aK,R,simprocAttr])
 all_goals clear R
 refine ae.rq (gs:=vL) [] [(5,[])] [0,1,2,4,5,6,7,8,9,10,11,12,13,3,14,15,16] (by decide +kernel) (cW.of (by simp[ft,cz,qN,I.only])) fun K hK =>?_
 try simp only[fe,vL,Y9,zz0,List.nil_append,Mg,HM,ky,hbs,cL,aH,bG,simprocAttr]
 refine bO.jc xw rfl (o8 _ []) rfl (by simp;omega) (by simp[maxLen];omega) fun v1 o1 g1 f1 =>?_
 try simp only[bG,simprocAttr]
 refine bO.jc xw rfl g1 (f1 19 (by decide)) (by simp;omega) (by simp[maxLen];omega) fun v2 o2 g2 f2 =>?_;have ho2:aj o2 2=some (.box (enc s)):=(f2 2 (by decide)).trans (f1 2 (by decide));have ho4:aj o2 4=some (.box (.agg [.int .i64 0,.nils 1,.int .i64 0,.nils 4,.nils 4])):=(f2 4 (by decide)).trans (f1 4 (by decide));have ab:=YA (q:=s) (o7 g2);have ht:=tU (a:=s.av) (h:=s.here) (s:=s.dC) (Xe s.bF) (o7 g2);have hf:∀ ts os,aj os 8=aj o2 8→aj os 19=aj o2 19→bh true (au ts os) (gB s.av (enc s.here) s.dC (enc s.bF) v2)=some (enc (gh s x)):=fun ts os J U =>
  (tV (by simp only[lI]) (o6 rfl g2 (by intro m hm;simp only[zx3,List.not_mem_nil,or_false] at hm;rcases hm with rfl | rfl;exact U;exact J))).trans rfl
 try simp only[ho2,ab,cL,aH,bG,simprocAttr]
 refine .done (hK _ ?_);clear hK K;have R:=y6 @ho4 (y6 @ht (y6 @hf (y6 @cL aH)))
 repeat' ((first |refine ae.aJ (by decide +kernel) rfl fun K hK =>?_|(refine .aA [0,1,2,3,4] hK ?_;clear hK K)|(with_reducible refine .done (hK _ ?_);clear hK K)|refine ae.of rfl ?_|(with_reducible refine aC.aI (fun h =>?_) (fun h =>?_) <;>try simp only[h])) <;>try simp only[aK,R,simprocAttr])
 all_goals clear R
def gY(s:cd)(x:bg):Bool:=match jx s x.no with
 |some i=>match s.bF[i]? with
  |some r=>r.to==x.other&&r.aD==x.aD
  |none=>false
 |none=>false
def oP(s:cd)(x:bg):Bool:=match jx s x.no with
 |some i=>match s.bF[i]? with
  |some r=>r.c9
  |none=>false
 |none=>false
def atR(s:cd)(x:bg):Nat:=(jx s x.no).getD 0
def cH(s:cd)(x:bg):cd×Bool :=
 if x.kind=1 then if decide (x.aD∈s.here)||iz s x.aD then (s,false) else ({ s with here:=ej s.here x.aD },true)
 else if x.kind=2 then ({ s with here:=gW s.here x.aD },decide (x.aD∈s.here))
 else if x.kind=3 then if x.aD∉s.here∨x.other=s.av∨x.no≠s.dC+1 then (s,false) else ({ s with here:=gW s.here x.aD,dC:=x.no,bF:=s.bF++[⟨x.no,x.other,x.aD,false⟩] },true)
 else if x.kind=4 then if gY s x && !oP s x then ({ s with bF:=s.bF.modify (atR s x) fun r => { r with c9:=true } },true) else (s,false)
 else if x.kind=5 then if gY s x then (iZ s (atR s x),true) else (s,false)
 else if x.kind=6 then if gY s x&&oP s x then ({ iZ s (atR s x) with here:=ej s.here x.aD },true) else (s,false)
 else if x.other=s.av∨jd s x.other x.no≠0 then (s,false)
 else if x.kind=7 then if decide (x.aD∈s.here)||iz s x.aD then (s,false) else (gh { s with here:=ej s.here x.aD } x,true)
 else (gh s x,true)
theorem EK(s:cd)(no:Int):(jx s no=none∧kp s no=-1)∨∃ i,∃ h:i<s.bF.length,jx s no=some i∧kp s no=(i:Int)∧(s.bF[i]).no=no:=by
 cases h:jx s no with
 |none=>exact .inl ⟨rfl,by simp[kp,h]⟩
 |some i =>
  obtain ⟨J,U,_⟩:=List.findIdx?_eq_some_iff_getElem.1 h;exact .inr ⟨i,J,rfl,by simp[kp,h],of_decide_eq_true U⟩
def kE(s:cd)(x:bg):ai:=au [(2,.ptr 2 []),(3,.ptr 3 []),(4,.ptr 4 []),(5,.bool false),(6,.bool (decide (x.aD∈s.here))),(7,.int .i64 (kp s x.no)),(8,.bool (gY s x))] [(4,.box (.agg [.int .i64 0,.nils 1,.int .i64 0,.nils 4,.nils 4])),(3,.box (enc x)),(2,.box (enc s))]
theorem mQ{W0:World}{bH:aP}{n:Nat}{own c4:_}(y:bx)(Q:Exit→ai→Prop)(s:cd)(x:bg)(ao:s.bF.length≤1000)
  (h:ae { P:=Tryz.prog,fH:=W0,bH:=bH,n:=n,own:=own,c4:=c4,Y:=dj,j2:=none } y Q (kE s x)) :
  ae { P:=Tryz.prog,fH:=W0,bH:=bH,n:=n,own:=own,c4:=c4,Y:=dj,j2:=none } (.seq (.b8 none Bd) (.seq (.b8 none Be) (.seq (.b8 none Bf) (.seq (.b8 Au Bg) y)))) Q (au [(0,enc s),(1,enc x)] []):=by
 have hF1:=Gv s.here x.aD;have hF2:=Gw s x.no ao;have hg:decide ((-1:Int)≥0)=false:=rfl;unfold kE at h;rcases EK s x.no with ⟨J,U⟩ | ⟨i,hi,J,U,-⟩
 ·have hm:gY s x=false:=by simp only[gY,J]
  rw[U] at hF2 h;rw[hm] at h;have R:=y6 @hg (y6 @cL (y6 @bq aH))
  repeat' ((first |(with_reducible refine .guard (fun hb =>?_) (fun hb =>?_) <;>try simp only[hb])|refine ae.aJ (by decide +kernel) rfl fun K hK =>?_|refine .flat _ (hF1) rfl ?_|refine .flat _ (hF2) rfl ?_|(refine .aA [0,1,2,3,4,5,6,7,8,45,46,54,63,73,91,117,128,141,144,149,161,186,190,197] hK ?_;clear hK K)|(with_reducible refine .done (hK _ ?_);clear hK K)|refine ae.of rfl ?_|(with_reducible refine aC.aI (fun h =>?_) (fun h =>?_) <;>try simp only[h])) <;>try simp only[aK,R,decide_false,simprocAttr])
  all_goals clear R
  refine ae.sub ?_ h;refine bB.dF ?_ ?_ ?_ ?_ <;>simp[cC,dq,cO,cR,aw,cz,dX,I.only,I.ct,aq.only,cJ]
 ·have hm:gY s x=((s.bF[i]).to==x.other&&(s.bF[i]).aD==x.aD):=by simp only[gY,J,Y7 hi]
  have hx:(if 0>(i:Int) then 0 else (i:Int))=(i:Int):=if_neg (by omega);have hg2:decide ((i:Int)≥0)=true:=by simp
  have he:=fun A=>fb (A:=A) 4 hi rfl;rw[U] at hF2 h;rw[hm] at h;rcases q1:((s.bF[i]).to==x.other)
  ·rw[q1,Bool.false_and] at h;have R:=y6 @hg2 (y6 @hx (y6 @he (y6 @q1 (y6 @cL (y6 @bq aH)))))
   repeat' ((first |(with_reducible refine .guard (fun hb =>?_) (fun hb =>?_) <;>try simp only[hb])|refine ae.aJ (by decide +kernel) rfl fun K hK =>?_|refine .flat _ (hF1) rfl ?_|refine .flat _ (hF2) rfl ?_|(refine .aA [0,1,2,3,4,5,6,7,8,45,46,54,63,73,91,117,128,141,144,149,161,186,190,197] hK ?_;clear hK K)|(with_reducible refine .done (hK _ ?_);clear hK K)|refine ae.of rfl ?_|(with_reducible refine aC.aI (fun h =>?_) (fun h =>?_) <;>try simp only[h])) <;>try simp only[aK,R,decide_true,simprocAttr])
   all_goals clear R
   refine ae.sub ?_ h;refine bB.dF ?_ ?_ ?_ ?_ <;>simp[cC,dq,cO,cR,aw,cz,dX,I.only,I.ct,aq.only,cJ]
  ·rw[q1,Bool.true_and] at h;have R:=y6 @hg2 (y6 @hx (y6 @he (y6 @q1 (y6 @cL (y6 @bq aH)))))
   repeat' ((first |(with_reducible refine .guard (fun hb =>?_) (fun hb =>?_) <;>try simp only[hb])|refine ae.aJ (by decide +kernel) rfl fun K hK =>?_|refine .flat _ (hF1) rfl ?_|refine .flat _ (hF2) rfl ?_|(refine .aA [0,1,2,3,4,5,6,7,8,45,46,54,63,73,91,117,128,141,144,149,161,186,190,197] hK ?_;clear hK K)|(with_reducible refine .done (hK _ ?_);clear hK K)|refine ae.of rfl ?_|(with_reducible refine aC.aI (fun h =>?_) (fun h =>?_) <;>try simp only[h])) <;>try simp only[aK,R,decide_true,simprocAttr])
   all_goals clear R
   refine ae.sub ?_ h;refine bB.dF ?_ ?_ ?_ ?_ <;>simp[cC,dq,cO,cR,aw,cz,dX,I.only,I.ct,aq.only,cJ]
structure jK (s:cd):Prop where
 ao:s.bF.length≤1000
 bC:s.here.length≤1000
 ab:s.bn.length≤1000
 aW:0≤s.dC
 J:s.dC≤1000
theorem fZ(b:Bool):b=false∨b=true:=by cases b <;>simp
theorem Gm(s:cd)(x:bg)(ab:jK s)(hk:x.kind=1):bf Tryz.prog 76 [enc s,enc x] (.tuple [enc (cH s x).1,enc (cH s x).2]):=by
 refine bf.b9 Tryz.func76 mu mw mz (u8 rfl) (fun hwf W0 bH E1 =>?_);simp only[lF,lZ,bN,Z1];clear hwf;refine mQ _ _ s x ab.ao ?_;unfold kE;have hk1:(x.kind==1)=true:=by rw[hk];rfl
 have hF1:=uk s x.aD ab.ao;have hF2:=rY s.here x.aD ab.bC;rcases fZ (decide (x.aD∈s.here)) with q | q
 ·rcases fZ (iz s x.aD) with q2 | q2
  ·rw[show cH s x=({ s with here:=ej s.here x.aD },true) by simp only[cH,hk,q,q2];rfl];have R:=y6 @hk1 (y6 @q (y6 @q2 (y6 @cL (y6 @bq aH))))
   repeat' ((first |(with_reducible refine .guard (fun hb =>?_) (fun hb =>?_) <;>try simp only[hb])|refine ae.aJ (by decide +kernel) rfl fun K hK =>?_|refine .flat _ (hF1) rfl ?_|refine .lead _ (hF2) ?_|(refine .aA [0,1,2,3,4,5,6,7,8,45,46,54,63,73,91,117,128,141,144,149,161,186,190,197] hK ?_;clear hK K)|(with_reducible refine .done (hK _ ?_);clear hK K)|refine ae.of rfl ?_|(with_reducible refine aC.aI (fun h =>?_) (fun h =>?_) <;>try simp only[h])) <;>try simp only[aK,R,simprocAttr])
   all_goals clear R
  ·rw[show cH s x=(s,false) by simp only[cH,hk,q,q2];rfl];have R:=y6 @hk1 (y6 @q (y6 @q2 (y6 @cL (y6 @bq aH))))
   repeat' ((first |(with_reducible refine .guard (fun hb =>?_) (fun hb =>?_) <;>try simp only[hb])|refine ae.aJ (by decide +kernel) rfl fun K hK =>?_|refine .flat _ (hF1) rfl ?_|refine .lead _ (hF2) ?_|(refine .aA [0,1,2,3,4,5,6,7,8,45,46,54,63,73,91,117,128,141,144,149,161,186,190,197] hK ?_;clear hK K)|(with_reducible refine .done (hK _ ?_);clear hK K)|refine ae.of rfl ?_|(with_reducible refine aC.aI (fun h =>?_) (fun h =>?_) <;>try simp only[h])) <;>try simp only[aK,R,simprocAttr])
   all_goals clear R
 ·rw[show cH s x=(s,false) by simp only[cH,hk,q];rfl];have R:=y6 @hk1 (y6 @q (y6 @cL (y6 @bq aH)))
  repeat' ((first |(with_reducible refine .guard (fun hb =>?_) (fun hb =>?_) <;>try simp only[hb])|refine ae.aJ (by decide +kernel) rfl fun K hK =>?_|refine .flat _ (hF1) rfl ?_|refine .lead _ (hF2) ?_|(refine .aA [0,1,2,3,4,5,6,7,8,45,46,54,63,73,91,117,128,141,144,149,161,186,190,197] hK ?_;clear hK K)|(with_reducible refine .done (hK _ ?_);clear hK K)|refine ae.of rfl ?_|(with_reducible refine aC.aI (fun h =>?_) (fun h =>?_) <;>try simp only[h])) <;>try simp only[aK,R,simprocAttr])
  all_goals clear R
theorem Gn(s:cd)(x:bg)(ab:jK s)(hk:x.kind=2):bf Tryz.prog 76 [enc s,enc x] (.tuple [enc (cH s x).1,enc (cH s x).2]):=by
 refine bf.b9 Tryz.func76 mu mw mz (u8 rfl) (fun hwf W0 bH E1 =>?_);simp only[lF,lZ,bN,Z1];clear hwf;refine mQ _ _ s x ab.ao ?_;unfold kE;have hk1:(x.kind==1)=false:=by rw[hk];rfl
 have hk2:(x.kind==2)=true:=by rw[hk];rfl
 have hF2:=xO s.here x.aD ab.bC;rw[show cH s x=({ s with here:=gW s.here x.aD },decide (x.aD∈s.here)) by simp only[cH,hk];rfl];have R:=y6 @hk1 (y6 @hk2 (y6 @cL (y6 @bq aH)))
 repeat' ((first |(with_reducible refine .guard (fun hb =>?_) (fun hb =>?_) <;>try simp only[hb])|refine ae.aJ (by decide +kernel) rfl fun K hK =>?_|refine .lead _ (hF2) ?_|(refine .aA [0,1,2,3,4,5,6,7,8,45,46,54,63,73,91,117,128,141,144,149,161,186,190,197] hK ?_;clear hK K)|(with_reducible refine .done (hK _ ?_);clear hK K)|refine ae.of rfl ?_|(with_reducible refine aC.aI (fun h =>?_) (fun h =>?_) <;>try simp only[h])) <;>try simp only[aK,R,simprocAttr])
 all_goals clear R
theorem Gp(s:cd)(x:bg)(ab:jK s)(hk:x.kind=3):bf Tryz.prog 76 [enc s,enc x] (.tuple [enc (cH s x).1,enc (cH s x).2]):=by
 refine bf.b9 Tryz.func76 mu mw mz (u8 rfl) (fun hwf W0 bH E1 =>?_);simp only[lF,lZ,bN,Z1];clear hwf;refine mQ _ _ s x ab.ao ?_;unfold kE;have hk1:(x.kind==1)=false:=by rw[hk];rfl
 have hk2:(x.kind==2)=false:=by rw[hk];rfl
 have hk3:(x.kind==3)=true:=by rw[hk];rfl
 have hw:IntKind.i64.wrap (s.dC+1)=s.dC+1:=by have:=ab.aW;have:=ab.J;exact jG _ (by omega) (by omega)
 have hF2:=xO s.here x.aD ab.bC;have e3:cH s x=if x.aD∉s.here∨x.other=s.av∨x.no≠s.dC+1 then (s,false) else ({ s with here:=gW s.here x.aD,dC:=x.no,bF:=s.bF++[⟨x.no,x.other,x.aD,false⟩] },true):=by simp only[cH,hk];rfl
 rcases fZ (decide (x.aD∈s.here)) with q | q
 ·rw[e3,if_pos (.inl (of_decide_eq_false q))];have R:=y6 @hk1 (y6 @hk2 (y6 @hk3 (y6 @q (y6 @cL (y6 @bq aH)))))
  repeat' ((first |(with_reducible refine .guard (fun hb =>?_) (fun hb =>?_) <;>try simp only[hb])|refine ae.aJ (by decide +kernel) rfl fun K hK =>?_|refine .lead _ (hF2) ?_|(refine .aA [0,1,2,3,4,5,6,7,8,45,46,54,63,73,91,117,128,141,144,149,161,186,190,197] hK ?_;clear hK K)|(with_reducible refine .done (hK _ ?_);clear hK K)|refine ae.of rfl ?_|(with_reducible refine aC.aI (fun h =>?_) (fun h =>?_) <;>try simp only[h])) <;>try simp only[aK,R,simprocAttr])
  all_goals clear R
 rcases fZ (x.other==s.av) with q2 | q2
 rotate_left
 ·rw[e3,if_pos (.inr (.inl (by simpa using q2)))];have R:=y6 @hk1 (y6 @hk2 (y6 @hk3 (y6 @q (y6 @q2 (y6 @cL (y6 @bq aH))))))
  repeat' ((first |(with_reducible refine .guard (fun hb =>?_) (fun hb =>?_) <;>try simp only[hb])|refine ae.aJ (by decide +kernel) rfl fun K hK =>?_|refine .lead _ (hF2) ?_|(refine .aA [0,1,2,3,4,5,6,7,8,45,46,54,63,73,91,117,128,141,144,149,161,186,190,197] hK ?_;clear hK K)|(with_reducible refine .done (hK _ ?_);clear hK K)|refine ae.of rfl ?_|(with_reducible refine aC.aI (fun h =>?_) (fun h =>?_) <;>try simp only[h])) <;>try simp only[aK,R,simprocAttr])
  all_goals clear R
 rcases fZ (x.no != s.dC+1) with q3 | q3
 rotate_left
 ·rw[e3,if_pos (.inr (.inr (by simpa using q3)))];have R:=y6 @hk1 (y6 @hk2 (y6 @hk3 (y6 @q (y6 @q2 (y6 @q3 (y6 @hw (y6 @cL (y6 @bq aH))))))))
  repeat' ((first |(with_reducible refine .guard (fun hb =>?_) (fun hb =>?_) <;>try simp only[hb])|refine ae.aJ (by decide +kernel) rfl fun K hK =>?_|refine .lead _ (hF2) ?_|(refine .aA [0,1,2,3,4,5,6,7,8,45,46,54,63,73,91,117,128,141,144,149,161,186,190,197] hK ?_;clear hK K)|(with_reducible refine .done (hK _ ?_);clear hK K)|refine ae.of rfl ?_|(with_reducible refine aC.aI (fun h =>?_) (fun h =>?_) <;>try simp only[h])) <;>try simp only[aK,R,simprocAttr])
  all_goals clear R
 have J:x.aD∈s.here:=of_decide_eq_true q;have U:¬ x.other=s.av:=by simpa using q2
 have ah:x.no=s.dC+1:=by simpa using q3
 rw[e3,if_neg (fun h=>h.elim (fun h=>h J) fun h=>h.elim U fun h=>h ah)];have ao:=ab.ao;obtain ⟨q0,hq0⟩:∃ q0:cd,q0 = { s with here:=gW s.here x.aD,dC:=x.no } :=⟨_,rfl⟩
 have hr0:q0.bF=s.bF:=by rw[hq0]
 have R:=y6 @hk1 (y6 @hk2 (y6 @hk3 (y6 @q (y6 @q2 (y6 @q3 (y6 @hw (y6 @cL (y6 @bq aH))))))))
 repeat' ((first |(with_reducible refine .guard (fun hb =>?_) (fun hb =>?_) <;>try simp only[hb])|refine ae.aJ (by decide +kernel) rfl fun K hK =>?_|refine .lead _ (hF2) ?_|(refine .aA [0,1,2,3,4,5,6,7,8,45,46,54,63,73,91,117,128,141,144,149,161,186,190,197] hK ?_;clear hK K)|(with_reducible refine .done (hK _ ?_);clear hK K)|refine ae.of rfl ?_|(with_reducible refine aC.aI (fun h =>?_) (fun h =>?_) <;>try simp only[h])) <;>try simp only[aK,R,simprocAttr])
 all_goals clear R
 rw[←hq0];refine ae.rq (gs:=vS) [] [(102,[])] [0,1,2,4,5,6,7,8,9,10,11,3,12,13,14] (by decide +kernel) (cW.of (by simp[ft,cz,qN,I.only])) fun K hK =>?_;have hbs:∀ y:dh,fE 4 (some [enc y])=some (enc [y]):=fun y=>jm 4 y rfl
 try simp only[fe,vS,Y9,zz0,List.nil_append,vg,sq,ky,hbs,cL,aH,bG,simprocAttr]
 refine bO.jc pL rfl (o8 _ []) rfl (by simp[hr0];omega) (by simp[maxLen,hr0];omega) fun v1 o1 g1 f1 =>?_
 try simp only[bG,simprocAttr]
 refine bO.jc pL rfl g1 (f1 114 (by decide)) (by simp[hr0];omega) (by simp[maxLen,hr0];omega) fun v2 o2 g2 f2 =>?_;have ho2:aj o2 2=some (.box (enc q0)):=(f2 2 (by decide)).trans (f1 2 (by decide));have ho4:aj o2 4=some (.box (.agg [.int .i64 0,.nils 1,.int .i64 0,.nils 4,.nils 4])):=(f2 4 (by decide)).trans (f1 4 (by decide));have ab:=xG (q:=q0) (o7 g2);have ht:=tU (a:=q0.av) (h:=q0.here) (s:=q0.dC) (o7 g2) (wP q0.bn);have hf:∀ ts os,aj os 105=aj o2 105→aj os 114=aj o2 114→bh true (au ts os) (gB q0.av (enc q0.here) q0.dC v2 (enc q0.bn))=some (enc ({ s with here:=gW s.here x.aD,dC:=x.no,bF:=s.bF++[⟨x.no,x.other,x.aD,false⟩] } : cd)):=fun ts os J U =>
  (tV (es:=q0.bn) (o6 rfl g2 (by intro m hm;simp only[zx3,List.not_mem_nil,or_false] at hm;rcases hm with rfl | rfl;exact U;exact J)) (by simp only[lI])).trans (by rw[hq0];rfl)
 try simp only[ho2,ab,cL,aH,bG,simprocAttr]
 refine .done (hK _ ?_);clear hK K;have R:=y6 @ho4 (y6 @ht (y6 @hf (y6 @cL aH)))
 repeat' ((first |(with_reducible refine .guard (fun hb =>?_) (fun hb =>?_) <;>try simp only[hb])|refine ae.aJ (by decide +kernel) rfl fun K hK =>?_|(refine .aA [0,1,2,3,4,5,6,7,8,45,46,54,63,73,91,117,128,141,144,149,161,186,190,197] hK ?_;clear hK K)|(with_reducible refine .done (hK _ ?_);clear hK K)|refine ae.of rfl ?_|(with_reducible refine aC.aI (fun h =>?_) (fun h =>?_) <;>try simp only[h])) <;>try simp only[aK,R,simprocAttr])
 all_goals clear R
theorem wz{s:cd}{x:bg}(h:gY s x=true):∃ i,∃ h:i<s.bF.length,jx s x.no=some i∧kp s x.no=(i:Int)∧atR s x=i∧oP s x=(s.bF[i]).c9:=by
 rcases EK s x.no with ⟨J,U⟩ | ⟨i,hi,J,U,-⟩
 ·simp only[gY,J] at h;cases h
 ·exact ⟨i,hi,J,U,by simp only[atR,J];rfl,by simp only[oP,J,Y7 hi]⟩
theorem Cs{α β:Type}(e:α→β)(f:α→α):∀ (l:List α) (i:Nat) (h:i<l.length),(l.map e).set i (e (f l[i]))=(l.modify i f).map e
 |x::l,0,_=>rfl
 |x::l,i+1,h=>by
  have:=Cs e f l i (by simpa using h);simp only[Z4,List.set_cons_succ,List.modify_succ_cons,List.getElem_cons_succ,this]
theorem Yw{A:ai}{n i:Nat}{xs:List dh}{c v:Bool}{rest:List aE}(hi:i<xs.length):dp A none n [i,3] (.agg (xs.map enc)) (.bool v) rest (some (.bool c))=az rest (A.aV n (.box (.agg ((xs.modify i fun r => { r with c9:=v }).map enc)))):=by
 rw[dP (s:=none) (v:=.bool v) (old:=.bool c) rfl rfl rfl];have U:(xs.map (enc (α:=dh)))[i]?=some (enc xs[i]):=by simp[hi]
 have ah:(enc xs[i]:I).eB [3] (.bool v)=enc ({ xs[i] with c9:=v } : dh):=rfl;have ar:(xs.map (enc (α:=dh))).set i (enc ({ xs[i] with c9:=v } : dh))=(xs.modify i fun r => { r with c9:=v }).map enc:=Cs enc (fun r:dh => { r with c9:=v }) xs i hi;simp only[I.eB,U,ah,ar]
theorem Hf{i:Nat}{xs:List dh}(hi:i<xs.length):mr i [3] (some (xs.map enc))=some (.bool (xs[i]).c9):=by
 simp only[mr,zz3,Y7 hi,Z7,oL];rfl
theorem CC{α:Type}(f:α→α):∀ (l r:List α) (i:Nat),i<l.length→(l++r).modify i f=l.modify i f++r
 | [],_,_,h=>by simp at h
 |x::l,r,0,_=>rfl
 |x::l,r,i+1,h=>by
  have:=CC f l r i (by simpa using h);simp only[Z9,List.modify_succ_cons,this]
theorem Gq(s:cd)(x:bg)(ab:jK s)(hk:x.kind=4):bf Tryz.prog 76 [enc s,enc x] (.tuple [enc (cH s x).1,enc (cH s x).2]):=by
 refine bf.b9 Tryz.func76 mu mw mz (u8 rfl) (fun hwf W0 bH E1 =>?_);simp only[lF,lZ,bN,Z1];clear hwf;refine mQ _ _ s x ab.ao ?_;unfold kE;have hk1:(x.kind==1)=false:=by rw[hk];rfl
 have hk2:(x.kind==2)=false:=by rw[hk];rfl
 have hk3:(x.kind==3)=false:=by rw[hk];rfl
 have hk4:(x.kind==4)=true:=by rw[hk];rfl
 rcases fZ (gY s x) with q | q
 ·rw[show cH s x=(s,false) by simp only[cH,hk,q];rfl];have R:=y6 @hk1 (y6 @hk2 (y6 @hk3 (y6 @hk4 (y6 @q (y6 @cL (y6 @bq aH))))))
  repeat' ((first |(with_reducible refine .guard (fun hb =>?_) (fun hb =>?_) <;>try simp only[hb])|refine ae.aJ (by decide +kernel) rfl fun K hK =>?_|(refine .aA [0,1,2,3,4,5,6,7,8,45,46,54,63,73,91,117,128,141,144,149,161,186,190,197] hK ?_;clear hK K)|(with_reducible refine .done (hK _ ?_);clear hK K)|refine ae.of rfl ?_|(with_reducible refine aC.aI (fun h =>?_) (fun h =>?_) <;>try simp only[h])) <;>try simp only[aK,R,simprocAttr])
  all_goals clear R
 ·obtain ⟨i,hi,J,U,ah,ar⟩:=wz q;have he:=fun A=>fb (A:=A) 4 hi rfl;rcases fZ (s.bF[i]).c9 with q2 | q2
  rotate_left
  ·rw[show cH s x=(s,false) by simp only[cH,hk,q,ar,q2];rfl];have R:=y6 @hk1 (y6 @hk2 (y6 @hk3 (y6 @hk4 (y6 @q (y6 @U (y6 @he (y6 @q2 (y6 @cL (y6 @bq aH)))))))))
   repeat' ((first |(with_reducible refine .guard (fun hb =>?_) (fun hb =>?_) <;>try simp only[hb])|refine ae.aJ (by decide +kernel) rfl fun K hK =>?_|(refine .aA [0,1,2,3,4,5,6,7,8,45,46,54,63,73,91,117,128,141,144,149,161,186,190,197] hK ?_;clear hK K)|(with_reducible refine .done (hK _ ?_);clear hK K)|refine ae.of rfl ?_|(with_reducible refine aC.aI (fun h =>?_) (fun h =>?_) <;>try simp only[h])) <;>try simp only[aK,R,simprocAttr])
   all_goals clear R
  ·rw[show cH s x=({ s with bF:=s.bF.modify i fun r => { r with c9:=true } },true) by simp only[cH,hk,q,ah,ar,q2];rfl];have R:=y6 @hk1 (y6 @hk2 (y6 @hk3 (y6 @hk4 (y6 @q (y6 @U (y6 @he (y6 @q2 (y6 @vg (y6 @ky (y6 @cL (y6 @bq aH)))))))))))
   repeat' ((first |(with_reducible refine .guard (fun hb =>?_) (fun hb =>?_) <;>try simp only[hb])|refine ae.aJ (by decide +kernel) rfl fun K hK =>?_|(refine .aA [0,1,2,3,4,5,6,7,8,45,46,54,63,73,91,117,128,141,144,149,161,186,190,197] hK ?_;clear hK K)|(with_reducible refine .done (hK _ ?_);clear hK K)|refine ae.of rfl ?_|(with_reducible refine aC.aI (fun h =>?_) (fun h =>?_) <;>try simp only[h])) <;>try simp only[aK,R,simprocAttr])
   all_goals clear R
   have ao:=ab.ao;refine aR.jc pL rfl (o8 _ []) rfl (by simp;omega) (by simp[maxLen];omega) fun v2 o2 g2 f2 =>?_;have hne:s.bF≠[]:=fun h=>by rw[h] at hi;simp at hi
   rw[List.nil_append] at g2;rcases g2 with ⟨hz,_⟩ | ⟨n,qq,hn,rfl,hrow⟩
   ·exact absurd hz hne
   rw[zz7] at hn;subst hn;have ho2:aj o2 2=some (.box (enc s)):=f2 2 (by decide);have ho4:aj o2 4=some (.box (.agg [.int .i64 0,.nils 1,.int .i64 0,.nils 4,.nils 4])):=f2 4 (by decide);have hone:jJ (.view 133 [] 4 0 s.bF.length):=⟨rfl,rfl,rfl,rfl⟩
   have hs3:=xG (q:=s) hone
   try simp only[ho2,hs3,cL,aH,bG,simprocAttr]
   have hof:∀ w,dm [.int .i64 s.av,enc s.here,.int .i64 s.dC,.view 133 [] 4 0 s.bF.length,enc s.bn] 3 3 w=some w:=fun w=>jV (by simp) (by simp[I.sizes,I.size,kS,kd]);have hok:b7 none (.view 133 [] 4 0 s.bF.length)=true:=rfl;have hi':i<(s.bF++qq).length:=by rw[Z6];omega
   have hv:∀ fs,mF 133 [] 4 0 s.bF.length 4 (i:Int) (some fs)=some (.ptr 133 [i]):=fun fs=>by
    have:=Vs (m:=133) (sz:=4) (lo:=0) (l:=s.bF.length) (i:=i) (fs:=fs) hi
    rwa [Z1] at this
   have hat:mr i [] (some ((s.bF++qq).map enc))=some (enc s.bF[i]):=by
    simp only[mr,zz3,Y8 hi,Y7 hi,Z7,oL,yn]
   have hat2:=Hf hi';have hst:=fun A rest c v=>Yw (A:=A) (n:=133) (rest:=rest) (c:=c) (v:=v) hi';simp only[CC _ _ _ _ hi] at hst;have ht:=tU (a:=s.av) (h:=s.here) (s:=s.dC) hone (wP s.bn);have hf:∀ ts os,aj os 133=some (.box (.agg (((s.bF.modify i fun r => { r with c9:=true })++qq).map enc)))→bh true (au ts os) (gB s.av (enc s.here) s.dC (.view 133 [] 4 0 s.bF.length) (enc s.bn))=some (enc ({ s with bF:=s.bF.modify i fun r => { r with c9:=true } } : cd)):=fun ts os J =>
    tV (rs:=s.bF.modify i fun r => { r with c9:=true }) (o6 (esz:=4) (S:=[133]) (os:=os) rfl (.inr ⟨133,qq,zz7.2 rfl,by rw[List.length_modify],J⟩) fun _ _=>rfl) (by simp only[lI])
   have R:=y6 @hrow (y6 @hof (y6 @hv (y6 @hat (y6 @hat2 (y6 @hst (y6 @ho4 (y6 @ht (y6 @hf (y6 @hok (y6 @ky (y6 @cL (y6 @bq aH))))))))))))
   repeat' ((first |(with_reducible refine .guard (fun hb =>?_) (fun hb =>?_) <;>try simp only[hb])|refine ae.aJ (by decide +kernel) rfl fun K hK =>?_|(refine .aA [0,1,2,3,4,5,6,7,8,45,46,54,63,73,91,117,128,141,144,149,161,186,190,197] hK ?_;clear hK K)|(with_reducible refine .done (hK _ ?_);clear hK K)|refine ae.of rfl ?_|(with_reducible refine aC.aI (fun h =>?_) (fun h =>?_) <;>try simp only[h])) <;>try simp only[aK,R,Z9,simprocAttr])
   all_goals clear R
theorem Gr(s:cd)(x:bg)(ab:jK s)(hk:x.kind=5):bf Tryz.prog 76 [enc s,enc x] (.tuple [enc (cH s x).1,enc (cH s x).2]):=by
 refine bf.b9 Tryz.func76 mu mw mz (u8 rfl) (fun hwf W0 bH E1 =>?_);simp only[lF,lZ,bN,Z1];clear hwf;refine mQ _ _ s x ab.ao ?_;unfold kE;have hk1:(x.kind==1)=false:=by rw[hk];rfl
 have hk2:(x.kind==2)=false:=by rw[hk];rfl
 have hk3:(x.kind==3)=false:=by rw[hk];rfl
 have hk4:(x.kind==4)=false:=by rw[hk];rfl
 have hk5:(x.kind==5)=true:=by rw[hk];rfl
 rcases fZ (gY s x) with q | q
 ·rw[show cH s x=(s,false) by simp only[cH,hk,q];rfl];have R:=y6 @hk1 (y6 @hk2 (y6 @hk3 (y6 @hk4 (y6 @hk5 (y6 @q (y6 @cL (y6 @bq aH)))))))
  repeat' ((first |(with_reducible refine .guard (fun hb =>?_) (fun hb =>?_) <;>try simp only[hb])|refine ae.aJ (by decide +kernel) rfl fun K hK =>?_|(refine .aA [0,1,2,3,4,5,6,7,8,45,46,54,63,73,91,117,128,141,144,149,161,186,190,197] hK ?_;clear hK K)|(with_reducible refine .done (hK _ ?_);clear hK K)|refine ae.of rfl ?_|(with_reducible refine aC.aI (fun h =>?_) (fun h =>?_) <;>try simp only[h])) <;>try simp only[aK,R,simprocAttr])
  all_goals clear R
 ·obtain ⟨i,hi,J,U,ah,ar⟩:=wz q;rw[show cH s x=(iZ s i,true) by simp only[cH,hk,q,ah];rfl];have hF:=xP s i hi ab.ao;have R:=y6 @hk1 (y6 @hk2 (y6 @hk3 (y6 @hk4 (y6 @hk5 (y6 @q (y6 @U (y6 @cL (y6 @bq aH))))))))
  repeat' ((first |(with_reducible refine .guard (fun hb =>?_) (fun hb =>?_) <;>try simp only[hb])|refine ae.aJ (by decide +kernel) rfl fun K hK =>?_|refine .lead _ (hF) ?_|(refine .aA [0,1,2,3,4,5,6,7,8,45,46,54,63,73,91,117,128,141,144,149,161,186,190,197] hK ?_;clear hK K)|(with_reducible refine .done (hK _ ?_);clear hK K)|refine ae.of rfl ?_|(with_reducible refine aC.aI (fun h =>?_) (fun h =>?_) <;>try simp only[h])) <;>try simp only[aK,R,simprocAttr])
  all_goals clear R
theorem Gs(s:cd)(x:bg)(ab:jK s)(hk:x.kind=6):bf Tryz.prog 76 [enc s,enc x] (.tuple [enc (cH s x).1,enc (cH s x).2]):=by
 refine bf.b9 Tryz.func76 mu mw mz (u8 rfl) (fun hwf W0 bH E1 =>?_);simp only[lF,lZ,bN,Z1];clear hwf;refine mQ _ _ s x ab.ao ?_;unfold kE;have hk1:(x.kind==1)=false:=by rw[hk];rfl
 have hk2:(x.kind==2)=false:=by rw[hk];rfl
 have hk3:(x.kind==3)=false:=by rw[hk];rfl
 have hk4:(x.kind==4)=false:=by rw[hk];rfl
 have hk5:(x.kind==5)=false:=by rw[hk];rfl
 have hk6:(x.kind==6)=true:=by rw[hk];rfl
 rcases fZ (gY s x) with q | q
 ·rw[show cH s x=(s,false) by simp only[cH,hk,q];rfl];have R:=y6 @hk1 (y6 @hk2 (y6 @hk3 (y6 @hk4 (y6 @hk5 (y6 @hk6 (y6 @q (y6 @cL (y6 @bq aH))))))))
  repeat' ((first |(with_reducible refine .guard (fun hb =>?_) (fun hb =>?_) <;>try simp only[hb])|refine ae.aJ (by decide +kernel) rfl fun K hK =>?_|(refine .aA [0,1,2,3,4,5,6,7,8,45,46,54,63,73,91,117,128,141,144,149,161,186,190,197] hK ?_;clear hK K)|(with_reducible refine .done (hK _ ?_);clear hK K)|refine ae.of rfl ?_|(with_reducible refine aC.aI (fun h =>?_) (fun h =>?_) <;>try simp only[h])) <;>try simp only[aK,R,simprocAttr])
  all_goals clear R
 ·obtain ⟨i,hi,J,U,ah,ar⟩:=wz q;have he:=fun A=>fb (A:=A) 4 hi rfl;rcases fZ (s.bF[i]).c9 with q2 | q2
  ·rw[show cH s x=(s,false) by simp only[cH,hk,q,ar,q2];rfl];have R:=y6 @hk1 (y6 @hk2 (y6 @hk3 (y6 @hk4 (y6 @hk5 (y6 @hk6 (y6 @q (y6 @U (y6 @he (y6 @q2 (y6 @cL (y6 @bq aH)))))))))))
   repeat' ((first |(with_reducible refine .guard (fun hb =>?_) (fun hb =>?_) <;>try simp only[hb])|refine ae.aJ (by decide +kernel) rfl fun K hK =>?_|(refine .aA [0,1,2,3,4,5,6,7,8,45,46,54,63,73,91,117,128,141,144,149,161,186,190,197] hK ?_;clear hK K)|(with_reducible refine .done (hK _ ?_);clear hK K)|refine ae.of rfl ?_|(with_reducible refine aC.aI (fun h =>?_) (fun h =>?_) <;>try simp only[h])) <;>try simp only[aK,R,simprocAttr])
   all_goals clear R
  ·rw[show cH s x=({ iZ s i with here:=ej s.here x.aD },true) by simp only[cH,hk,q,ah,ar,q2];rfl];have hF:=xP s i hi ab.ao;have hF2:=rY s.here x.aD ab.bC;have R:=y6 @hk1 (y6 @hk2 (y6 @hk3 (y6 @hk4 (y6 @hk5 (y6 @hk6 (y6 @q (y6 @U (y6 @he (y6 @q2 (y6 @cL (y6 @bq aH)))))))))))
   repeat' ((first |(with_reducible refine .guard (fun hb =>?_) (fun hb =>?_) <;>try simp only[hb])|refine ae.aJ (by decide +kernel) rfl fun K hK =>?_|refine .lead _ (hF) ?_|refine .lead _ (hF2) ?_|(refine .aA [0,1,2,3,4,5,6,7,8,45,46,54,63,73,91,117,128,141,144,149,161,186,190,197] hK ?_;clear hK K)|(with_reducible refine .done (hK _ ?_);clear hK K)|refine ae.of rfl ?_|(with_reducible refine aC.aI (fun h =>?_) (fun h =>?_) <;>try simp only[h])) <;>try simp only[aK,R,simprocAttr])
   all_goals clear R
theorem Gt(s:cd)(x:bg)(ab:jK s)(hk:x.kind=7):bf Tryz.prog 76 [enc s,enc x] (.tuple [enc (cH s x).1,enc (cH s x).2]):=by
 refine bf.b9 Tryz.func76 mu mw mz (u8 rfl) (fun hwf W0 bH E1 =>?_);simp only[lF,lZ,bN,Z1];clear hwf;refine mQ _ _ s x ab.ao ?_;unfold kE;have hk1:(x.kind==1)=false:=by simp;omega
 have hk2:(x.kind==2)=false:=by simp;omega
 have hk3:(x.kind==3)=false:=by simp;omega
 have hk4:(x.kind==4)=false:=by simp;omega
 have hk5:(x.kind==5)=false:=by simp;omega
 have hk6:(x.kind==6)=false:=by simp;omega
 have e1:cH s x=if x.other=s.av∨jd s x.other x.no≠0 then (s,false)
   else if x.kind=7 then if decide (x.aD∈s.here)||iz s x.aD then (s,false) else (gh { s with here:=ej s.here x.aD } x,true)
   else (gh s x,true):=by
  unfold cH;rw[if_neg (by omega),if_neg (by omega),if_neg (by omega),if_neg (by omega),if_neg (by omega),if_neg (by omega)]
 have hF1:=x4 s x.other x.no ab.ab;have hF2:=uk s x.aD ab.ao;have hF3:=rY s.here x.aD ab.bC;rcases fZ (x.other==s.av) with q | q
 rotate_left
 ·rw[e1,if_pos (.inl (by simpa using q))];have R:=y6 @hk1 (y6 @hk2 (y6 @hk3 (y6 @hk4 (y6 @hk5 (y6 @hk6 (y6 @q (y6 @cL (y6 @bq aH))))))))
  repeat' ((first |(with_reducible refine .guard (fun hb =>?_) (fun hb =>?_) <;>try simp only[hb])|refine ae.aJ (by decide +kernel) rfl fun K hK =>?_|(refine .aA [0,1,2,3,4,5,6,7,8,45,46,54,63,73,91,117,128,141,144,149,161,186,190,197] hK ?_;clear hK K)|(with_reducible refine .done (hK _ ?_);clear hK K)|refine ae.of rfl ?_|(with_reducible refine aC.aI (fun h =>?_) (fun h =>?_) <;>try simp only[h])) <;>try simp only[aK,R,simprocAttr])
  all_goals clear R
 rcases fZ (jd s x.other x.no != 0) with q2 | q2
 rotate_left
 ·rw[e1,if_pos (.inr (by simpa using q2))];have R:=y6 @hk1 (y6 @hk2 (y6 @hk3 (y6 @hk4 (y6 @hk5 (y6 @hk6 (y6 @q (y6 @q2 (y6 @cL (y6 @bq aH)))))))))
  repeat' ((first |(with_reducible refine .guard (fun hb =>?_) (fun hb =>?_) <;>try simp only[hb])|refine ae.aJ (by decide +kernel) rfl fun K hK =>?_|refine .flat _ (hF1) rfl ?_|(refine .aA [0,1,2,3,4,5,6,7,8,45,46,54,63,73,91,117,128,141,144,149,161,186,190,197] hK ?_;clear hK K)|(with_reducible refine .done (hK _ ?_);clear hK K)|refine ae.of rfl ?_|(with_reducible refine aC.aI (fun h =>?_) (fun h =>?_) <;>try simp only[h])) <;>try simp only[aK,R,simprocAttr])
  all_goals clear R
 rw[e1,if_neg (fun h=>h.elim (by simpa using q) (by simpa using q2))];rw[if_pos hk];have hk7:(x.kind==7)=true:=by rw[hk];rfl
 rcases fZ (decide (x.aD∈s.here)) with q3 | q3
 ·rcases fZ (iz s x.aD) with q4 | q4
  ·rw[show (if (decide (x.aD∈s.here)||iz s x.aD)=true then ((s,false):cd×Bool) else (gh { s with here:=ej s.here x.aD } x,true))=(gh { s with here:=ej s.here x.aD } x,true) by rw[q3,q4];rfl];have hF4:=xQ { s with here:=ej s.here x.aD } x ab.ab;have R:=y6 @hk1 (y6 @hk2 (y6 @hk3 (y6 @hk4 (y6 @hk5 (y6 @hk6 (y6 @hk7 (y6 @q (y6 @q2 (y6 @q3 (y6 @q4 (y6 @cL (y6 @bq aH))))))))))))
   repeat' ((first |(with_reducible refine .guard (fun hb =>?_) (fun hb =>?_) <;>try simp only[hb])|refine ae.aJ (by decide +kernel) rfl fun K hK =>?_|refine .flat _ (hF1) rfl ?_|refine .flat _ (hF2) rfl ?_|refine .lead _ (hF3) ?_|refine .lead _ (hF4) ?_|(refine .aA [0,1,2,3,4,5,6,7,8,45,46,54,63,73,91,117,128,141,144,149,161,186,190,197] hK ?_;clear hK K)|(with_reducible refine .done (hK _ ?_);clear hK K)|refine ae.of rfl ?_|(with_reducible refine aC.aI (fun h =>?_) (fun h =>?_) <;>try simp only[h])) <;>try simp only[aK,R,simprocAttr])
   all_goals clear R
  ·rw[show (if (decide (x.aD∈s.here)||iz s x.aD)=true then ((s,false):cd×Bool) else (gh { s with here:=ej s.here x.aD } x,true))=(s,false) by rw[q3,q4];rfl];have R:=y6 @hk1 (y6 @hk2 (y6 @hk3 (y6 @hk4 (y6 @hk5 (y6 @hk6 (y6 @hk7 (y6 @q (y6 @q2 (y6 @q3 (y6 @q4 (y6 @cL (y6 @bq aH))))))))))))
   repeat' ((first |(with_reducible refine .guard (fun hb =>?_) (fun hb =>?_) <;>try simp only[hb])|refine ae.aJ (by decide +kernel) rfl fun K hK =>?_|refine .flat _ (hF1) rfl ?_|refine .flat _ (hF2) rfl ?_|(refine .aA [0,1,2,3,4,5,6,7,8,45,46,54,63,73,91,117,128,141,144,149,161,186,190,197] hK ?_;clear hK K)|(with_reducible refine .done (hK _ ?_);clear hK K)|refine ae.of rfl ?_|(with_reducible refine aC.aI (fun h =>?_) (fun h =>?_) <;>try simp only[h])) <;>try simp only[aK,R,simprocAttr])
   all_goals clear R
 ·rw[show (if (decide (x.aD∈s.here)||iz s x.aD)=true then ((s,false):cd×Bool) else (gh { s with here:=ej s.here x.aD } x,true))=(s,false) by rw[q3];rfl];have R:=y6 @hk1 (y6 @hk2 (y6 @hk3 (y6 @hk4 (y6 @hk5 (y6 @hk6 (y6 @hk7 (y6 @q (y6 @q2 (y6 @q3 (y6 @cL (y6 @bq aH)))))))))))
  repeat' ((first |(with_reducible refine .guard (fun hb =>?_) (fun hb =>?_) <;>try simp only[hb])|refine ae.aJ (by decide +kernel) rfl fun K hK =>?_|refine .flat _ (hF1) rfl ?_|refine .flat _ (hF2) rfl ?_|(refine .aA [0,1,2,3,4,5,6,7,8,45,46,54,63,73,91,117,128,141,144,149,161,186,190,197] hK ?_;clear hK K)|(with_reducible refine .done (hK _ ?_);clear hK K)|refine ae.of rfl ?_|(with_reducible refine aC.aI (fun h =>?_) (fun h =>?_) <;>try simp only[h])) <;>try simp only[aK,R,simprocAttr])
  all_goals clear R
theorem Gu(s:cd)(x:bg)(ab:jK s)(hk:8≤x.kind∨x.kind<1):bf Tryz.prog 76 [enc s,enc x] (.tuple [enc (cH s x).1,enc (cH s x).2]):=by
 refine bf.b9 Tryz.func76 mu mw mz (u8 rfl) (fun hwf W0 bH E1 =>?_);simp only[lF,lZ,bN,Z1];clear hwf;refine mQ _ _ s x ab.ao ?_;unfold kE;have hk1:(x.kind==1)=false:=by simp;omega
 have hk2:(x.kind==2)=false:=by simp;omega
 have hk3:(x.kind==3)=false:=by simp;omega
 have hk4:(x.kind==4)=false:=by simp;omega
 have hk5:(x.kind==5)=false:=by simp;omega
 have hk6:(x.kind==6)=false:=by simp;omega
 have e1:cH s x=if x.other=s.av∨jd s x.other x.no≠0 then (s,false)
   else if x.kind=7 then if decide (x.aD∈s.here)||iz s x.aD then (s,false) else (gh { s with here:=ej s.here x.aD } x,true)
   else (gh s x,true):=by
  unfold cH;rw[if_neg (by omega),if_neg (by omega),if_neg (by omega),if_neg (by omega),if_neg (by omega),if_neg (by omega)]
 have hF1:=x4 s x.other x.no ab.ab;have hF2:=uk s x.aD ab.ao;have hF3:=rY s.here x.aD ab.bC;rcases fZ (x.other==s.av) with q | q
 rotate_left
 ·rw[e1,if_pos (.inl (by simpa using q))];have R:=y6 @hk1 (y6 @hk2 (y6 @hk3 (y6 @hk4 (y6 @hk5 (y6 @hk6 (y6 @q (y6 @cL (y6 @bq aH))))))))
  repeat' ((first |(with_reducible refine .guard (fun hb =>?_) (fun hb =>?_) <;>try simp only[hb])|refine ae.aJ (by decide +kernel) rfl fun K hK =>?_|(refine .aA [0,1,2,3,4,5,6,7,8,45,46,54,63,73,91,117,128,141,144,149,161,186,190,197] hK ?_;clear hK K)|(with_reducible refine .done (hK _ ?_);clear hK K)|refine ae.of rfl ?_|(with_reducible refine aC.aI (fun h =>?_) (fun h =>?_) <;>try simp only[h])) <;>try simp only[aK,R,simprocAttr])
  all_goals clear R
 rcases fZ (jd s x.other x.no != 0) with q2 | q2
 rotate_left
 ·rw[e1,if_pos (.inr (by simpa using q2))];have R:=y6 @hk1 (y6 @hk2 (y6 @hk3 (y6 @hk4 (y6 @hk5 (y6 @hk6 (y6 @q (y6 @q2 (y6 @cL (y6 @bq aH)))))))))
  repeat' ((first |(with_reducible refine .guard (fun hb =>?_) (fun hb =>?_) <;>try simp only[hb])|refine ae.aJ (by decide +kernel) rfl fun K hK =>?_|refine .flat _ (hF1) rfl ?_|(refine .aA [0,1,2,3,4,5,6,7,8,45,46,54,63,73,91,117,128,141,144,149,161,186,190,197] hK ?_;clear hK K)|(with_reducible refine .done (hK _ ?_);clear hK K)|refine ae.of rfl ?_|(with_reducible refine aC.aI (fun h =>?_) (fun h =>?_) <;>try simp only[h])) <;>try simp only[aK,R,simprocAttr])
  all_goals clear R
 rw[e1,if_neg (fun h=>h.elim (by simpa using q) (by simpa using q2))];rw[if_neg (by omega)];have hk7:(x.kind==7)=false:=by simp;omega
 have hF4:=xQ s x ab.ab;have R:=y6 @hk1 (y6 @hk2 (y6 @hk3 (y6 @hk4 (y6 @hk5 (y6 @hk6 (y6 @hk7 (y6 @q (y6 @q2 (y6 @cL (y6 @bq aH))))))))))
 repeat' ((first |(with_reducible refine .guard (fun hb =>?_) (fun hb =>?_) <;>try simp only[hb])|refine ae.aJ (by decide +kernel) rfl fun K hK =>?_|refine .flat _ (hF1) rfl ?_|refine .lead _ (hF4) ?_|(refine .aA [0,1,2,3,4,5,6,7,8,45,46,54,63,73,91,117,128,141,144,149,161,186,190,197] hK ?_;clear hK K)|(with_reducible refine .done (hK _ ?_);clear hK K)|refine ae.of rfl ?_|(with_reducible refine aC.aI (fun h =>?_) (fun h =>?_) <;>try simp only[h])) <;>try simp only[aK,R,simprocAttr])
 all_goals clear R
theorem Gl(s:cd)(x:bg)(ab:jK s):bf Tryz.prog 76 [enc s,enc x] (.tuple [enc (cH s x).1,enc (cH s x).2]):=by
 by_cases J:x.kind=1;· exact Gm s x ab J
 by_cases U:x.kind=2;· exact Gn s x ab U
 by_cases ah:x.kind=3;· exact Gp s x ab ah
 by_cases ar:x.kind=4;· exact Gq s x ab ar
 by_cases h5:x.kind=5;· exact Gr s x ab h5
 by_cases h6:x.kind=6;· exact Gs s x ab h6
 by_cases h7:x.kind=7;· exact Gt s x ab h7
 exact Gu s x ab (by omega)
theorem Dd:∀ (l:List Int) (n:Int),(ej l n).length≤l.length+1
 | [],n=>by simp[ej]
 |x::l,n=>by
  have:=Dd l n;simp only[ej];split
  ·simp only[zy5];omega
  ·split <;>simp
theorem VU(l:List Int)(n:Int):(gW l n).length≤l.length:=List.length_filter_le _ _
theorem Mi(s:cd)(i:Nat):(iZ s i).bF.length≤s.bF.length:=by
 simp only[iZ,Z6,zz8,List.length_drop];omega
structure kF (s:cd) (i:Nat):Prop where
 ao:s.bF.length≤i
 bC:s.here.length≤i
 ab:s.bn.length≤i
 aW:0≤s.dC
 J:s.dC≤i
theorem kF.small{s:cd}{i:Nat}(h:kF s i)(hi:i≤1000):jK s:=by
 obtain ⟨J,U,ah,ar,h5⟩:=h;exact ⟨by omega,by omega,by omega,ar,by omega⟩
theorem kF.next{s:cd}{i:Nat}(h:kF s i)(x:bg)(ht:(cH s x).2=true):kF (cH s x).1 (i+1):=by
 obtain ⟨J,U,ah,ar,h5⟩:=h;have hp:=Dd s.here x.aD;have hq:=VU s.here x.aD;have he:=Mi s (atR s x);have hm:(s.bF.modify (atR s x) fun r => { r with c9:=true }).length=s.bF.length:=List.length_modify ..;have e1:(iZ s (atR s x)).here=s.here:=rfl;have e2:(iZ s (atR s x)).bn=s.bn:=rfl;have e3:(iZ s (atR s x)).dC=s.dC:=rfl;unfold cH at ht ⊢;split at ht
 ·rename_i hk;rw[if_pos hk];split at ht
  ·cases ht
  ·rename_i h;rw[if_neg h];exact ⟨by simp only;omega,by simp only;omega,by simp only;omega,ar,by simp only;omega⟩
 rename_i hk;rw[if_neg hk];clear hk;split at ht
 ·rename_i hk;rw[if_pos hk];exact ⟨by simp only;omega,by simp only;omega,by simp only;omega,ar,by simp only;omega⟩
 rename_i hk;rw[if_neg hk];clear hk;split at ht
 ·rename_i hk;rw[if_pos hk];split at ht
  ·cases ht
  ·rename_i h;rw[if_neg h];have:x.no=s.dC+1:=Classical.byContradiction fun hn=>h (.inr (.inr hn));exact ⟨by simp only[Z6,List.length_singleton];omega,by simp only;omega,by simp only;omega,by simp only;omega,by simp only;omega⟩
 rename_i hk;rw[if_neg hk];clear hk;split at ht
 ·rename_i hk;rw[if_pos hk];split at ht
  ·rename_i h;rw[if_pos h];exact ⟨by simp only[List.length_modify];omega,by simp only;omega,by simp only;omega,ar,by simp only;omega⟩
  ·cases ht
 rename_i hk;rw[if_neg hk];clear hk;split at ht
 ·rename_i hk;rw[if_pos hk];split at ht
  ·rename_i h;rw[if_pos h];exact ⟨by simp only;omega,by simp only[e1];omega,by simp only[e2];omega,by simp only[e3];omega,by simp only[e3];omega⟩
  ·cases ht
 rename_i hk;rw[if_neg hk];clear hk;split at ht
 ·rename_i hk;rw[if_pos hk];split at ht
  ·rename_i h;rw[if_pos h];exact ⟨by simp only;omega,by simp only;omega,by simp only[e2];omega,by simp only[e3];omega,by simp only[e3];omega⟩
  ·cases ht
 rename_i hk;rw[if_neg hk];clear hk;split at ht
 ·cases ht
 rename_i hk;rw[if_neg hk];clear hk;split at ht
 ·rename_i hk;rw[if_pos hk];split at ht
  ·cases ht
  ·rename_i h;rw[if_neg h];exact ⟨by simp only[gh];omega,by simp only[gh];omega,by simp only[gh,Z6,List.length_singleton];omega,ar,by simp only[gh];omega⟩
 ·rename_i hk;rw[if_neg hk];exact ⟨by simp only[gh];omega,by simp only[gh];omega,by simp only[gh,Z6,List.length_singleton];omega,ar,by simp only[gh];omega⟩
def ep(s:cd):List bg→cd×Bool
 | []=>(s,true)
 |x::l=>if eJ x then (if (cH s x).2 then ep (cH s x).1 l else (s,false)) else (s,false)
def hd(av:Int):cd:=⟨av,[],0,[],[]⟩
def rI(av:Int):I:=.agg [.int .i64 av,.nils 1,.int .i64 0,.nils 4,.nils 4]
theorem HN(av:Int):(dO [.int .i64 0,.nils 1,.int .i64 0,.nils 4,.nils 4] [(0,.int .i64 av)]).map I.agg=some (rI av):=by simp[dO,I.bU,I.size];rfl
def rV(b:I)(s:cd):Prop:=(b=rI s.av∧s=hd s.av)∨b=enc s
theorem rV.AN{b:I}{s:cd}(h:rV b s):b7 (some 5) b=true∧(∀ aN A,bh aN A b=some (enc s))∧(∀ A n rest (q:cd),dp A (some 5) n [] b (enc q) rest (some b)=az rest (A.aV n (.box (enc q))))∧(∀ A n rest x y,dp A (some 5) n [] (.agg [.int .i64 x,.nils 1,.int .i64 y,.nils 4,.nils 4]) b rest (some (.agg [.int .i64 x,.nils 1,.int .i64 y,.nils 4,.nils 4]))=az rest (A.aV n (.box b)))∧b.bU=true∧(∀ p,b.only p=true):=by
 rcases h with ⟨rfl,U⟩ | rfl
 ·refine ⟨rfl,fun aN A =>?_,fun A n rest q =>?_,fun A n rest x y=>dP rfl rfl rfl,rfl,fun _=>rfl⟩
  ·rw[U];simp only[rI,bh,b6];rfl
  ·rw[dP (ev _) (by rw[fq];rfl) ((eQ _).trans rfl),oj]
 ·refine ⟨by rw[fq];rfl,fun aN A=>by simp only[lI],fun A n rest q =>?_,fun A n rest x y =>?_,ev _,fun _=>cJ _ _⟩
  ·rw[dP (ev _) (by rw[fq];rfl) ((eQ _).trans (eQ _).symm),oj]
  ·rw[dP (ev _) (by rw[fq];rfl) (eQ _),oj]
def uw(p:bo)(n:Nat)(t:Nat×I×cd):ai:=au [(0,enc p),(1,.int .i64 n),(2,.ptr 2 []),(4,.ptr 4 []),(5,.bool false),(6,.ptr 6 []),(7,.int .i64 t.1)] [(6,.box t.2.1),(4,.box (.agg [.int .i64 0,.nils 1,.int .i64 0,.nils 4,.nils 4])),(2,.box (enc p))]
theorem Gg(p:bo)(n:Nat)(hn:n≤p.j.length)(ao:n≤200):bf Tryz.prog 65 [enc p,enc (n:Int)] (.tuple [enc (ep (hd p.av) (p.j.take n)).1,enc (ep (hd p.av) (p.j.take n)).2]):=by
 refine bf.b9 Tryz.func65 IC JA KM (u8 rfl) (fun hwf W0 bH E1 =>?_);simp only[zi,D0,bN,Z1];clear hwf;generalize hL:p.j.take n=L;have hLl:L.length=n:=by rw[←hL,zz8];omega
 obtain ⟨z1,z2,z3,z4,z5,z6⟩:=rV.AN (b:=rI p.av) (s:=hd p.av) (.inl ⟨rfl,rfl⟩);have R:=y6 @HN (y6 @z4 (y6 @cL (y6 @eL (y6 @bq aH))))
 repeat' ((first |refine ae.aJ (by decide +kernel) rfl fun K hK =>?_|(refine .aA [0,1,2,4,5,6,7,8,9,15,24,37] hK ?_;clear hK K)|(with_reducible refine .done (hK _ ?_);clear hK K)|refine ae.of rfl ?_|(with_reducible refine aC.aI (fun h =>?_) (fun h =>?_) <;>try simp only[h])) <;>try simp only[aK,R,simprocAttr])
 all_goals clear R
 refine ae.loop (uw p n) (fun t=>t.1≤n∧ep (hd p.av) L=ep t.2.2 (L.drop t.1)∧kF t.2.2 t.1∧rV t.2.1 t.2.2) (fun t=>n-t.1) (0,rI p.av,hd p.av) ⟨zx1 _,rfl,⟨zx1 _,zx1 _,zx1 _,Int.le_refl _,Int.le_refl _⟩,.inl ⟨rfl,rfl⟩⟩ ?_ ?_
 ·simp only[uw];clear z1 z2 z3 z4 z5 hL;refine bB.dF ?_ ?_ ?_ ?_ <;>simp[*,cC,dq,cO,cR,aw,cz,dX,I.only,I.ct,aq.only,cJ]
 clear z1 z2 z3 z4 z5 z6;rintro ⟨i,b,s⟩ ⟨hi,hr,hu,hb0⟩;simp only at hi hr hu hb0;obtain ⟨z1,z2,z3,z4,z5,z6⟩:=hb0.AN;simp only[uw];by_cases hlt:i<n
 ·have hc:=gX hlt;have hij:i<p.j.length:=by omega
  have he:=fun A=>fb (A:=A) 4 hij rfl;have hw:=gK (i:=i) (by omega);have hx:L.drop i=p.j[i]::L.drop (i+1):=by
   have U:i<L.length:=by omega
   rw[List.drop_eq_getElem_cons U]
   congr 1
   subst hL;rw[List.getElem_take]
  rw[hx] at hr;obtain ⟨x,hxe⟩:∃ x,x=p.j[i]:=⟨_,rfl⟩
  rw[←hxe] at he hr;have hF1:=F2 x;have hF2:=Gl s x (hu.small (by omega));rcases fZ (eJ x) with q | q
  ·rw[hr,show ep s (x::L.drop (i+1))=(s,false) by simp only[ep,q];rfl];rw[q] at hF1;have R:=y6 @hc (y6 @he (y6 @z1 (y6 @z2 (y6 @z4 (y6 @cL (y6 @eL (y6 @bq aH)))))))
   repeat' ((first |refine ae.aJ (by decide +kernel) rfl fun K hK =>?_|refine .flat _ (hF1) rfl ?_|(refine .aA [0,1,2,4,5,6,7,8,9,15,24,37] hK ?_;clear hK K)|(with_reducible refine .done (hK _ ?_);clear hK K)|refine ae.of rfl ?_|(with_reducible refine aC.aI (fun h =>?_) (fun h =>?_) <;>try simp only[h])) <;>try simp only[aK,R,simprocAttr])
   all_goals clear R
  ·rw[q] at hF1;rcases fZ (cH s x).2 with q2 | q2
   ·rw[hr,show ep s (x::L.drop (i+1))=(s,false) by simp only[ep,q,q2];rfl];rw[q2] at hF2;have R:=y6 @hc (y6 @he (y6 @z1 (y6 @z2 (y6 @z4 (y6 @cL (y6 @eL (y6 @bq aH)))))))
    repeat' ((first |refine ae.aJ (by decide +kernel) rfl fun K hK =>?_|refine .flat _ (hF1) rfl ?_|refine .lead _ (hF2) ?_|(refine .aA [0,1,2,4,5,6,7,8,9,15,24,37] hK ?_;clear hK K)|(with_reducible refine .done (hK _ ?_);clear hK K)|refine ae.of rfl ?_|(with_reducible refine aC.aI (fun h =>?_) (fun h =>?_) <;>try simp only[h])) <;>try simp only[aK,R,simprocAttr])
    all_goals clear R
   ·have hu':=hu.next x q2
    have hr':ep (hd p.av) L=ep (cH s x).1 (L.drop (i+1)):=by rw[hr];simp only[ep,q,q2,if_true]
    rw[q2] at hF2;have R:=y6 @hc (y6 @he (y6 @hw (y6 @z1 (y6 @z2 (y6 @z3 (y6 @cL (y6 @eL (y6 @bq aH))))))))
    repeat' ((first |refine ae.aJ (by decide +kernel) rfl fun K hK =>?_|refine .flat _ (hF1) rfl ?_|refine .lead _ (hF2) ?_|(refine .aA [0,1,2,4,5,6,7,8,9,15,24,37] hK ?_;clear hK K)|(with_reducible refine .done (hK _ ?_);clear hK K)|refine ae.of rfl ?_|(with_reducible refine aC.aI (fun h =>?_) (fun h =>?_) <;>try simp only[h])) <;>try simp only[aK,R,simprocAttr])
    all_goals clear R
    refine ⟨(i+1,enc (cH s x).1,(cH s x).1),⟨by simp only;omega,hr',hu',.inr rfl⟩,by simp only;omega,?_⟩;simp only;clear hr hr' z1 z2 z3 z4 z5 z6;refine bB.dF ?_ ?_ ?_ ?_ <;>simp[cC,dq,cO,cR,aw,cz,dX,I.only,I.ct,aq.only,cJ]
 ·have hc:=hP hlt;have af:L.drop i=[]:=List.drop_eq_nil_of_le (by omega);rw[hr,af,show ep s []=(s,true) from rfl];have R:=y6 @hc (y6 @z1 (y6 @z2 (y6 @z4 (y6 @cL (y6 @eL (y6 @bq aH))))))
  repeat' ((first |refine ae.aJ (by decide +kernel) rfl fun K hK =>?_|(refine .aA [0,1,2,4,5,6,7,8,9,15,24,37] hK ?_;clear hK K)|(with_reducible refine .done (hK _ ?_);clear hK K)|refine ae.of rfl ?_|(with_reducible refine aC.aI (fun h =>?_) (fun h =>?_) <;>try simp only[h])) <;>try simp only[aK,R,simprocAttr])
  all_goals clear R
def jT(p:bo):cd:=(ep (hd p.av) p.j).1
def eI(p:bo):Int:=if cG 0 5 p.av=true∧p.j.length≤200∧cG 0 p.j.length p.cq=true∧(ep (hd p.av) p.j).2=true then 0 else 91
theorem F3(p:bo):bf Tryz.prog 24 [enc p] (enc (eI p)):=by
 refine bf.b9 Tryz.func24 Il Jl Kx (u8 rfl) (fun hwf W0 bH E1 =>?_);simp only[yX,DL,bN];clear hwf;have hF1:=xZ p.av;have hF2:=r2 p.cq 0 p.j.length;rcases fZ (cG 0 5 p.av) with q | q
 ·rw[show eI p=91 from if_neg fun h=>by rw[q] at h;cases h.1];rw[q] at hF1;have R:=y6 @cL (y6 @eL aH)
  repeat' ((first |(with_reducible refine .guard (fun hb =>?_) (fun hb =>?_) <;>try simp only[hb])|refine ae.aJ (by decide +kernel) rfl fun K hK =>?_|refine .flat _ (hF1) rfl ?_|(refine .aA [0,1,2,4,23,33] hK ?_;clear hK K)|(with_reducible refine .done (hK _ ?_);clear hK K)|refine ae.of rfl ?_|(with_reducible refine aC.aI (fun h =>?_) (fun h =>?_) <;>try simp only[h])) <;>try simp only[aK,R,simprocAttr])
  all_goals clear R
 rw[q] at hF1;rcases fZ (decide ((p.j.length:Int)>200)) with q2 | q2
 rotate_left
 ·rw[show eI p=91 from if_neg fun h=>by have:=h.2.1;have:=of_decide_eq_true q2;omega];have R:=y6 @q2 (y6 @cL (y6 @eL aH))
  repeat' ((first |(with_reducible refine .guard (fun hb =>?_) (fun hb =>?_) <;>try simp only[hb])|refine ae.aJ (by decide +kernel) rfl fun K hK =>?_|refine .flat _ (hF1) rfl ?_|(refine .aA [0,1,2,4,23,33] hK ?_;clear hK K)|(with_reducible refine .done (hK _ ?_);clear hK K)|refine ae.of rfl ?_|(with_reducible refine aC.aI (fun h =>?_) (fun h =>?_) <;>try simp only[h])) <;>try simp only[aK,R,simprocAttr])
  all_goals clear R
 have U:p.j.length≤200:=by have:=of_decide_eq_false q2;omega
 rcases fZ (cG 0 p.j.length p.cq) with q3 | q3
 ·rw[show eI p=91 from if_neg fun h=>by rw[q3] at h;cases h.2.2.1];rw[q3] at hF2;have R:=y6 @q2 (y6 @cL (y6 @eL aH))
  repeat' ((first |(with_reducible refine .guard (fun hb =>?_) (fun hb =>?_) <;>try simp only[hb])|refine ae.aJ (by decide +kernel) rfl fun K hK =>?_|refine .flat _ (hF1) rfl ?_|refine .flat _ (hF2) rfl ?_|(refine .aA [0,1,2,4,23,33] hK ?_;clear hK K)|(with_reducible refine .done (hK _ ?_);clear hK K)|refine ae.of rfl ?_|(with_reducible refine aC.aI (fun h =>?_) (fun h =>?_) <;>try simp only[h])) <;>try simp only[aK,R,simprocAttr])
  all_goals clear R
 rw[q3] at hF2;have hF:=Gg p p.j.length (Z3 _) U;rw[List.take_length] at hF;rcases fZ (ep (hd p.av) p.j).2 with q4 | q4
 ·rw[show eI p=91 from if_neg fun h=>by rw[q4] at h;cases h.2.2.2];rw[q4] at hF;have R:=y6 @q2 (y6 @cL (y6 @eL aH))
  repeat' ((first |(with_reducible refine .guard (fun hb =>?_) (fun hb =>?_) <;>try simp only[hb])|refine ae.aJ (by decide +kernel) rfl fun K hK =>?_|refine .flat _ (hF1) rfl ?_|refine .flat _ (hF2) rfl ?_|refine .lead _ (hF) ?_|(refine .aA [0,1,2,4,23,33] hK ?_;clear hK K)|(with_reducible refine .done (hK _ ?_);clear hK K)|refine ae.of rfl ?_|(with_reducible refine aC.aI (fun h =>?_) (fun h =>?_) <;>try simp only[h])) <;>try simp only[aK,R,simprocAttr])
  all_goals clear R
 ·rw[show eI p=0 from if_pos ⟨q,U,q3,q4⟩];rw[q4] at hF;have R:=y6 @q2 (y6 @cL (y6 @eL aH))
  repeat' ((first |(with_reducible refine .guard (fun hb =>?_) (fun hb =>?_) <;>try simp only[hb])|refine ae.aJ (by decide +kernel) rfl fun K hK =>?_|refine .flat _ (hF1) rfl ?_|refine .flat _ (hF2) rfl ?_|refine .lead _ (hF) ?_|(refine .aA [0,1,2,4,23,33] hK ?_;clear hK K)|(with_reducible refine .done (hK _ ?_);clear hK K)|refine ae.of rfl ?_|(with_reducible refine aC.aI (fun h =>?_) (fun h =>?_) <;>try simp only[h])) <;>try simp only[aK,R,simprocAttr])
  all_goals clear R
end Go.Proofs.YthbdbocionnfgaaGreatDoor
namespace Go.Proofs.YthbdbocionnfgaaGreatDoor
open Go Go.Abs
theorem Cx(l:List Int)(n b:Int):b∈ej l n↔b=n∨b∈l:=by
 induction l with
 |nil=>simp[ej]
 |cons x l ih =>
  simp only[ej];split
  ·simp only[zx3,ih];constructor
   ·rintro (h | h | h) <;>simp[h]
   ·rintro (h | h | h) <;>simp[h]
  ·split
   ·rename_i h;subst h;simp
   ·simp
theorem XJ{l:List Int}(h:l.Pairwise (· < ·))(n:Int):(ej l n).Pairwise (· < ·):=by
 induction l with
 |nil=>simp[ej]
 |cons x l ih =>
  obtain ⟨J,U⟩:=List.pairwise_cons.1 h;simp only[ej];split
  ·refine List.pairwise_cons.2 ⟨fun a ha =>?_,ih U⟩;rcases (Cx l n a).1 ha with rfl | ha
   ·assumption
   ·exact J a ha
  ·split
   ·exact h
   ·refine List.pairwise_cons.2 ⟨fun a ha =>?_,h⟩;rcases zx3.1 ha with rfl | ha
    ·omega
    ·have:=J a ha;omega
theorem V8(l:List Int)(n b:Int):b∈gW l n↔b∈l∧b≠n:=by simp[gW]
theorem VV{l:List Int}(h:l.Pairwise (· < ·))(n:Int):(gW l n).Pairwise (· < ·):=h.filter _
def rG(x:bg):hh:=⟨x.kind,x.other,x.no,x.aD⟩
structure ec (s:aB) (t:cd):Prop where
 av:t.av=s.av
 here:∀ b,b∈t.here↔b∈s.here
 pP:t.here.Pairwise (· < ·)
 dC:t.dC=s.all.length
 bF:t.bF=s.bF
 bn:t.bn=s.bn.map rG
 nL:∀ x∈s.bn,x.kind≠0
 no:∀ i,i<s.all.length→(s.bJ i).no=(i:Int)+1
 cv:s.aQ.Pairwise (· < ·)
 ok:cu s
theorem ec.zero(av:Int):ec (eN av) (hd av):=⟨rfl,fun b=>by simp[eN,hd],by simp[hd],rfl,rfl,rfl,fun x hx=>by simp[eN] at hx,fun i hi=>by simp[eN] at hi,by simp[eN],kj av⟩
theorem ec.LU{s:aB}{t:cd}(h:ec s t)(b:Int):decide (b∈t.here)=decide (b∈s.here):=by simp only[h.here]
theorem ec.Hi{s:aB}{t:cd}(h:ec s t)(b:Int):iz t b=s.fg b:=by simp only[iz,aB.fg,h.bF]
theorem ec.VH{s:aB}{t:cd}(h:ec s t)(x:bg):(jd t x.other x.no≠0)↔fI x∈s.dU:=by
 have hk:=h.nL;simp only[jd,h.bn,aB.dU];revert hk;generalize s.bn=l;intro hk
 induction l with
 |nil=>simp
 |cons y l ih =>
  have ih':=ih fun z hz=>hk z (List.mem_cons_of_mem _ hz);simp only[Z4,List.find?_cons,zx3];by_cases e:(rG y).dc=x.other∧(rG y).no=x.no
  ·rw[decide_eq_true e];simp only;have e2:fI x=fI y:=by
    simp only[rG] at e;simp only[fI,e.1,e.2]
   exact ⟨fun _=>.inl e2,fun _=>hk y List.mem_cons_self⟩
  ·rw[decide_eq_false e];refine Iff.trans ih' ?_;constructor
   ·exact .inr
   ·rintro (h | h)
    ·exfalso;apply e
     simp only[fI,nt.mk.injEq] at h;simp only[rG,h.1,h.2,and_self]
    ·exact h
theorem ec.YQ{s:aB}{t:cd}(h:ec s t)(x:bg):(s.unknown x=true)↔¬ (x.other=t.av∨jd t x.other x.no≠0):=by
 rw[h.VH,h.av];simp only[aB.unknown,t8,bne_iff_ne,ne_eq,Bool.not_eq_true',decide_eq_false_iff_not,not_or]
theorem ec.bN{s:aB}{t:cd}(h:ec s t)(no:Int):(s.at no=none∧jx t no=none)∨∃ k,∃ hk:k<s.aQ.length,s.at no=some s.aQ[k]∧jx t no=some k:=by
 have hno:∀ i∈s.aQ,(s.bJ i).no=(i:Int)+1:=fun i hi=>h.no i (h.ok.cv i hi);simp only[aB.at,jx,h.bF,aB.bF];revert hno;generalize s.aQ=l;intro hno
 induction l with
 |nil=>exact .inl ⟨rfl,rfl⟩
 |cons i l ih =>
  have hi:=hno i List.mem_cons_self;simp only[List.find?_cons,Z4,List.findIdx?_cons,hi];by_cases e:no=(i:Int)+1
  ·exact .inr ⟨0,by simp,by simp[e],by simp[e]⟩
  ·have e':¬ (i:Int)+1=no:=fun h=>e h.symm;rw[decide_eq_false e,decide_eq_false e'];rcases ih fun j hj=>hno j (List.mem_cons_of_mem _ hj) with ⟨J,U⟩ | ⟨k,hk,J,U⟩
   ·exact .inl ⟨J,by simp[U]⟩
   ·exact .inr ⟨k+1,by simpa using hk,by simpa using J,by simp[U]⟩
theorem ec.ib{s:aB}{t:cd}(h:ec s t)(x:bg):(s.on x=none∧gY t x=false)∨∃ k,∃ hk:k<s.aQ.length,s.on x=some s.aQ[k]∧gY t x=true∧atR t x=k∧oP t x=(s.bJ s.aQ[k]).c9:=by
 rcases h.bN x.no with ⟨J,U⟩ | ⟨k,hk,J,U⟩
 ·exact .inl ⟨by simp only[aB.on,J],by simp only[gY,U]⟩
 ·have hr:t.bF[k]?=some (s.bJ s.aQ[k]):=by rw[h.bF,aB.bF,zz3,Y7 hk];rfl
  by_cases e:(s.bJ s.aQ[k]).to=x.other∧(s.bJ s.aQ[k]).aD=x.aD
  ·exact .inr ⟨k,hk,by simp only[aB.on,J,if_pos e],by simp[gY,U,hr,e.1,e.2],by simp[atR,U],by simp[oP,U,hr]⟩
  ·refine .inl ⟨by simp only[aB.on,J,if_neg e],?_⟩;simp only[gY,U,hr,Bool.and_eq_false_iff,beq_eq_false_iff_ne,ne_eq];by_cases e1:(s.bJ s.aQ[k]).to=x.other
   ·exact .inr fun e2=>e ⟨e1,e2⟩
   ·exact .inl e1
theorem Mm{l:List Nat}(h:l.Nodup)(k:Nat)(hk:k<l.length):l.erase l[k]=l.take k++l.drop (k+1):=by
 induction l generalizing k with
 |nil=>simp at hk
 |cons x l ih =>
  cases k with
  |zero=>simp
  |succ k =>
   obtain ⟨J,U⟩:=List.nodup_cons.1 h;have hk':k<l.length:=by simpa using hk
   have:¬ x=l[k]:=fun e=>J (e▸List.getElem_mem hk');simp only[List.getElem_cons_succ,zz9,List.drop_succ_cons,Z9];rw[List.erase_cons_tail (by simpa using this),ih U k hk']
theorem V7(l:List Int)(n b:Int):b∈gw l n↔b=n∨b∈l:=by
 unfold gw;split
 ·constructor
  ·exact .inr
  ·rintro (rfl | h)
   ·assumption
   ·exact h
 ·simp only[zy0,zz7];exact Or.comm
theorem Yb{s:aB}(ab:cu s)(r:dh)(h:List Int):({ s with here:=h,all:=s.all++[r],aQ:=s.aQ++[s.all.length] } : aB).bF=s.bF++[r]:=by
 simp only[aB.bF,Y6,Z4,zy1,aB.bJ]
 congr 1
 ·refine List.map_congr_left fun i hi =>?_
  show (s.all++[r]).getD i default=s.all.getD i default
  simp only[Z0,Y8 (ab.cv i hi)]
 ·simp
theorem Yc{s:aB}(ab:cu s){k:Nat}(hk:k<s.aQ.length):({ s with all:=s.all.set s.aQ[k] { s.bJ s.aQ[k] with c9:=true } } : aB).bF=s.bF.modify k fun r => { r with c9:=true } :=by
 have ao:=ab.cv;have hn:=ab.ic;refine List.ext_getElem (by simp[aB.bF]) fun j J U =>?_;have hj:j<s.aQ.length:=by simpa[aB.bF] using J
 rw[List.getElem_modify];simp only[aB.bF,List.getElem_map,aB.bJ,Z0];by_cases e:k=j
 ·subst e;rw[if_pos rfl,List.getElem?_set_self (ao _ (List.getElem_mem hk))];rfl
 ·have hne:s.aQ[k]≠s.aQ[j]:=fun e'=>e ((List.getElem_inj hn).1 e');rw[if_neg e,List.getElem?_set_ne hne]
theorem ec.AA{s:aB}{t:cd}(h:ec s t){k:Nat}(hk:k<s.aQ.length):ec { s with aQ:=s.aQ.erase s.aQ[k] } (iZ t k):=by
 have hr:(iZ t k).bF=({ s with aQ:=s.aQ.erase s.aQ[k] } : aB).bF:=by
  simp only[iZ,h.bF,aB.bF,Mm h.ok.ic k hk,Y6,List.map_take,List.map_drop];rfl
 exact ⟨h.av,h.here,h.pP,h.dC,hr,h.bn,h.nL,h.no,h.cv.sublist List.erase_sublist,⟨fun i hi=>h.ok.cv i (List.mem_of_mem_erase hi),h.ok.ic.erase _,h.ok.af⟩⟩
theorem ec.put{s:aB}{t:cd}(h:ec s t)(b:Int):ec { s with here:=gw s.here b } { t with here:=ej t.here b } :=
 ⟨h.av,fun c=>by simp only[Cx,V7,h.here],XJ h.pP b,h.dC,h.bF,h.bn,h.nL,h.no,h.cv,⟨h.ok.cv,h.ok.ic,nu h.ok.af⟩⟩
theorem ec.nN{s:aB}{t:cd}(h:ec s t)(b:Int):ec { s with here:=s.here.erase b } { t with here:=gW t.here b } :=
 ⟨h.av,fun c=>by simp only[V8,h.here,h.ok.af.mem_erase_iff];exact And.comm,VV h.pP b,h.dC,h.bF,h.bn,h.nL,h.no,h.cv,⟨h.ok.cv,h.ok.ic,h.ok.af.erase _⟩⟩
theorem ec.E8{s:aB}{t:cd}(h:ec s t){x:bg}(hx:x.kind≠0):ec { s with bn:=s.bn++[x] } (gh t x) :=
 ⟨h.av,h.here,h.pP,h.dC,h.bF,by simp only[gh,h.bn,Y6];rfl,fun y hy=>by
  rcases zy0.1 hy with hy | hy
  ·exact h.nL y hy
  ·rw[zz7.1 hy];exact hx,h.no,h.cv,⟨h.ok.cv,h.ok.ic,h.ok.af⟩⟩
theorem ec.step{s:aB}{t:cd}(h:ec s t){x:bg}(hx:eJ x=true):match di s x with
  |some s'=>(cH t x).2=true∧ec s' (cH t x).1
  |none=>(cH t x).2=false:=by
 have hk:1≤x.kind∧x.kind≤8:=by
  simp only[eJ] at hx;split at hx
  ·omega
  ·split at hx
   ·omega
   ·cases hx
 have hb:=h.here x.aD;have af:=h.LU x.aD;have ha:=h.Hi x.aD;simp only[di,cH,af,ha];by_cases k1:x.kind=1
 ·simp only[if_pos k1];by_cases c:x.aD∈s.here∨s.fg x.aD=true
  ·have c2:(decide (x.aD∈s.here)||s.fg x.aD)=true:=by simpa using c
   simp only[if_pos c,if_pos c2]
  ·have c2:¬ (decide (x.aD∈s.here)||s.fg x.aD)=true:=by simpa using c
   simp only[if_neg c,if_neg c2];exact ⟨trivial,h.put _⟩
 simp only[if_neg k1];by_cases k2:x.kind=2
 ·simp only[if_pos k2];by_cases c:x.aD∈s.here
  ·simp only[if_pos c,decide_eq_true c];exact ⟨trivial,h.nN _⟩
  ·simp only[if_neg c,decide_eq_false c]
 simp only[if_neg k2];by_cases k3:x.kind=3
 ·simp only[if_pos k3];by_cases c:x.aD∈s.here∧x.other≠s.av∧x.no=(s.all.length:Int)+1
  ·have c2:¬ (x.aD∉t.here∨x.other=t.av∨x.no≠t.dC+1):=by
    rw[hb,h.av,h.dC];rintro (c' | c' | c')
    ·exact c' c.1
    ·exact c.2.1 c'
    ·exact c' c.2.2
   simp only[if_pos c,if_neg c2];have ao:=h.nN x.aD;refine ⟨trivial,h.av,ao.here,ao.pP,by simp only[Z6,List.length_singleton,c.2.2];omega,?_,h.bn,h.nL,fun i hi =>?_,?_,?_⟩
   ·rw[Yb h.ok,h.bF]
   ·simp only[Z6,List.length_singleton] at hi;by_cases e:i<s.all.length
    ·have:=h.no i e;rw[←this];simp only[aB.bJ,Z0,Y8 e]
    ·have e2:i=s.all.length:=by omega
     subst e2;simp only[aB.bJ,Z0];simp[c.2.2]
   ·refine List.pairwise_append.2 ⟨h.cv,by simp,fun a ha b hb =>?_⟩;rw[zz7.1 hb];exact h.ok.cv a ha
   ·have hn:di s x=some { s with here:=s.here.erase x.aD,all:=s.all++[⟨x.no,x.other,x.aD,false⟩],aQ:=s.aQ++[s.all.length] } :=by
     simp only[di,if_neg k1,if_neg k2,if_pos k3,if_pos c]
    exact (h.ok.next hn).1
  ·have c2:x.aD∉t.here∨x.other=t.av∨x.no≠t.dC+1:=by
    rw[hb,h.av,h.dC];by_cases c1:x.aD∈s.here
    ·by_cases c3:x.other=s.av
     ·exact .inr (.inl c3)
     ·exact .inr (.inr fun e=>c ⟨c1,c3,e⟩)
    ·exact .inl c1
   simp only[if_neg c,if_pos c2]
 simp only[if_neg k3];by_cases k4:x.kind=4
 ·simp only[if_pos k4];rcases h.ib x with ⟨J,U⟩ | ⟨k,hk',J,U,ah,ar⟩
  ·simp only[J,U];rfl
  ·simp only[J,U,ah,ar];rcases Bool.eq_false_or_eq_true (s.bJ s.aQ[k]).c9 with c | c
   ·rw[c];rfl
   ·rw[c];refine ⟨rfl,h.av,h.here,h.pP,h.dC.trans (by simp),?_,h.bn,h.nL,fun i hi =>?_,h.cv,?_⟩
    ·show t.bF.modify k _=_
     rw[Yc h.ok hk',h.bF]
    ·have hi':i<s.all.length:=by simpa using hi
     simp only[aB.bJ,Z0,List.getElem?_set];split
     ·rename_i e;rw[if_pos (e▸hi')];simp only[Option.getD_some,e];have:=h.no i hi';simpa only[aB.bJ,Z0] using this
     ·have:=h.no i hi';simpa only[aB.bJ,Z0] using this
    ·have hn:di s x=some { s with all:=s.all.set s.aQ[k] { s.bJ s.aQ[k] with c9:=true } } :=by
      simp only[di,if_neg k1,if_neg k2,if_neg k3,if_pos k4,J,c];rfl
     exact (h.ok.next hn).1
 simp only[if_neg k4];by_cases k5:x.kind=5
 ·simp only[if_pos k5];rcases h.ib x with ⟨J,U⟩ | ⟨k,hk',J,U,ah,ar⟩
  ·simp only[J,U];rfl
  ·simp only[J,U,ah];exact ⟨rfl,h.AA hk'⟩
 simp only[if_neg k5];by_cases k6:x.kind=6
 ·simp only[if_pos k6];rcases h.ib x with ⟨J,U⟩ | ⟨k,hk',J,U,ah,ar⟩
  ·simp only[J,U];rfl
  ·simp only[J,U,ah,ar];rcases Bool.eq_false_or_eq_true (s.bJ s.aQ[k]).c9 with c | c
   ·rw[c];exact ⟨rfl,(h.AA hk').put x.aD⟩
   ·rw[c];rfl
 simp only[if_neg k6];have hu:=h.YQ x;by_cases c:x.other=t.av∨jd t x.other x.no≠0
 ·have hu':¬ s.unknown x=true:=fun bC=>hu.1 bC c;simp only[if_pos c];by_cases k7:x.kind=7
  ·rw[if_pos k7,if_neg fun bC=>hu' bC.1];trivial
  ·rw[if_neg k7,if_pos (by omega),if_neg hu'];trivial
 ·have hu':s.unknown x=true:=hu.2 c;simp only[if_neg c];by_cases k7:x.kind=7
  ·simp only[if_pos k7];by_cases c2:(decide (x.aD∈s.here)||s.fg x.aD)=true
   ·have hn:¬ (s.unknown x=true∧x.aD∉s.here∧s.fg x.aD=false):=fun bC=>by
     simp only[Bool.or_eq_true,decide_eq_true_eq] at c2;rcases c2 with c2 | c2
     ·exact bC.2.1 c2
     ·rw[bC.2.2] at c2;cases c2
    simp only[if_pos c2,if_neg hn]
   ·have c3:=c2;simp only[Bool.or_eq_true,decide_eq_true_eq,not_or,Bool.not_eq_true] at c3;have hn:s.unknown x=true∧x.aD∉s.here∧s.fg x.aD=false:=⟨hu',c3.1,c3.2⟩
    simp only[if_neg c2,if_pos hn];exact ⟨trivial,(h.put x.aD).E8 (by omega)⟩
  ·simp only[if_neg k7];rw[if_pos (by omega),if_pos hu'];exact ⟨trivial,h.E8 (by omega)⟩
theorem ec.run:∀ (l:List bg) {s:aB} {t:cd},ec s t→match fG s l with
  |some s'=>(ep t l).2=true∧ec s' (ep t l).1
  |none=>(ep t l).2=false
 | [],s,t,h=>⟨rfl,h⟩
 |x::l,s,t,h=>by
  simp only[fG,ep,fh];by_cases hx:eJ x=true
  ·have ab:=h.step hx;rw[if_pos hx,if_pos hx];cases hn:di s x with
   |none=>rw[hn] at ab;simp only at ab ⊢;rw[ab];rfl
   |some s' =>
    rw[hn] at ab;simp only at ab ⊢;rw[ab.1,if_pos rfl];exact ec.run l ab.2
  ·rw[if_neg hx,if_neg hx]
theorem qY(p:bo):match cS p with
  |some s=>eI p=0∧ec s (jT p)
  |none=>eI p=91:=by
 have hr:=ec.run p.j (ec.zero p.av);simp only[cS,fk,eI];by_cases hk:ij p=true
 ·have hk':=hk;simp only[ij,t8,decide_eq_true_eq] at hk';rw[if_pos hk];cases hq:fG (eN p.av) p.j with
  |none=>rw[hq] at hr;simp only at hr ⊢;rw[if_neg fun h=>by rw[hr] at h;cases h.2.2.2]
  |some s=>rw[hq] at hr;exact ⟨if_pos ⟨hk'.1,hk'.2.1,hk'.2.2,hr.1⟩,hr.2⟩
 ·rw[if_neg hk];refine if_neg fun h=>hk ?_;simp only[ij,t8,decide_eq_true_eq];exact ⟨h.1,h.2.1,h.2.2.1⟩
theorem Ak(p:bo):my p=eI p:=by
 have h:=qY p;simp only[my];cases ho:cS p with
 |none=>rw[ho] at h;exact h.symm
 |some s=>rw[ho] at h;exact h.1.symm
end Go.Proofs.YthbdbocionnfgaaGreatDoor
namespace Go.Proofs.YthbdbocionnfgaaGreatDoor
open Go Go.Abs
open Go.Abs.Enc (enc)
theorem EU:∀ (l:List bg) {s:cd} {i:Nat},kF s i→(ep s l).2=true→kF (ep s l).1 (i+l.length)
 | [],s,i,h,_=>h
 |x::l,s,i,h,hr=>by
  simp only[ep] at hr ⊢;split at hr
  ·split at hr
   ·rename_i J U;rw[if_pos J,if_pos U];have:=EU l (h.next x U) hr;rw[zy5,show i+(l.length+1)=i+1+l.length by omega];exact this
   ·cases hr
  ·cases hr
theorem Yz(av:Int):kF (hd av) 0:=⟨Z3 _,Z3 _,Z3 _,Int.le_refl _,Int.le_refl _⟩
theorem nz{p:bo}(h:eI p=0):cG 0 5 p.av=true∧p.j.length≤200∧cG 0 p.j.length p.cq=true∧(ep (hd p.av) p.j).2=true:=by
 simp only[eI] at h;split at h
 ·assumption
 ·cases h
theorem Wl{p:bo}(h:eI p=0):jK (jT p)∧kF (jT p) p.j.length:=by
 obtain ⟨_,U,_,ar⟩:=nz h;have:=EU p.j (Yz p.av) ar;rw[Z1] at this;exact ⟨this.small (by omega),this⟩
theorem both(p:bo):(cS p=none∧eI p=91)∨∃ s,cS p=some s∧eI p=0∧ec s (jT p)∧jK (jT p)∧p.j.length≤200:=by
 have h:=qY p;cases ho:cS p with
 |none=>rw[ho] at h;exact .inl ⟨rfl,h⟩
 |some s=>rw[ho] at h;exact .inr ⟨s,rfl,h.1,h.2,(Wl h.1).1,(nz h.1).2.1⟩
end Go.Proofs.YthbdbocionnfgaaGreatDoor
namespace Go.Proofs.YthbdbocionnfgaaGreatDoor
open Go Go.Abs Go.Shelf
open Go.Abs.Enc (enc)
def VO:Go.Shelf.Ren:=⟨fun | 171=>119 | 243=>144 | 246=>159 | 283=>170 | 284=>171 | 285=>172 | 286=>173 | 129=>143 | 317=>182 | 318=>183 | 319=>184 | 320=>185 | 337=>190 | 338=>191 | n=>n,fun | 3=>3 | 9=>9 | 2=>2 | 4=>4 | 171=>198 | 0=>0 | 53=>171 | 37=>172 | 5=>5 | 173=>200 | 212=>209 | 51=>169 | 20=>20 | 213=>210 | 46=>151 | 232=>223 | 233=>224 | n=>n,fun | 17=>3 | 18=>6 | 19=>7 | n=>n⟩
theorem VN:Go.Proofs.LaysM.n171 Tryz.prog VO := {
 mixed:=by kernel_rfl
 f129:=Tryz.func143.trans (congrArg some (by kernel_rfl))
 f171:=Tryz.func119.trans (congrArg some (by kernel_rfl))
 f243:=Tryz.func144.trans (congrArg some (by kernel_rfl))
 f246:=Tryz.func159.trans (congrArg some (by kernel_rfl))
 f283:=Tryz.func170.trans (congrArg some (by kernel_rfl))
 f284:=Tryz.func171.trans (congrArg some (by kernel_rfl))
 f285:=Tryz.func172.trans (congrArg some (by kernel_rfl))
 f286:=Tryz.func173.trans (congrArg some (by kernel_rfl))
 f317:=Tryz.func182.trans (congrArg some (by kernel_rfl))
 f318:=Tryz.func183.trans (congrArg some (by kernel_rfl))
 f319:=Tryz.func184.trans (congrArg some (by kernel_rfl))
 f320:=Tryz.func185.trans (congrArg some (by kernel_rfl))
 f337:=Tryz.func190.trans (congrArg some (by kernel_rfl))
 f338:=Tryz.func191.trans (congrArg some (by kernel_rfl))
 t0:=Tryz.underlying0
 a0:=Tryz.isAgg0
 z0:=Tryz.sizeOf0
 v0:=Tryz.zeroValue0
 t2:=Tryz.underlying2
 a2:=Tryz.isAgg2
 z2:=Tryz.sizeOf2
 v2:=Tryz.zeroValue2
 t3:=Tryz.underlying3
 a3:=Tryz.isAgg3
 z3:=Tryz.sizeOf3
 v3:=Tryz.zeroValue3
 t4:=Tryz.underlying4
 a4:=Tryz.isAgg4
 z4:=Tryz.sizeOf4
 v4:=Tryz.zeroValue4
 t5:=Tryz.underlying5
 a5:=Tryz.isAgg5
 z5:=Tryz.sizeOf5
 v5:=Tryz.zeroValue5
 t9:=Tryz.underlying9
 a9:=Tryz.isAgg9
 z9:=Tryz.sizeOf9
 v9:=Tryz.zeroValue9
 t20:=Tryz.underlying20
 a20:=Tryz.isAgg20
 z20:=Tryz.sizeOf20
 v20:=Tryz.zeroValue20
 t37:=Tryz.underlying172
 a37:=Tryz.isAgg172
 z37:=Tryz.sizeOf172
 v37:=Tryz.zeroValue172
 t46:=Tryz.underlying151
 a46:=Tryz.isAgg151
 z46:=Tryz.sizeOf151
 v46:=Tryz.zeroValue151
 t51:=Tryz.underlying169
 a51:=Tryz.isAgg169
 z51:=Tryz.sizeOf169
 v51:=Tryz.zeroValue169
 t53:=Tryz.underlying171
 a53:=Tryz.isAgg171
 z53:=Tryz.sizeOf171
 v53:=Tryz.zeroValue171
 t171:=Tryz.underlying198
 a171:=Tryz.isAgg198
 z171:=Tryz.sizeOf198
 v171:=Tryz.zeroValue198
 t173:=Tryz.underlying200
 a173:=Tryz.isAgg200
 z173:=Tryz.sizeOf200
 v173:=Tryz.zeroValue200
 t212:=Tryz.underlying209
 a212:=Tryz.isAgg209
 z212:=Tryz.sizeOf209
 v212:=Tryz.zeroValue209
 t213:=Tryz.underlying210
 a213:=Tryz.isAgg210
 z213:=Tryz.sizeOf210
 t232:=Tryz.underlying223
 a232:=Tryz.isAgg223
 z232:=Tryz.sizeOf223
 v232:=Tryz.zeroValue223
 t233:=Tryz.underlying224
 a233:=Tryz.isAgg224
 z233:=Tryz.sizeOf224
 v233:=Tryz.zeroValue224
 g17:=by kernel_rfl
 g18:=by kernel_rfl
 g19:=by kernel_rfl
 i0:=by kernel_rfl
 i2:=by kernel_rfl
 i3:=by kernel_rfl
 i4:=by kernel_rfl
 i5:=by kernel_rfl
 i9:=by kernel_rfl
 i20:=by kernel_rfl
 i37:=by kernel_rfl
 i46:=by kernel_rfl
 i51:=by kernel_rfl
 i53:=by kernel_rfl
 i171:=by kernel_rfl
 i173:=by kernel_rfl
 i212:=by kernel_rfl
 i232:=by kernel_rfl
 i233:=by kernel_rfl
 m17:=by kernel_rfl
 m18:=by kernel_rfl
 m19:=by kernel_rfl }
open Go.RowKit Go.Sort Go.Lib in
theorem strconv_Itoa (n : Int) (aW : -9223372036854775808 ≤ n) (J : n ≤ 9223372036854775807) (w : World) (htab : Lib.TabIs Tryz.prog w "internal/strconv.uint64pow10" .u64 Lib.pow10Tab) :
  Calls Tryz.prog 119 #[.int .i64 n] w fun e w'=>e=.returned (.string ⟨(Lib.itoa n).toArray⟩)∧∃ k os,w'=grow (w.drewN k) os:=Any.strconv_Itoa VN n aW J w htab
structure fj where
 b:ByteArray
 deriving DecidableEq
instance:Enc fj where
 enc s:=.bQ s.b
 sz:=1
 aX:=.one
 gH:=false
 done _:=rfl
 size _:=by simp[I.size]
 iu _:=by simp[I.aX]
 agg _:=rfl
def mG(n:Int):fj:=⟨⟨(Lib.itoa n).toArray⟩⟩
open Go.Sort Go.RowKit in
theorem yu(w:World)(k:Nat)(os:Array Obj):Go.RowKit.Below w.heap.size w (grow (w.drewN k) os) :=
 ⟨rfl,rfl,rfl,by simp,fun i hi=>by rw[heap_grow_old _ _ (by simpa using hi)];rfl⟩
theorem FI(n:Int):bf Tryz.prog 119 [enc n] (enc (mG n)):=by
 refine ⟨Ia,fun w D vs ao hD hv =>?_⟩;have hv':aF w D c4 [.int .i64 n] vs:=hv;simp only[aF] at hv';obtain ⟨v,rest,cs,rfl,J,U,rfl⟩:=hv';obtain ⟨rfl,ah,ar⟩:=eW (ju J U);have h3':-9223372036854775808≤n:=ah;have h4':n≤9223372036854775807:=ar;have hg:Tryz.prog.globalNamed wh=some 3:=by kernel_rfl
 have htab:=(ao 3 hg).2;refine (strconv_Itoa n h3' h4' w htab).mono ?_;rintro e w' ⟨rfl,k,os,rfl⟩;refine ⟨_,D,rfl,⟨[.string ⟨(Lib.itoa n).toArray⟩],by simp[bA,I.isAgg,enc],?_⟩,yu w k os,fun b o af=>Nat.lt_of_lt_of_le (hD b o af) (yu w k os).size,fun _ _ h _=>h⟩;have hlen:=Lib.itoa_length_le n h3' h4'
 show al _ _ _ (.bQ _) _
 simp only[al];refine ⟨rfl,?_⟩
 show (Lib.itoa n).toArray.size≤maxLen
 simp only[List.size_toArray,maxLen];omega
end Go.Proofs.YthbdbocionnfgaaGreatDoor
namespace Go.Proofs.YthbdbocionnfgaaGreatDoor
open Go Go.Abs
open Go.Abs.Enc (enc)
def ot:fj:=⟨⟨#[32]⟩⟩
def qU:fj:=⟨⟨#[10]⟩⟩
def jo(a b:fj):fj:=⟨a.b++b.b⟩
theorem qa(a b:fj):(jo a b).b.size=a.b.size+b.b.size:=by simp[jo]
theorem sa(a b:fj)(h:a.b.size+b.b.size≤9223372036854775807):cB .add (.bQ a.b) (.bQ b.b)=some (.bQ (jo a b).b):=by
 simp only[cB,if_pos h,jo]
theorem B4{n:Int}(h:IntKind.i64.min≤n∧n≤IntKind.i64.max):(mG n).b.size≤21:=by
 have:=Lib.itoa_length_le n h.1 h.2
 show (Lib.itoa n).toArray.size≤21
 simpa using this
def jA(w:fj)(l:List Int)(i:Nat):fj:=(l.take i).foldl (fun a n=>jo a (jo ot (mG n))) w
def mb(w:fj)(l:List Int):fj:=jo (jA w l l.length) qU
theorem EN(w:fj){l:List Int}{i:Nat}(h:i<l.length):jA w l (i+1)=jo (jA w l i) (jo ot (mG l[i])):=by
 simp only[jA,zz1 h,List.foldl_append,List.foldl_cons,List.foldl_nil]
theorem xk(w:fj){l:List Int}(ao:∀ x∈l,IntKind.i64.min≤x∧x≤IntKind.i64.max):∀ i,i≤l.length→(jA w l i).b.size≤w.b.size+22*i
 |0,_=>by simp[jA]
 |i+1,h=>by
  have J:=xk w ao i (by omega);have U:=B4 (ao l[i] (List.getElem_mem _));rw[EN w (by omega),qa,qa];have ah:ot.b.size=1:=rfl;omega
theorem uo(w:fj)(l:List Int)(hb:w.b.size+22*l.length≤1000000000000):bf Tryz.prog 93 [enc w,enc l] (enc (mb w l)):=by
 refine bf.b9 Tryz.func93 IV JQ La (u8 rfl) (fun hwf W0 bH E1 =>?_);simp only[zB,El,bN,Z1];have hlen:l.length≤maxLen:=((nj l).1 hwf.2.1).1;have hwl:∀ x∈l,IntKind.i64.min≤x∧x≤IntKind.i64.max:=fun x hx=>((nj l).1 hwf.2.1).2 x hx;simp only[maxLen] at hlen;have ab:=xk w hwl;refine .gq (by decide +kernel) fun K hK =>?_;simp only[Bx,bG,simprocAttr];refine .done (hK _ ?_);clear hK K;refine ae.seq ?_;refine .gq (by decide +kernel) fun K hK =>?_;simp only[By,bG,simprocAttr]
 try simp only[kv,bG,simprocAttr]
 refine .done (hK _ ?_);clear hK K;refine ae.block (ae.loop (fun i:Nat=>au [(0,enc (jA w l i)),(7,enc l),(8,.int .i64 l.length),(9,.int .i64 i)] []) (fun i=>i≤l.length) (fun i=>l.length-i) 0 (zx1 _) ?_ (fun i hi =>?_))
 ·refine bB.dF ?_ ?_ ?_ ?_ <;>simp[cC,dq,cO,cR,cz,I.only,cJ]
  all_goals rfl
 ·refine .gq (by decide +kernel) fun K hK =>?_;simp only[Bz,bG,simprocAttr];refine .done (hK _ ?_);clear hK K;refine ae.seq ?_;refine ae.js ?_;simp only[aC,bG,simprocAttr];refine ⟨fun h =>?_,fun h =>?_⟩
  ·have hlt:i<l.length:=by simpa using h
   refine ae.skip ?_;try simp only[ef,simprocAttr]
   refine ae.seq (ae.block ?_);refine .gq (by decide +kernel) fun K hK =>?_;simp only[BA,bG,simprocAttr]
   try simp only[fb 1 hlt rfl,bG,simprocAttr]
   refine .done (hK _ ?_);clear hK K;refine .j0 (by decide +kernel) fun K hK =>?_;simp only[BB,bG,simprocAttr];refine .flat _ (FI l[i]) rfl ?_;have J:=B4 (hwl l[i] (List.getElem_mem _));have U:=ab i hi;have ah:ot.b.size=1:=rfl
   try simp only[show (I.bQ ⟨#[32]⟩)=I.bQ ot.b from rfl,show (enc (mG l[i]):I)=.bQ (mG l[i]).b from rfl,show (enc (jA w l i):I)=.bQ (jA w l i).b from rfl,sa ot (mG l[i]) (by omega),sa (jA w l i) (jo ot (mG l[i])) (by rw[qa];omega),bG,simprocAttr]
   refine .done (hK _ ?_);clear hK K;try simp only[ef,jL]
   refine .j0 (by decide +kernel) fun K hK =>?_;simp only[BC,bG,simprocAttr];refine .done (hK _ ?_);clear hK K;try simp only[ef]
   refine ⟨i+1,by omega,by omega,?_⟩;rw[jG _ (by omega) (by omega),EN w hlt];refine bB.dF ?_ ?_ ?_ ?_ <;>simp[cC,dq,cO,cR,cz,I.only,cJ]
   all_goals rfl
  ·have hge:i=l.length:=by simp at h;omega
   subst hge;refine ae.exit ?_;try simp only[ef,jL,simprocAttr]
   have U:=ab l.length (Z3 _);have ah:qU.b.size=1:=rfl;refine .gq (by decide +kernel) fun K hK =>?_;simp only[BD,bG,simprocAttr]
   try simp only[show (I.bQ ⟨#[10]⟩)=I.bQ qU.b from rfl,show (enc (jA w l l.length):I)=.bQ (jA w l l.length).b from rfl,sa (jA w l l.length) qU (by omega),bG,simprocAttr]
   refine .done (hK _ ?_);clear hK K;refine ae.ret ?_;simp only[bG,simprocAttr];rfl
def ly:List fj:=[⟨⟨#[]⟩⟩,⟨⟨#[112,111,117,110,100]⟩⟩,⟨⟨#[114,101,108,101,97,115,101]⟩⟩,⟨⟨#[115,101,110,100]⟩⟩,⟨⟨#[99,97,108,108]⟩⟩,⟨⟨#[100,111,110,101]⟩⟩,⟨⟨#[98,97,99,107]⟩⟩,⟨⟨#[116,97,107,101]⟩⟩,⟨⟨#[114,101,102,117,115,101]⟩⟩]
theorem HQ:fE 1 (some [I.bQ ⟨#[]⟩,I.bQ ⟨#[112,111,117,110,100]⟩,I.bQ ⟨#[114,101,108,101,97,115,101]⟩,I.bQ ⟨#[115,101,110,100]⟩,I.bQ ⟨#[99,97,108,108]⟩,I.bQ ⟨#[100,111,110,101]⟩,I.bQ ⟨#[98,97,99,107]⟩,I.bQ ⟨#[116,97,107,101]⟩,I.bQ ⟨#[114,101,102,117,115,101]⟩])=some (enc ly):=by
 have h:fE 1 (some (ly.map (enc (α:=fj))))=some (enc ly):=by
  simp only[fE];rw[if_pos ⟨by simp[Enc.size];exact fun _ _=>rfl,iD _⟩];rfl
 exact h
theorem x6:bf Tryz.prog 94 [] (enc ly):=by
 refine bf.b9 Tryz.func94 IW JR Lb (u8 rfl) (fun hwf W0 bH E1 =>?_);simp only[zC,Em,bN];have R:=y6 @HQ aH
 repeat' ((first |refine ae.aJ (by decide +kernel) rfl fun K hK =>?_|(refine .aA [0] hK ?_;clear hK K)|(with_reducible refine .done (hK _ ?_);clear hK K)|refine ae.of rfl ?_|(with_reducible refine aC.aI (fun h =>?_) (fun h =>?_) <;>try simp only[h])) <;>try simp only[aK,R,simprocAttr])
 all_goals clear R
 all_goals rfl
def vh:fj:=⟨⟨#[]⟩⟩
def nY:fj:=⟨⟨#[112,111,117,110,100]⟩⟩
def j6(k:Int):fj:=ly.getD k.toNat vh
def mI(x:bg):fj:=if x.kind≤2 then mb (j6 x.kind) [x.aD] else mb (j6 x.kind) [x.aD,x.other,x.no]
def lX(p:bo)(i:Nat):fj:=(p.j.take i).foldl (fun a x=>jo a (mI x)) (mb nY [p.av,p.cq])
def tw(p:bo):fj×Int:=match cS p with
 |none=>(vh,91)
 |some _=>(lX p p.j.length,0)
theorem Fz(k:Int):(j6 k).b.size≤7:=by
 have h:∀ x∈ly,x.b.size≤7:=by decide
 simp only[j6,Z0];cases hk:ly[k.toNat]? with
 |none=>exact zx1 _
 |some x=>exact h x (List.mem_of_getElem? hk)
theorem xl(w:fj){l:List Int}(ao:∀ x∈l,IntKind.i64.min≤x∧x≤IntKind.i64.max):(mb w l).b.size≤w.b.size+22*l.length+1:=by
 have:=xk w ao l.length (Z3 _);rw[mb,qa];have:qU.b.size=1:=rfl;omega
theorem vY{n:Int}(h:-100000≤n∧n≤100000):IntKind.i64.min≤n∧n≤IntKind.i64.max:=by
 have J:IntKind.i64.min=-9223372036854775808:=by decide
 have U:IntKind.i64.max=9223372036854775807:=by decide
 omega
theorem CK{x:bg}(h:eJ x=true):(1≤x.kind∧x.kind≤8)∧(1≤x.aD∧x.aD≤9999)∧(0≤x.other∧x.other≤5)∧(0≤x.no∧x.no≤200):=by
 simp only[eJ,cG] at h;split at h
 ·simp only[t8,decide_eq_true_eq,beq_iff_eq] at h;omega
 ·split at h
  ·simp only[t8,decide_eq_true_eq] at h;omega
  ·cases h
theorem Cf{x:bg}(h:eJ x=true):(mI x).b.size≤74:=by
 obtain ⟨_,U,ah,ar⟩:=CK h;have hw:=Fz x.kind;simp only[mI];split
 ·have:=xl (j6 x.kind) (l:=[x.aD]) (by simp only[zz7,forall_eq];exact vY (by omega));simp only[zy5,List.length_nil] at this;omega
 ·have:=xl (j6 x.kind) (l:=[x.aD,x.other,x.no]) (by
   intro y hy;simp only[zx3,List.not_mem_nil,or_false] at hy;rcases hy with rfl | rfl | rfl <;>exact vY (by omega))
  simp only[zy5,List.length_nil] at this;omega
theorem EP:∀ {l:List bg} {s s':aB},fG s l=some s'→∀ x∈l,eJ x=true
 | [],_,_,_,x,hx=>by cases hx
 |y::l,s,s',h,x,hx=>by
  simp only[fG] at h;cases hy:fh s y with
  |none=>rw[hy] at h;cases h
  |some s2 =>
   rw[hy] at h;rcases zx3.1 hx with rfl | hx
   ·simp only[fh] at hy;split at hy
    ·assumption
    ·cases hy
   ·exact EP h x hx
theorem CU{p:bo}{s:aB}(h:cS p=some s):∀ x∈p.j,eJ x=true:=EP (gf h).2.2.2.2.2
theorem C9(p:bo){i:Nat}(h:i<p.j.length):lX p (i+1)=jo (lX p i) (mI p.j[i]):=by
 simp only[lX,zz1 h,List.foldl_append,List.foldl_cons,List.foldl_nil]
theorem C8{p:bo}{s:aB}(ho:cS p=some s):∀ i,i≤p.j.length→(lX p i).b.size≤50+74*i
 |0,_=>by
  have h5:=(gf ho).2.2.2.2.1;have ar:=(gf ho).2.2.2.1;simp only[ij,cG,t8,decide_eq_true_eq] at h5;have:=xl nY (l:=[p.av,p.cq]) (by
   intro y hy;simp only[zx3,List.not_mem_nil,or_false] at hy;rcases hy with rfl | rfl <;>exact vY (by omega))
  have hp:nY.b.size=5:=rfl;simp only[zy5,List.length_nil] at this
  show (mb nY [p.av,p.cq]).b.size≤_
  omega
 |i+1,h=>by
  have J:=C8 ho i (by omega);have U:=Cf (CU ho p.j[i] (List.getElem_mem _));rw[C9 p (by omega),qa];omega
theorem yD(a:Int):fE 1 (some [.int .i64 a])=some (enc [a]):=p8 (ys:=[a]) 1 rfl
theorem HR(a b:Int):fE 1 (some [.int .i64 a,.int .i64 b])=some (enc [a,b]):=p8 (ys:=[a,b]) 1 rfl
theorem HS(a b c:Int):fE 1 (some [.int .i64 a,.int .i64 b,.int .i64 c])=some (enc [a,b,c]):=p8 (ys:=[a,b,c]) 1 rfl
theorem Vo{k:Int}(h:1≤k∧k≤8)(A:ai):jP A 1 k (enc ly)=some (.ref (enc (j6 k))):=by
 have hk:k.toNat<ly.length:=by show k.toNat<9;omega
 have:=fb (A:=A) (l:=ly) (k:=k.toNat) 1 hk rfl;have e:((k.toNat:Nat):Int)=k:=by omega
 rw[e] at this;rw[this];simp[j6,Z0,hk]
def yc(p:bo)(i:Nat):ai :=
 au [(1,.ptr 1 []),(5,enc (lX p i)),(20,enc p.j),(21,.int .i64 p.j.length),(22,.int .i64 i)] [(1,.box (enc p))]
theorem Ga(p:bo):bf Tryz.prog 53 [enc p] (.tuple [enc (tw p).1,enc (tw p).2]):=by
 refine bf.b9 Tryz.func53 Iy Jw KI (u8 rfl) (fun hwf W0 bH E1 =>?_);simp only[ze,DW,bN];clear hwf;have hF:=oF p;simp only[my] at hF;simp only[tw];have e0:(I.bQ ⟨#[]⟩)=enc vh:=rfl;have e1:(I.bQ ⟨#[112,111,117,110,100]⟩)=enc nY:=rfl;cases ho:cS p with
 |none =>
  rw[ho] at hF;have R:=y6 @cD (y6 @bq (y6 @bS (y6 @bu (y6 @bp aH))))
  repeat' ((first |refine ae.aJ (by decide +kernel) rfl fun K hK =>?_|refine .lead _ (hF) ?_|(refine .aA [0,1,2,3,4,5,7,11,20,21,22,23,28] hK ?_;clear hK K)|(with_reducible refine .done (hK _ ?_);clear hK K)|refine ae.of rfl ?_|(with_reducible refine aC.aI (fun h =>?_) (fun h =>?_) <;>try simp only[h])) <;>try simp only[aK,R,simprocAttr])
  all_goals clear R
  all_goals rfl
 |some s =>
  have hjl:=(gf ho).2.2.2.1;have hok:=CU ho;have hsz:=C8 ho;have hp:nY.b.size=5:=rfl;have hR:=uo nY [p.av,p.cq] (by simp[hp]);rw[ho] at hF;have R:=y6 @HR (y6 @cD (y6 @bq (y6 @bS (y6 @bu (y6 @bp aH)))))
  repeat' ((first |refine ae.aJ (by decide +kernel) rfl fun K hK =>?_|refine .lead _ (hF) ?_|refine .flat _ (hR) rfl ?_|(refine .aA [0,1,2,3,4,5,7,11,20,21,22,23,28] hK ?_;clear hK K)|(with_reducible refine .done (hK _ ?_);clear hK K)|refine ae.of rfl ?_|(with_reducible refine aC.aI (fun h =>?_) (fun h =>?_) <;>try simp only[h])) <;>try simp only[aK,R,simprocAttr])
  all_goals clear R
  refine ae.loop (yc p) (fun i=>i≤p.j.length) (fun i=>p.j.length-i) 0 (zx1 _) ?_ ?_
  ·refine bB.dF ?_ ?_ ?_ ?_ <;>simp[cC,dq,cO,cR,aw,cz,dX,I.only,aq.only,cJ]
   all_goals rfl
  intro i hi;simp only[yc];have hsi:=hsz i hi;by_cases hlt:i<p.j.length
  ·have hc:=gX hlt;have he:=fun A=>fb (A:=A) 4 hlt rfl;have hw:=gK (i:=i) (by omega);have hst:∀ A rest b,dp A (some 4) 7 [] b (enc p.j[i]) rest (some (.agg [.int .i64 0,.int .i64 0,.int .i64 0,.int .i64 0]))=az rest (A.aV 7 (.box (enc p.j[i]))):=fun A rest b=>dP (ev _) (by rw[fq];rfl) (eQ _);have hoki:=hok p.j[i] (List.getElem_mem hlt);have hls:=Cf hoki;obtain ⟨hk,hk2⟩:=CK hoki;have hwd:=Vo hk;have hps:=C9 p hlt;have hww:=Fz p.j[i].kind;generalize p.j[i]=x at *;have hadd:∀ l:fj,l.b.size≤74→cB .add (enc (lX p i)) (enc l)=some (enc (jo (lX p i) l)):=fun l h=>sa (lX p i) l (by omega);rcases q:decide (x.kind≤2)
   ·have bC:¬ x.kind≤2:=of_decide_eq_false q;have ao:mI x=mb (j6 x.kind) [x.aD,x.other,x.no]:=by simp[mI,bC]
    rw[ao] at hls hps;have hR2:=uo (j6 x.kind) [x.aD,x.other,x.no] (by simp;omega);have had:=hadd _ hls;have R:=y6 @hc (y6 @he (y6 @hw (y6 @hst (y6 @hwd (y6 @q (y6 @had (y6 @HS (y6 @cD (y6 @bq (y6 @bS (y6 @bu (y6 @bp aH))))))))))))
    repeat' ((first |refine ae.aJ (by decide +kernel) rfl fun K hK =>?_|refine .lead _ (x6) ?_|refine .flat _ (hR2) rfl ?_|(refine .aA [0,1,2,3,4,5,7,11,20,21,22,23,28] hK ?_;clear hK K)|(with_reducible refine .done (hK _ ?_);clear hK K)|refine ae.of rfl ?_|(with_reducible refine aC.aI (fun h =>?_) (fun h =>?_) <;>try simp only[h])) <;>try simp only[aK,R,simprocAttr])
    all_goals clear R
    refine ⟨i+1,by omega,by omega,?_⟩;rw[hps];refine bB.dF ?_ ?_ ?_ ?_ <;>simp[cC,dq,cO,cR,aw,cz,dX,I.only,aq.only,cJ]
    all_goals rfl
   ·have bC:x.kind≤2:=of_decide_eq_true q;have ao:mI x=mb (j6 x.kind) [x.aD]:=by simp[mI,bC]
    rw[ao] at hls hps;have hR2:=uo (j6 x.kind) [x.aD] (by simp;omega);have had:=hadd _ hls;have R:=y6 @hc (y6 @he (y6 @hw (y6 @hst (y6 @hwd (y6 @q (y6 @had (y6 @yD (y6 @cD (y6 @bq (y6 @bS (y6 @bu (y6 @bp aH))))))))))))
    repeat' ((first |refine ae.aJ (by decide +kernel) rfl fun K hK =>?_|refine .lead _ (x6) ?_|refine .flat _ (hR2) rfl ?_|(refine .aA [0,1,2,3,4,5,7,11,20,21,22,23,28] hK ?_;clear hK K)|(with_reducible refine .done (hK _ ?_);clear hK K)|refine ae.of rfl ?_|(with_reducible refine aC.aI (fun h =>?_) (fun h =>?_) <;>try simp only[h])) <;>try simp only[aK,R,simprocAttr])
    all_goals clear R
    refine ⟨i+1,by omega,by omega,?_⟩;rw[hps];refine bB.dF ?_ ?_ ?_ ?_ <;>simp[cC,dq,cO,cR,aw,cz,dX,I.only,aq.only,cJ]
    all_goals rfl
  ·have hge:i=p.j.length:=by omega
   have hc:=hP hlt;subst hge;have R:=y6 @hc (y6 @cD (y6 @bq (y6 @bS (y6 @bu (y6 @bp aH)))))
   repeat' ((first |refine ae.aJ (by decide +kernel) rfl fun K hK =>?_|(refine .aA [0,1,2,3,4,5,7,11,20,21,22,23,28] hK ?_;clear hK K)|(with_reducible refine .done (hK _ ?_);clear hK K)|refine ae.of rfl ?_|(with_reducible refine aC.aI (fun h =>?_) (fun h =>?_) <;>try simp only[h])) <;>try simp only[aK,R,simprocAttr])
   all_goals clear R
theorem bO.rT{P:Program}{Y:Value→List I→List (Nat×aq)→cF→Prop}{ab:List FuncId}{K:ai→Prop}{v:Value}{vs:List I}{dst:Option Nat}{rest:List aE}{ts:List (Nat×I)}{os osk ow:List (Nat×aq)}{In Ix:List (Nat×aq)→Prop}
  (hY:Y v vs osk (fun r os2=>(r=.bool true∧In os2)∨(r=.bool false∧Ix os2))) (hk:eY os osk) (hi:∀ os',In os'→eY os os') (hx:∀ os',Ix os'→eY os os') (hcl:I.cg vs=true) (how:∀ m,aw ow m=true→m<1000000)
  (J:∀ os2,In os2→bO P Y ab K (az rest ((au ts (ow++os2)).aT dst (.bool true)))) (U:∀ os2,Ix os2→bO P Y ab K (az rest ((au ts (ow++os2)).aT dst (.bool false)))) :
  bO P Y ab K (.kK v vs dst rest (au ts (ow++osk))):=by
 refine .FA osk vs _ hY (gn.iE hk how) (sj vs hcl) ?_ ?_
 ·rintro r os' (⟨rfl,h⟩ | ⟨rfl,h⟩)
  ·exact gC.iE hk (hi _ h) rfl
  ·exact gC.iE hk (hx _ h) rfl
 ·rintro r os' (⟨rfl,h⟩ | ⟨rfl,h⟩)
  ·rw[sk hk (hi _ h) how];exact J os' h
  ·rw[sk hk (hx _ h) how];exact U os' h
theorem qx{os os2 ow:List (Nat×aq)}{ts:List (Nat×I)}(h:eY os os2)(how:∀ m,aw ow m=true→m<1000000):∀ n x,aj os2 n=some x→(au ts (ow++os2)).o n=some x∧x.only (aw os2)=true∧x.eh=true:=fun n x hx=>by
 have hn:aw os2 n=true:=by simp[aw,hx]
 have hg:=h.lP n (by rw[←h.same];exact hn);refine ⟨?_,h.ok n x hx⟩;simp only[au,fN];cases hw:aj ow n with
 |none=>exact hx
 |some y=>have:=how n (by simp[aw,hw]);omega
def tE:dv:=⟨0,0,0,0,0⟩
def n0(s:aB)(to n:Int):dv:=⟨if (s.bJ (n.toNat-1)).c9 then 3 else 1,s.av,to,(s.bJ (n.toNat-1)).aD,n⟩
def pQ(s:aB)(to n:Int):Bool:=(s.bJ (n.toNat-1)).to==to
def gp(s:aB)(to:Int)(i:Nat):List dv:=(((cm s.bE).take i).filter (pQ s to)).map (n0 s to)
def lf(s:aB)(to:Int)(no:Nat):List dv:=match s.bn.find? fun x=>decide (fI x=⟨to,no⟩) with
 |some x=>[⟨if x.kind=8 then 4 else 2,s.av,to,x.aD,no⟩]
 |none=>[]
def gT(s:aB)(to:Int)(k:Nat):List dv:=(List.range k).flatMap fun i=>lf s to (i+1)
def fy(s:aB)(to:Int):List dv:=gp s to (cm s.bE).length++gT s to 200
theorem wa(s:aB)(to:Int){i:Nat}(h:i<(cm s.bE).length):gp s to (i+1)=gp s to i++if pQ s to (cm s.bE)[i] then [n0 s to (cm s.bE)[i]] else []:=by
 simp only[gp,zz1 h,List.filter_append,Y6,List.filter_cons,List.filter_nil]
 congr 1
 split <;>rfl
theorem pf(s:aB)(to:Int)(k:Nat):gT s to (k+1)=gT s to k++lf s to (k+1):=by
 simp only[gT,List.range_succ,List.flatMap_append,List.flatMap_cons,List.flatMap_nil,List.append_nil]
theorem BY(s:aB)(to:Int):∀ {i n:Nat},i≤n→n≤(cm s.bE).length→gp s to i <+: gp s to n
 |i,0,h,_=>by
   have:i=0:=by omega
   subst this;exact List.prefix_rfl
 |i,n+1,h,hn=>by
  by_cases e:i=n+1
  ·subst e;exact List.prefix_rfl
  ·rw[wa s to (by omega)];exact (BY s to (by omega) (by omega)).trans (List.prefix_append _ _)
theorem B3(s:aB)(to:Int):∀ {k n:Nat},k≤n→gT s to k <+: gT s to n
 |k,0,h=>by
   have:k=0:=by omega
   subst this;exact List.prefix_rfl
 |k,n+1,h=>by
  by_cases e:k=n+1
  ·subst e;exact List.prefix_rfl
  ·rw[pf];exact (B3 s to (by omega)).trans (List.prefix_append _ _)
theorem BF{α:Type}{l m:List α}{x d:α}(h:l++[x] <+: m):l.length<m.length∧m.getD l.length d=x:=by
 obtain ⟨r,rfl⟩:=h;refine ⟨by simp,?_⟩;rw[Y5,Z0,zy4 (Z3 _)];simp
theorem UJ{s:aB}{to:Int}{i:Nat}(h:i<(cm s.bE).length)(ht:pQ s to (cm s.bE)[i]=true):(gp s to i).length<(fy s to).length∧(fy s to).getD (gp s to i).length tE=n0 s to (cm s.bE)[i]:=by
 have J:=wa s to h;rw[if_pos ht] at J;have U:=BY s to (i:=i+1) (n:=(cm s.bE).length) (by omega) (Z3 _);rw[J] at U;exact BF (U.trans (List.prefix_append _ _))
theorem UK{s:aB}{to:Int}{k:Nat}{x:dv}(h:k<200)(hx:lf s to (k+1)=[x]):(gp s to (cm s.bE).length++gT s to k).length<(fy s to).length∧(fy s to).getD (gp s to (cm s.bE).length++gT s to k).length tE=x:=by
 have J:=pf s to k;rw[hx] at J;have U:=B3 s to (k:=k+1) (n:=200) (by omega);rw[J] at U;refine BF ?_;rw[Y5];exact List.prefix_append_right_inj _ |>.2 U
theorem oN(a b c d e:Int):(dO [.int .i64 0,.int .i64 0,.int .i64 0,.int .i64 0,.int .i64 0] [(0,.int .i64 a),(1,.int .i64 b),(2,.int .i64 c),(3,.int .i64 d),(4,.int .i64 e)]).map I.agg=some (enc (⟨a,b,c,d,e⟩:dv)):=by simp[dO,I.bU,I.size];rfl
theorem nf:(∀ A n b rest (q:dv) x y z w u,dp A (some 5) n [] b (enc q) rest (some (.agg [.int .i64 x,.int .i64 y,.int .i64 z,.int .i64 w,.int .i64 u]))=az rest (A.aV n (.box (enc q)))) ∧
  (∀ (A:ai) n (q:dv) rest (v u:Int),dp A none n [0] (enc q) (.int .i64 v) rest (some (.int .i64 u))=az rest (A.aV n (.box (enc (⟨v,q.dc,q.to,q.aD,q.no⟩:dv))))) ∧
  (∀ A n b rest (q:bg) x y z w,dp A (some 4) n [] b (enc q) rest (some (.agg [.int .i64 x,.int .i64 y,.int .i64 z,.int .i64 w]))=az rest (A.aV n (.box (enc q)))) :=
 ⟨fun A n b rest q x y z w u=>dP (ev _) (by rw[fq];rfl) (eQ _),fun A n q rest v u=>dP rfl rfl rfl,fun A n b rest q x y z w=>dP (ev _) (by rw[fq];rfl) (eQ _)⟩
theorem tr{a b:aq} : ∀ m,aw [(7,a),(7,b)] m=true→m<1000000:=fun m h=>by
 simp only[aw,aj] at h
 (repeat' split at h) <;>first | omega | (simp at h;done)
theorem tt{a b c:aq} : ∀ m,aw [(7,a),(7,b),(7,c)] m=true→m<1000000:=fun m h=>by
 simp only[aw,aj] at h
 (repeat' split at h) <;>first | omega | (simp at h;done)
theorem tq{a b c d:aq} : ∀ m,aw [(11,a),(11,b),(9,c),(9,d)] m=true→m<1000000:=fun m h=>by
 simp only[aw,aj] at h
 (repeat' split at h) <;>first | omega | (simp at h;done)
theorem wV{a b c d e:aq} : ∀ m,aw [(11,a),(11,b),(11,e),(9,c),(9,d)] m=true→m<1000000:=fun m h=>by
 simp only[aw,aj] at h
 (repeat' split at h) <;>first | omega | (simp at h;done)
theorem Xk:∀ m,aw [] m=true→m<1000000:=fun m h=>by simp[aw,aj] at h
theorem nA{ow os osk:List (Nat×aq)}(hw:∀ m,aw ow m=true→m<1000000)(gk:eY os osk):∀ m,aj osk m=none∨aj osk m=aj (ow++osk) m:=fun m=>by
 rw[fN];cases h:aj ow m with
 |none=>exact .inr rfl
 |some y=>exact .inl (gk.none (hw m (by simp[aw,h])))
theorem ov(p:Nat→Bool)(s:aB):(dD s).only p=true:=kl p _ (ou s)
def r8(s:aB)(to:Int)(v:Value)(t:Nat×List (Nat×aq)):ai :=
 au [(0,.raw v),(1,.ref (dD s)),(2,.ref (.int .i64 to)),(8,.int .i64 ((t.1:Int)+1))] t.2
def r7(s:aB)(to:Int)(v:Value)(t:Nat×List (Nat×aq)):ai :=
 au [(0,.raw v),(1,.ref (dD s)),(2,.ref (.int .i64 to)),(13,enc (cm s.bE)),(14,.int .i64 (cm s.bE).length),(15,.int .i64 t.1)] t.2
theorem FG(s:aB)(to:Int)(ao:s.aQ.length≤1000):x8 Tryz.prog 107 [.ref (dD s),.ref (enc to)] (fy s to).length (fun k=>[enc ((fy s to).getD k tE)]):=by
 intro Y v bd Ix os hv hY hI hIx aW;have hG:=hI 0 os aW;have hlen:(cm s.bE).length=s.aQ.length:=by simp[cm,aB.bE]
 have hN:=x2 s (by omega);refine kz.b9 Tryz.func107 zF I5 J7 (u8 rfl) (u8 rfl) hG.lP (fun hwf W0 bH E1 =>?_);simp only[yH,Dj,bN,Z1,Nat.reduceAdd];have R:=y6 @ea (y6 @bq (y6 @bS (y6 @bu (y6 @bp aH))))
 repeat' ((first |(with_reducible refine .guard (fun hb =>?_) (fun hb =>?_) <;>try simp only[hb])|refine ae.aJ (by decide +kernel) rfl fun K hK =>?_|refine .lead _ (hN) ?_|(refine .aA [0,1,2,5,6,7,8,9,10,11,13,14,15,16,39,52,55,80,88] hK ?_;clear hK K)|(with_reducible refine .done (hK _ ?_);clear hK K)|refine ae.of rfl ?_|(with_reducible refine aC.aI (fun h =>?_) (fun h =>?_) <;>try simp only[h])) <;>try simp only[aK,R,simprocAttr])
 all_goals clear R
 refine ae.loop (r7 s to v) (fun t=>t.1≤(cm s.bE).length∧bd (gp s to t.1).length t.2) (fun t=>(cm s.bE).length-t.1) (0,os) ⟨zx1 _,aW⟩ ?_ ?_
 ·refine bB.slots ?_ (fun n=>rfl);simp[cC,cz]
 rintro ⟨i,osk⟩ ⟨hi,hIk⟩;simp only at hi hIk;have gk:=hI _ osk hIk;have n7:=gk.none (n:=7) (by decide);simp only[r7];by_cases hlt:i<(cm s.bE).length
 ·have hc:=gX hlt;have he:=fun A=>fb (A:=A) 1 hlt rfl;have hw:=gK (i:=i) (by omega);have hlk:=Ch s hlt;have hsu:=wa s to hlt;have hra:=UJ (s:=s) (to:=to) hlt;obtain ⟨n,hn⟩:∃ n,n=(cm s.bE)[i]:=⟨_,rfl⟩
  rw[←hn] at he hlk hsu hra;obtain ⟨r,hr⟩:∃ r,r=s.bJ (n.toNat-1):=⟨_,rfl⟩
  have hrd:n0 s to n=⟨if r.c9 then 3 else 1,s.av,to,r.aD,n⟩:=by simp only[n0,←hr]
  have hta:pQ s to n=(r.to==to):=by simp only[pQ,←hr]
  rw[←hr] at hlk;rcases q:(r.to==to)
  ·rw[q] at hta;rw[hta] at hsu;simp only[Z2,if_false,List.append_nil] at hsu;rcases qc:r.c9
   all_goals
    have R:=y6 @hc (y6 @he (y6 @hw (y6 @hlk (y6 @q (y6 @qc (y6 @n7 (y6 @oN (y6 @nf (y6 @ea (y6 @bq (y6 @bS (y6 @bu (y6 @bp aH)))))))))))))
    repeat' ((first |(with_reducible refine .guard (fun hb =>?_) (fun hb =>?_) <;>try simp only[hb])|(refine ae.rp (gs:=nG) [] [] [0,1,2,3,4,5,6,7,8,9,10,11] (by decide +kernel) (cW.of (by simp[ft])) fun K hK =>?_;simp only[fe,nG,Y9,zz0,R,simprocAttr])|refine ae.aJ (by decide +kernel) rfl fun K hK =>?_|(refine .aA [0,1,2,5,6,7,8,9,10,11,13,14,15,16,39,52,55,80,88] hK ?_;clear hK K)|(with_reducible refine .done (hK _ ?_);clear hK K)|refine ae.of rfl ?_|(with_reducible refine aC.aI (fun h =>?_) (fun h =>?_) <;>try simp only[h])) <;>try simp only[aK,R,simprocAttr])
    all_goals clear R
    refine ⟨(i+1,osk),⟨by simp only;omega,by simp only[hsu];exact hIk⟩,by simp only;omega,?_⟩;refine bB.fn ?_ ?_ ?_ (fun m x h=>(gk.ok m x h).1)
    ·simp[cC,cz]
    ·first | exact nA (ow:=[(7,_),(7,_)]) tr gk | exact nA (ow:=[(7,_),(7,_),(7,_)]) tt gk
    ·simp[cO,I.only,cJ,ov]
  ·rw[q] at hta;rw[hta,if_pos rfl] at hsu;obtain ⟨g1,g2⟩:=hra hta;have hs1:(gp s to (i+1)).length=(gp s to i).length+1:=by rw[hsu];simp
   have hy:=hY _ osk _ g1 hIk (fun r os2 h=>h);simp only[g2,hrd] at hy;rcases qc:r.c9
   ·rw[qc] at hy;simp only[Z2,if_false] at hy;have R:=y6 @hc (y6 @he (y6 @hw (y6 @hlk (y6 @q (y6 @qc (y6 @n7 (y6 @oN (y6 @nf (y6 @sx (y6 @ea (y6 @bq (y6 @bS (y6 @bu (y6 @bp aH))))))))))))))
    repeat' ((first |(with_reducible refine .guard (fun hb =>?_) (fun hb =>?_) <;>try simp only[hb])|(refine ae.rp (gs:=nG) [] [] [0,1,2,3,4,5,6,7,8,9,10,11] (by decide +kernel) (cW.of (by simp[ft])) fun K hK =>?_;simp only[fe,nG,Y9,zz0,R,simprocAttr])|refine ae.aJ (by decide +kernel) rfl fun K hK =>?_|refine bO.rT (ow:=[(7,_),(7,_)]) hy gk (hI _) hIx (by simp[I.cg,kO]) tr (fun os2 U =>?_) (fun os2 U =>?_)|(refine .aA [0,1,2,5,6,7,8,9,10,11,13,14,15,16,39,52,55,80,88] hK ?_;clear hK K)|(with_reducible refine .done (hK _ ?_);clear hK K)|refine ae.of rfl ?_|(with_reducible refine aC.aI (fun h =>?_) (fun h =>?_) <;>try simp only[h])) <;>try simp only[aK,R,simprocAttr])
    all_goals clear R
    ·have g3:=hI _ os2 U;refine ⟨(i+1,os2),⟨by simp only;omega,by simp only[hs1];exact U⟩,by simp only;omega,?_⟩;refine bB.fn ?_ (nA tr g3) ?_ (fun m x h=>(g3.ok m x h).1)
     ·simp[cC,cz]
     ·simp[cO,I.only,cJ,ov]
    ·rw[oc];exact ⟨os2,[],qx (hIx os2 U) tr,trivial,rfl,.inr U⟩
   ·rw[qc] at hy;simp only[if_true] at hy;have R:=y6 @hc (y6 @he (y6 @hw (y6 @hlk (y6 @q (y6 @qc (y6 @n7 (y6 @oN (y6 @nf (y6 @sx (y6 @ea (y6 @bq (y6 @bS (y6 @bu (y6 @bp aH))))))))))))))
    repeat' ((first |(with_reducible refine .guard (fun hb =>?_) (fun hb =>?_) <;>try simp only[hb])|(refine ae.rp (gs:=nG) [] [] [0,1,2,3,4,5,6,7,8,9,10,11] (by decide +kernel) (cW.of (by simp[ft])) fun K hK =>?_;simp only[fe,nG,Y9,zz0,R,simprocAttr])|refine ae.aJ (by decide +kernel) rfl fun K hK =>?_|refine bO.rT (ow:=[(7,_),(7,_),(7,_)]) hy gk (hI _) hIx (by simp[I.cg,kO]) tt (fun os2 U =>?_) (fun os2 U =>?_)|(refine .aA [0,1,2,5,6,7,8,9,10,11,13,14,15,16,39,52,55,80,88] hK ?_;clear hK K)|(with_reducible refine .done (hK _ ?_);clear hK K)|refine ae.of rfl ?_|(with_reducible refine aC.aI (fun h =>?_) (fun h =>?_) <;>try simp only[h])) <;>try simp only[aK,R,simprocAttr])
    all_goals clear R
    ·have g3:=hI _ os2 U;refine ⟨(i+1,os2),⟨by simp only;omega,by simp only[hs1];exact U⟩,by simp only;omega,?_⟩;refine bB.fn ?_ (nA tt g3) ?_ (fun m x h=>(g3.ok m x h).1)
     ·simp[cC,cz]
     ·simp[cO,I.only,cJ,ov]
    ·rw[oc];exact ⟨os2,[],qx (hIx os2 U) tt,trivial,rfl,.inr U⟩
 ·have hge:i=(cm s.bE).length:=by omega
  have hc:=hP hlt;rw[hge] at hIk;rw[hge] at hc ⊢;have R:=y6 @hc (y6 @ea (y6 @bq (y6 @bS (y6 @bu (y6 @bp aH)))))
  repeat' ((first |(with_reducible refine .guard (fun hb =>?_) (fun hb =>?_) <;>try simp only[hb])|refine ae.aJ (by decide +kernel) rfl fun K hK =>?_|(refine .aA [0,1,2,5,6,7,8,9,10,11,13,14,15,16,39,52,55,80,88] hK ?_;clear hK K)|(with_reducible refine .done (hK _ ?_);clear hK K)|refine ae.of rfl ?_|(with_reducible refine aC.aI (fun h =>?_) (fun h =>?_) <;>try simp only[h])) <;>try simp only[aK,R,simprocAttr])
  all_goals clear R
  refine ae.loop (r8 s to v) (fun t=>t.1≤200∧bd (gp s to (cm s.bE).length++gT s to t.1).length t.2) (fun t=>200-t.1) (0,osk) ⟨zx1 _,by simpa[gT] using hIk⟩ ?_ ?_
  ·refine bB.slots ?_ (fun n=>rfl);simp[cC,cz]
  clear hIk gk n7 hc hlt hi hge;rintro ⟨k,osk⟩ ⟨hk,hIk⟩;simp only at hk hIk;have gk:=hI _ osk hIk;have n9:=gk.none (n:=9) (by decide);have n11:=gk.none (n:=11) (by decide);simp only[r8];by_cases hlt:k<200
  ·have hc:decide (((k:Int)+1)≤200)=true:=by simp;omega
   have hw:IntKind.i64.wrap ((k:Int)+1+1)=((k+1:Nat):Int)+1:=by rw[jG _ (by omega) (by omega)];omega
   have hsu:=pf s to k;have hlg:=Cg vk fI (fun x:bg=>enc x) (.agg [.int .i64 0,.int .i64 0,.int .i64 0,.int .i64 0]) ⟨to,(k:Int)+1⟩ s.bn;have ew:(enc (⟨to,(k:Int)+1⟩:nt):I)=.agg [.int .i64 to,.int .i64 ((k:Int)+1)]:=rfl;rw[ew] at hlg;have e2:(fun x:bg=>decide ((⟨to,(k:Int)+1⟩:nt)=fI x))=fun x=>decide (fI x=⟨to,(k:Int)+1⟩):=by
    funext x;rw[Bool.eq_iff_iff];simp[eq_comm]
   rw[e2] at hlg;have hrb:lf s to (k+1)=match s.bn.find? fun x=>decide (fI x=⟨to,(k:Int)+1⟩) with
    |some x=>[⟨if x.kind=8 then 4 else 2,s.av,to,x.aD,(k:Int)+1⟩]
    |none=>[]:=by simp only[lf];rfl
   have gr:=fun x=>UK (s:=s) (to:=to) (k:=k) (x:=x) hlt;cases hf:s.bn.find? fun x=>decide (fI x=⟨to,(k:Int)+1⟩) with
   |none =>
    rw[hf] at hlg hrb;simp only at hlg hrb;have hlk:fu (.a8 [.i .i64,.i .i64]) (.agg [.int .i64 0,.int .i64 0,.int .i64 0,.int .i64 0]) (.agg [.int .i64 to,.int .i64 ((k:Int)+1)]) (s.dU.map enc) (s.bn.map enc)=some (enc hU,false):=hlg;have q:(hU.kind==8)=false:=rfl;rw[hrb,List.append_nil] at hsu;have R:=y6 @hc (y6 @hw (y6 @hlk (y6 @q (y6 @n9 (y6 @n11 (y6 @uI (y6 @oN (y6 @nf (y6 @ea (y6 @bq (y6 @bS (y6 @bu (y6 @bp aH)))))))))))))
    repeat' ((first |(with_reducible refine .guard (fun hb =>?_) (fun hb =>?_) <;>try simp only[hb])|refine ae.aJ (by decide +kernel) rfl fun K hK =>?_|(refine .aA [0,1,2,5,6,7,8,9,10,11,13,14,15,16,39,52,55,80,88] hK ?_;clear hK K)|(with_reducible refine .done (hK _ ?_);clear hK K)|refine ae.of rfl ?_|(with_reducible refine aC.aI (fun h =>?_) (fun h =>?_) <;>try simp only[h])) <;>try simp only[aK,R,simprocAttr])
    all_goals clear R
    refine ⟨(k+1,osk),⟨by simp only;omega,by simp only[hsu];exact hIk⟩,by simp only;omega,?_⟩;refine bB.fn ?_ (nA (ow:=[(11,_),(11,_),(9,_),(9,_)]) tq gk) ?_ (fun m x h=>(gk.ok m x h).1)
    ·simp[cC,cz]
    ·simp[cO,I.only,ov]
   |some x =>
    rw[hf] at hlg hrb;simp only at hlg hrb;have hlk:fu (.a8 [.i .i64,.i .i64]) (.agg [.int .i64 0,.int .i64 0,.int .i64 0,.int .i64 0]) (.agg [.int .i64 to,.int .i64 ((k:Int)+1)]) (s.dU.map enc) (s.bn.map enc)=some (enc x,true):=hlg;obtain ⟨g1,g2⟩:=gr _ hrb;rw[hrb] at hsu;have hs1:(gp s to (cm s.bE).length++gT s to (k+1)).length=(gp s to (cm s.bE).length++gT s to k).length+1:=by rw[hsu];simp only[Z6,zy5,List.length_nil];omega
    have hy:=hY _ osk _ g1 hIk (fun r os2 h=>h);simp only[g2] at hy;rcases q:(x.kind==8)
    ·have qk:¬ x.kind=8:=by simpa using q
     simp only[if_neg qk] at hy;have R:=y6 @hc (y6 @hw (y6 @hlk (y6 @q (y6 @n9 (y6 @n11 (y6 @uI (y6 @oN (y6 @nf (y6 @sx (y6 @ea (y6 @bq (y6 @bS (y6 @bu (y6 @bp aH))))))))))))))
     repeat' ((first |(with_reducible refine .guard (fun hb =>?_) (fun hb =>?_) <;>try simp only[hb])|refine ae.aJ (by decide +kernel) rfl fun K hK =>?_|refine aR.rT (ow:=[(11,_),(11,_),(9,_),(9,_)]) hy gk (hI _) hIx (by simp[I.cg,kO]) tq (fun os2 U =>?_) (fun os2 U =>?_)|(refine .aA [0,1,2,5,6,7,8,9,10,11,13,14,15,16,39,52,55,80,88] hK ?_;clear hK K)|(with_reducible refine .done (hK _ ?_);clear hK K)|refine ae.of rfl ?_|(with_reducible refine aC.aI (fun h =>?_) (fun h =>?_) <;>try simp only[h])) <;>try simp only[aK,R,simprocAttr])
     all_goals clear R
     ·have g3:=hI _ os2 U;refine ⟨(k+1,os2),⟨by simp only;omega,by simp only[hs1];exact U⟩,by simp only;omega,?_⟩;refine bB.fn ?_ (nA tq g3) ?_ (fun m x h=>(g3.ok m x h).1)
      ·simp[cC,cz]
      ·simp[cO,I.only,ov]
     ·rw[oc];exact ⟨os2,[],qx (hIx os2 U) tq,trivial,rfl,.inr U⟩
    ·have qk:x.kind=8:=by simpa using q
     simp only[if_pos qk] at hy;have R:=y6 @hc (y6 @hw (y6 @hlk (y6 @q (y6 @n9 (y6 @n11 (y6 @uI (y6 @oN (y6 @nf (y6 @sx (y6 @ea (y6 @bq (y6 @bS (y6 @bu (y6 @bp aH))))))))))))))
     repeat' ((first |(with_reducible refine .guard (fun hb =>?_) (fun hb =>?_) <;>try simp only[hb])|refine ae.aJ (by decide +kernel) rfl fun K hK =>?_|refine aR.rT (ow:=[(11,_),(11,_),(11,_),(9,_),(9,_)]) hy gk (hI _) hIx (by simp[I.cg,kO]) wV (fun os2 U =>?_) (fun os2 U =>?_)|(refine .aA [0,1,2,5,6,7,8,9,10,11,13,14,15,16,39,52,55,80,88] hK ?_;clear hK K)|(with_reducible refine .done (hK _ ?_);clear hK K)|refine ae.of rfl ?_|(with_reducible refine aC.aI (fun h =>?_) (fun h =>?_) <;>try simp only[h])) <;>try simp only[aK,R,simprocAttr])
     all_goals clear R
     ·have g3:=hI _ os2 U;refine ⟨(k+1,os2),⟨by simp only;omega,by simp only[hs1];exact U⟩,by simp only;omega,?_⟩;refine bB.fn ?_ (nA wV g3) ?_ (fun m x h=>(g3.ok m x h).1)
      ·simp[cC,cz]
      ·simp[cO,I.only,ov]
     ·rw[oc];exact ⟨os2,[],qx (hIx os2 U) wV,trivial,rfl,.inr U⟩
  ·have hc:decide (((k:Int)+1)≤200)=false:=by simp;omega
   have hge:k=200:=by omega
   have R:=y6 @hc (y6 @ea (y6 @bq (y6 @bS (y6 @bu (y6 @bp aH)))))
   repeat' ((first |(with_reducible refine .guard (fun hb =>?_) (fun hb =>?_) <;>try simp only[hb])|refine ae.aJ (by decide +kernel) rfl fun K hK =>?_|(refine .aA [0,1,2,5,6,7,8,9,10,11,13,14,15,16,39,52,55,80,88] hK ?_;clear hK K)|(with_reducible refine .done (hK _ ?_);clear hK K)|refine ae.of rfl ?_|(with_reducible refine aC.aI (fun h =>?_) (fun h =>?_) <;>try simp only[h])) <;>try simp only[aK,R,simprocAttr])
   all_goals clear R
   rw[l8];refine ⟨osk,[],qx (ow:=[]) gk Xk,trivial,rfl,.inl ?_⟩;rw[fy];rw[hge] at hIk;exact hIk
def Es(o:Option aB):I:=match o with
 |some s=>.tuple [dD s,.bool true]
 |none=>.tuple [.nilp,.bool false]
theorem Ge(av:Int)(l:List bg)(ao:l.length≤200):bf Tryz.prog 62 [enc av,enc l] (Es (fk av l)):=by
 refine bf.b9 Tryz.func62 zT Ai Aq (u8 rfl) (fun hwf W0 bH E1 =>?_);simp only[uV,w9,bN,Z1];clear hwf;have R:=y6 @bS (y6 @bu (y6 @bp aH))
 repeat' ((first |refine ae.aJ (by decide +kernel) rfl fun K hK =>?_|refine aR.eN rfl (fun _ _ _=>rfl) ?_|(refine .aA [0,1,4,5,6,8,11,12,13,14,20] hK ?_;clear hK K)|(with_reducible refine .done (hK _ ?_);clear hK K)|refine ae.of rfl ?_|(with_reducible refine aC.aI (fun h =>?_) (fun h =>?_) <;>try simp only[h])) <;>try simp only[aK,R,simprocAttr])
 all_goals clear R
 refine ae.loop (r6 l) (fun t=>t.1≤l.length∧fG (eN av) (l.take t.1)=some t.2) (fun t=>l.length-t.1) (0,eN av) ⟨zx1 _,rfl⟩ ?_ ?_
 ·rw[List.append_nil];refine bB.fn ?_ (fun n=>.inr rfl) ?_ (fun n x h=>(lu (kj av) h).1)
  ·simp[cC,cz]
  ·have:=(dL (iG (eN av).all.length) (n:=2000)).2 (.inl (by omega));simp[cO,I.only,cJ,this]
 rintro ⟨i,s⟩ ⟨hi,hrun⟩;simp only at hi hrun;obtain ⟨hk,hme,hln⟩:=mV (kj av) hrun;have hln2:s.all.length≤i:=by simpa[eN,hi] using hln
 have n8:aj (dn s) 8=none:=eH (.inl (by omega)) fun i _=>by simp[bD];omega
 simp only[r6];by_cases hlt:i<l.length
 ·have hc:=gX hlt;have he:=fun A=>fb (A:=A) 4 hlt rfl;have hw:=gK (i:=i) (by omega);have hst:∀ A rest,dp A (some 4) 8 [] (.agg [.int .i64 0,.int .i64 0,.int .i64 0,.int .i64 0]) (enc l[i]) rest (some (.agg [.int .i64 0,.int .i64 0,.int .i64 0,.int .i64 0]))=az rest (A.aV 8 (.box (enc l[i]))):=fun A rest=>dP (ev _) (by rw[fq];rfl) (eQ _);have how:∀ (a b:aq) m,2000≤m→aj [(8,a),(8,b)] m=none:=fun a b m hm=>by simp only[aj];rw[if_neg (by omega),if_neg (by omega)]
  have hsp:l=l.take i++l[i]::l.drop (i+1):=by simp
  cases hn:fh s l[i] with
  |none =>
   have ab:ee s l[i]=(s,false):=by simp[ee,hn]
   have R:=y6 @hc (y6 @he (y6 @hst (y6 @n8 (y6 @bq (y6 @bS (y6 @bu (y6 @bp aH)))))))
   repeat' ((first |refine ae.aJ (by decide +kernel) rfl fun K hK =>?_|refine aR.rN (ow:=[(8,_),(8,_)]) hk (by omega) rfl (how _ _) ab ?_|(refine .aA [0,1,4,5,6,8,11,12,13,14,20] hK ?_;clear hK K)|(with_reducible refine .done (hK _ ?_);clear hK K)|refine ae.of rfl ?_|(with_reducible refine aC.aI (fun h =>?_) (fun h =>?_) <;>try simp only[h])) <;>try simp only[aK,R,simprocAttr])
   all_goals clear R
   have hno:fk av l=none:=by
    rw[fk,hsp,oh,hrun];simp only[Option.bind_some,fG,hn]
   rw[hno];rfl
  |some s2 =>
   have ab:ee s l[i]=(s2,true):=by simp[ee,hn]
   have R:=y6 @hc (y6 @he (y6 @hst (y6 @hw (y6 @n8 (y6 @bS (y6 @bu (y6 @bp aH)))))))
   repeat' ((first |refine ae.aJ (by decide +kernel) rfl fun K hK =>?_|refine aR.rN (ow:=[(8,_),(8,_)]) hk (by omega) rfl (how _ _) ab ?_|(refine .aA [0,1,4,5,6,8,11,12,13,14,20] hK ?_;clear hK K)|(with_reducible refine .done (hK _ ?_);clear hK K)|refine ae.of rfl ?_|(with_reducible refine aC.aI (fun h =>?_) (fun h =>?_) <;>try simp only[h])) <;>try simp only[aK,R,simprocAttr])
   all_goals clear R
   obtain ⟨hk2,hme2,hln3⟩:=xK hk hn;refine ⟨(i+1,s2),⟨by simp only;omega,?_⟩,by simp only;omega,?_⟩
   ·rw[zz1 hlt,oh,hrun];simp only[Option.bind_some,fG,hn]
   ·refine bB.fn ?_ (fun n =>?_) ?_ (fun n x h=>(lu hk2 h).1)
    ·simp[cC,cz]
    ·simp only[fN];cases aj (dn s2) n with
     |none=>exact .inl rfl
     |some y=>exact .inr rfl
    ·have:=(dL (iG s2.all.length) (n:=2000)).2 (.inl (by omega));simp[cO,I.only,cJ,this]
 ·have hge:i=l.length:=by omega
  have hc:=hP hlt;subst hge;rw[List.take_length] at hrun;have hfin:∀ ts,cY (au ts (dn s)) 9 (.agg [.int .i64 s.av,.mref 2001,.mref 2002,.int .i64 s.all.length,.mref 2003,.mref 2004])=some (fV s):=fun ts=>gQ (gS (iG _) hk.cv fun n _=>rfl) 4;have hla:aj (dn s) 2000=some (.box (.agg [.int .i64 s.av,.mref 2001,.mref 2002,.int .i64 s.all.length,.mref 2003,.mref 2004])):=fA;have hrd:fk av l=some s:=hrun;rw[hrd];have R:=y6 @hc (y6 @hfin (y6 @hla (y6 @wF (y6 @bq (y6 @bS (y6 @bu (y6 @bp aH)))))))
  repeat' ((first |refine ae.aJ (by decide +kernel) rfl fun K hK =>?_|(refine .aA [0,1,4,5,6,8,11,12,13,14,20] hK ?_;clear hK K)|(with_reducible refine .done (hK _ ?_);clear hK K)|refine ae.of rfl ?_|(with_reducible refine aC.aI (fun h =>?_) (fun h =>?_) <;>try simp only[h])) <;>try simp only[aK,R,simprocAttr])
  all_goals clear R
  rfl
theorem Gf(s:aB)(to:Int):bf Tryz.prog 63 [dD s,enc to] (.func 107 [.ref (dD s),.ref (enc to)]):=by
 refine bf.b9 Tryz.func63 IA Jy KK (u8 rfl) (fun hwf W0 bH E1 =>?_);simp only[zg,DY,bN,Z1];clear hwf;have hall:([I.ptr 2 [],I.ptr 3 []].all fun y=>y.bU)=true:=rfl;have hv:∀ k n,(I.int k n).bU=true:=fun _ _=>rfl;have R:=y6 @hall (y6 @hv (y6 @ea (y6 @bq (y6 @bS (y6 @bu (y6 @bp aH))))))
 repeat' ((first |refine ae.aJ (by decide +kernel) rfl fun K hK =>?_|(refine .aA [0,1,2,3,4] hK ?_;clear hK K)|(with_reducible refine .done (hK _ ?_);clear hK K)|refine ae.of rfl ?_|(with_reducible refine aC.aI (fun h =>?_) (fun h =>?_) <;>try simp only[h])) <;>try simp only[aK,R,simprocAttr])
 all_goals clear R
theorem Vt{s:aB}(hk:cu s)(to:Int):(gp s to (cm s.bE).length).Nodup:=by
 have hn:s.bE.Nodup:=by
  simp only[aB.bE];exact List.Pairwise.map _ (fun a b h e=>h (by omega)) hk.ic
 have ab:(cm s.bE).Nodup:=(List.mergeSort_perm _ _).nodup_iff.2 hn;rw[gp,List.take_length];have hf:=ab.filter (pQ s to);exact List.Pairwise.map _ (fun a b h e=>h (by simpa[n0] using congrArg dv.no e)) hf
theorem wb{s:aB}{to:Int} : ∀ {k:Nat} {x:dv},x∈gT s to k→x.no≤k∧(x.kind=2∨x.kind=4)
 |0,x,h=>by simp[gT] at h
 |k+1,x,h=>by
  rw[pf] at h;rcases zy0.1 h with h | h
  ·have:=wb h;omega
  ·simp only[lf] at h;split at h
   ·rw[zz7.1 h];refine ⟨by simp,?_⟩;simp only;split <;>simp
   ·cases h
theorem B1(s:aB)(to:Int):∀ k,(gT s to k).Nodup
 |0=>by simp[gT]
 |k+1=>by
  rw[pf];refine List.nodup_append.2 ⟨B1 s to k,?_,fun a ha b hb e =>?_⟩
  ·simp only[lf];split <;>simp
  ·have J:=(wb ha).1;have U:b.no=(k:Int)+1:=by
    simp only[lf] at hb;split at hb
    ·rw[zz7.1 hb];simp
    ·cases hb
   rw[e] at J;omega
theorem X9{s:aB}(hk:cu s)(to:Int):(fy s to).Nodup:=by
 refine List.nodup_append.2 ⟨Vt hk to,B1 s to 200,fun a ha b hb e =>?_⟩;have J:=(wb hb).2;rw[←e] at J;simp only[gp,zz5] at ha;obtain ⟨n,_,rfl⟩:=ha;simp only[n0] at J;split at J <;>omega
def lN(p:bo):List bg:=p.j.take p.cq.toNat
def pG(p:bo)(to:Int):List dv×Int:=match cS p with
 |none=>([],91)
 |some _=>if cG 0 5 to=false∨to=p.av then ([],90) else match fk p.av (lN p) with
  |some s=>(fy s to,0)
  |none=>([],0)
theorem MV{p:bo}{s:aB}(ho:cS p=some s):0≤p.cq∧p.cq.toNat≤p.j.length∧∃ s2,fk p.av (lN p)=some s2∧cu s2∧s2.aQ.length≤200:=by
 obtain ⟨_,_,_,ar,h5,h6⟩:=gf ho;simp only[ij,cG,t8,decide_eq_true_eq] at h5;obtain ⟨_,_,h7,h8⟩:=h5;have hsp:p.j=lN p++p.j.drop p.cq.toNat:=by simp[lN]
 rw[fk,hsp,oh] at h6;cases hr:fG (eN p.av) (lN p) with
 |none=>rw[hr] at h6;cases h6
 |some s2 =>
  refine ⟨h7,by omega,s2,hr,(mV (kj p.av) hr).1,?_⟩;have:=xm hr;simp only[eN,List.length_nil,lN,zz8] at this;omega
theorem Yq{A:ai}{l:List bg}{i:Nat}(h:i≤l.length):jC A 4 none (some (.int .i64 i)) (some (.int .i64 i)) (enc l)=some (if i=0 then .c0 4 else enc (l.take i)):=by
 simp only[jC,hs,show Enc.sz bg=4 from rfl,if_true,iR,jk,Z8];rw[if_pos ⟨by omega,by omega,by omega,by omega⟩];by_cases aW:i=0
 ·simp[aW]
 ·rw[if_neg (by simp;omega),if_neg aW];simp
theorem mh{i:Nat}(l:List bg)(aN:Bool)(A:ai):bh aN A (if i=0 then .c0 4 else enc (l.take i))=some (enc (l.take i)):=by
 by_cases aW:i=0
 ·rw[if_pos aW,aW];simp only[bh];rfl
 ·rw[if_neg aW,lI]
theorem BZ(s:aB)(to:Int):∀ k,(gT s to k).length≤k
 |0=>by simp[gT]
 |k+1=>by
  have J:=BZ s to k;have U:(lf s to (k+1)).length≤1:=by simp only[lf];split <;>simp
  rw[pf,Z6];omega
theorem X8(s:aB)(to:Int):(fy s to).length≤s.aQ.length+200:=by
 have J:=BZ s to 200;have U:(gp s to (cm s.bE).length).length≤s.aQ.length:=by
  simp only[gp,Z8,List.take_length];refine zx4 (List.length_filter_le _ _) ?_;simp[cm,aB.bE]
 rw[fy,Z6];omega
def iT(xs:List dv):List (Nat×aq):=[(1000009,.box (.own 1000080 xs.length)),(1000080,.bY 39 5 (xs.map enc))]
theorem Yy(xs ys:List dv):eY (iT xs) (iT ys):=by
 refine ⟨fun n=>by simp only[iT,aw,aj];(repeat' split) <;>rfl,fun n x h =>?_,fun n h =>?_⟩
 ·simp only[iT,aj] at h
  repeat' split at h
  all_goals first | (cases h;done) | (simp only[v6] at h;subst h;exact ⟨by simp[iT,aw,aj,aq.only,I.only,ik],rfl⟩)
 ·simp only[iT,aw,aj] at h
  repeat' split at h
  all_goals first | omega | (simp at h;done)
theorem um(p:bo)(to:Int):bf Tryz.prog 14 [enc p,enc to] (.tuple [enc (pG p to).1,enc (pG p to).2]):=by
 refine bf.b9 Tryz.func14 Ic Jd Kn (u8 rfl) (fun hwf W0 bH E1 =>?_);simp only[yP,DB,bN,Z1];clear hwf;have hF:=oF p;simp only[my] at hF;simp only[pG];cases ho:cS p with
 |none =>
  rw[ho] at hF;have R:=y6 @cD (y6 @bq (y6 @bS (y6 @bu (y6 @bp aH))))
  repeat' ((first |(with_reducible refine .guard (fun hb =>?_) (fun hb =>?_) <;>try simp only[hb])|refine ae.aJ (by decide +kernel) rfl fun K hK =>?_|refine .lead _ (hF) ?_|(refine .aA [0,1,2,4,5,6,7,9,10,14,24,40,41,54] hK ?_;clear hK K)|(with_reducible refine .done (hK _ ?_);clear hK K)|refine ae.of rfl ?_|(with_reducible refine aC.aI (fun h =>?_) (fun h =>?_) <;>try simp only[h])) <;>try simp only[aK,R,simprocAttr])
  all_goals clear R
  all_goals rfl
 |some s =>
  obtain ⟨f1,f2,s2,hr,hk,hl2⟩:=MV ho;have hjl:=(gf ho).2.2.2.1;rw[ho] at hF
  dsimp only at hF ⊢
  have hT:=ml to;rcases q2:cG 0 5 to
  ·rw[q2] at hT;simp only[true_or,if_true];have R:=y6 @cD (y6 @bq (y6 @bS (y6 @bu (y6 @bp aH))))
   repeat' ((first |(with_reducible refine .guard (fun hb =>?_) (fun hb =>?_) <;>try simp only[hb])|refine ae.aJ (by decide +kernel) rfl fun K hK =>?_|refine .lead _ (hF) ?_|refine .flat _ (hT) rfl ?_|(refine .aA [0,1,2,4,5,6,7,9,10,14,24,40,41,54] hK ?_;clear hK K)|(with_reducible refine .done (hK _ ?_);clear hK K)|refine ae.of rfl ?_|(with_reducible refine aC.aI (fun h =>?_) (fun h =>?_) <;>try simp only[h])) <;>try simp only[aK,R,simprocAttr])
   all_goals clear R
   all_goals rfl
  rw[q2] at hT;rcases q3:(to==p.av)
  case true =>
   have e:to=p.av:=by simpa using q3
   simp only[Bool.true_eq_false,false_or,if_pos e];have R:=y6 @q3 (y6 @cD (y6 @bq (y6 @bS (y6 @bu (y6 @bp aH)))))
   repeat' ((first |(with_reducible refine .guard (fun hb =>?_) (fun hb =>?_) <;>try simp only[hb])|refine ae.aJ (by decide +kernel) rfl fun K hK =>?_|refine .lead _ (hF) ?_|refine .flat _ (hT) rfl ?_|(refine .aA [0,1,2,4,5,6,7,9,10,14,24,40,41,54] hK ?_;clear hK K)|(with_reducible refine .done (hK _ ?_);clear hK K)|refine ae.of rfl ?_|(with_reducible refine aC.aI (fun h =>?_) (fun h =>?_) <;>try simp only[h])) <;>try simp only[aK,R,simprocAttr])
   all_goals clear R
   all_goals rfl
  have e:¬ to=p.av:=by simpa using q3
  simp only[Bool.true_eq_false,false_or,if_neg e,hr];have hR:=Ge p.av (lN p) (by simp only[lN,zz8];omega);rw[hr] at hR;simp only[Es] at hR;obtain ⟨w,hsl,hfw⟩:∃ w:I,(∀ A,jC A 4 none (some (.int .i64 p.cq)) (some (.int .i64 p.cq)) (enc p.j)=some w)∧∀ aN A,bh aN A w=some (enc (lN p)) :=
   ⟨_,fun A=>by
    have:=Yq (A:=A) (l:=p.j) (i:=p.cq.toNat) f2;rw[show ((p.cq.toNat:Nat):Int)=p.cq by omega] at this;exact this,fun aN A=>mh p.j aN A⟩
  have h63:=Gf s2 to;have R:=y6 @q3 (y6 @hsl (y6 @hfw (y6 @ea (y6 @cD (y6 @bq (y6 @bS (y6 @bu (y6 @bp aH))))))))
  repeat' ((first |(with_reducible refine .guard (fun hb =>?_) (fun hb =>?_) <;>try simp only[hb])|refine ae.aJ (by decide +kernel) rfl fun K hK =>?_|refine .lead _ (hF) ?_|refine .flat _ (hT) rfl ?_|refine .lead _ (hR) ?_|refine .lead _ (h63) ?_|(refine .aA [0,1,2,4,5,6,7,9,10,14,24,40,41,54] hK ?_;clear hK K)|(with_reducible refine .done (hK _ ?_);clear hK K)|refine ae.of rfl ?_|(with_reducible refine aC.aI (fun h =>?_) (fun h =>?_) <;>try simp only[h])) <;>try simp only[aK,R,Option.map_none,simprocAttr])
  all_goals clear R
  have hcap:I.cg [.ref (dD s2),.ref (.int .i64 to)]=true:=by simp[I.cg,I.bw,ou]
  refine ae.sub (bB.GR 9 80 39 5 5 [] _ rfl rfl rfl (B:=au [(9,.ptr 9 []),(40,.func 107 [.ref (dD s2),.ref (.int .i64 to)])] [(9,.box (.own 80 0)),(80,.bY 39 5 [])]) ?_) ?_
  ·simp only[oj];refine bB.dF ?_ ?_ ?_ ?_ <;>simp[*,cC,dq,cO,cR,aw,cz,dX,I.only,I.ct,aq.only,ov]
  have hnd:=X9 hk to;refine ae.l9 (osb0:=iT []) (tsR:=[(9,.ptr 1000009 [])]) (ρ:=[(1999999,999999),(1000009,9),(1000080,80)])
   (fun k os=>os=iT ((fy s2 to).take k))
   (fun _ _=>False)
   ⟨rfl,rfl⟩ (u8 rfl) (by simp only[bG,simprocAttr]) hcap zF (FG s2 to (by omega)) (fun _=>rfl) rfl rfl rfl (fun o=>⟨?_,?_⟩) ?_ ?_ ?_ ?_ ?_ ?_ ?_
  ·intro n x hx;simp only[en,iT,aj] at hx
   repeat' split at hx
   all_goals first | (cases hx;done) | (subst_vars;simp only[v6] at hx;subst hx;simp[en,iT,aw,bI,aj,aq.bl,I.bl,I.dT,aq.only,I.only,I.ct,aq.eh])
  ·intro a b ha hb;simp only[en,iT,aw,aj] at ha hb
   repeat' split at ha
   all_goals first | (simp at ha;done) | skip
   all_goals (repeat' split at hb)
   all_goals first | (simp at hb;done) | (subst_vars;simp[bI])
  ·simp[na,cz,I.bl,bI,I.only,iT,aw,aj]
  ·rintro k os rfl;exact Yy ..
  ·rintro e os h;exact h.elim
  ·simp[iT]
  ·rintro k osb hk' rfl W1 D1 E1 qG o1 o2;obtain ⟨r,hr0⟩:∃ r,r=(fy s2 to).getD k tE:=⟨_,rfl⟩
   have hri:(fy s2 to)[k]=r:=by rw[hr0];simp[Z0,hk']
   have hsu:(fy s2 to).take (k+1)=(fy s2 to).take k++[r]:=by rw[zz1 hk',hri]
   have hN2:(fy s2 to).length≤400:=by
    have J:=X8 s2 to;omega
   have hk2:k<400:=Nat.lt_of_lt_of_le hk' hN2;have hlast:∀ j,j+1=k→∃ u,((fy s2 to).take k)[j]?=some u∧u≠r:=fun j hj=>by
    refine ⟨(fy s2 to)[j],by rw[List.getElem?_take_of_lt (by omega),Y7],fun e =>?_⟩;rw[←hri] at e;have:=(List.getElem_inj hnd).1 e;omega
   have hxl:((fy s2 to).take k).length=k:=by rw[zz8];omega
   generalize (fy s2 to).take k=xs at hsu hlast hxl ⊢;simp only[←hr0,tx,en,iT];have hst:∀ A rest b x y z w u,dp A (some 5) 10 [] b (enc r) rest (some (.agg [.int .i64 x,.int .i64 y,.int .i64 z,.int .i64 w,.int .i64 u]))=az rest (A.aV 10 (.box (enc r))):=fun A rest b x y z w u=>nf.1 A 10 b rest r x y z w u;have R:=y6 @hst (y6 @cD (y6 @bq (y6 @bS (y6 @bu (y6 @bp aH)))))
   repeat' ((first |(with_reducible refine .guard (fun hb =>?_) (fun hb =>?_) <;>try simp only[hb])|refine ae.aJ (by decide +kernel) rfl fun K hK =>?_|(refine .aA [0,1,2,4,5,6,7,9,10,14,24,40,41,54] hK ?_;clear hK K)|(with_reducible refine .done (hK _ ?_);clear hK K)|refine ae.of rfl ?_|(with_reducible refine aC.aI (fun h =>?_) (fun h =>?_) <;>try simp only[h])) <;>try simp only[aK,R,simprocAttr])
   all_goals clear R
   refine ⟨by simp[],?_⟩;have stOwn:∀ (A:ai) n b m k m' k' rest,dp A none n [] b (.own m k) rest (some (.own m' k'))=az rest (A.aV n (.box (.own m k))) :=
    fun _ _ _ m k m' k' _=>by rw[dP (s:=none) (v:=.own m k) (old:=.own m' k') rfl rfl rfl,oj]
   have hbs:fE 5 (some [enc r])=some (enc [r]):=jm 5 r rfl;have hap:=fun (A:ai) d rest=>p5 (A:=A) (d:=d) 39 5 40 1000080 (l:=xs.length) (es:=xs) (ys:=[r]) (rest:=rest) rfl rfl (by simp) (by simp[maxLen];omega) (by simp;omega);have iA:∀ ts z1 z2 z3 z4 z5,EM o2 (fun os=>os=[(1000009,.box (.own 1000080 ((fy s2 to).take (k+1)).length)),(1000080,.bY 39 5 (((fy s2 to).take (k+1)).map enc))]) (fun _ _=>False) .normal
     (au ts [(1000009,.box (.own 1000080 (xs++[r]).length)),(1000080,.bY 39 5 ((xs++[r]).map enc)),(1999999,.dG o2),(10,z1),(10,z2),(1999999,z3),(1000009,z4),(1000080,z5)]):=fun ts z1 z2 z3 z4 z5=>by
    refine ⟨_,?_,rfl⟩;rw[hsu];intro n x hx;simp only[en,aj] at hx
    (repeat' split at hx) <;>first
     |(cases hx;done)
     |(subst_vars;simp only[v6] at hx;subst hx;simp[en,aw,au,aj,aq.only,I.only,aq.eh,ik,-List.map_append])
   have hle:=fun (A:ai) (h:A.o 1000080=some (.bY 39 5 (xs.map enc)))=>VS A 1000080 xs.length 39 5 xs h rfl;by_cases aW:k=0
   ·have hz:((xs.length:Int)==0)=true:=by rw[beq_iff_eq];omega
    have R:=y6 @hle (y6 @hz (y6 @hbs (y6 @hap (y6 @stOwn (y6 @cD (y6 @bq (y6 @bS (y6 @bu (y6 @bp aH)))))))))
    repeat' ((first |(with_reducible refine .guard (fun hb =>?_) (fun hb =>?_) <;>try simp only[hb])|refine ae.aJ (by decide +kernel) rfl fun K hK =>?_|(refine .aA [0,1,2,4,5,6,7,9,10,14,24,40,41,54] hK ?_;clear hK K)|(with_reducible refine .done (hK _ ?_);clear hK K)|refine ae.of rfl ?_|(with_reducible refine aC.aI (fun h =>?_) (fun h =>?_) <;>try simp only[h])) <;>try simp only[aK,R,simprocAttr])
    all_goals clear R
    exact iA _ _ _ _ _ _
   ·have hz:((xs.length:Int)==0)=false:=by rw[beq_eq_false_iff_ne];omega
    obtain ⟨u,hu,hne⟩:=hlast (k-1) (by omega);have hw1:IntKind.i64.wrap ((xs.length:Int)-1)=((k-1:Nat):Int):=by rw[jG _ (by omega) (by omega)];omega
    have hq:=AD u r;rw[decide_eq_false hne] at hq;have hie:=fun (A:ai) (h:A.o 1000080=some (.bY 39 5 (xs.map enc)))=>(by
     have hu2:(xs.map (enc (α:=dv)))[k-1]?=some (enc u):=by rw[zz3,hu];rfl
     have hc:xs.length=(xs.map (enc (α:=dv))).length∧True∧(0:Int)≤((k-1:Nat):Int)∧((k-1:Nat):Int)<((xs.map (enc (α:=dv))).length:Nat):=⟨by simp,trivial,by omega,by simp;omega⟩
     simp only[jP,h];rw[if_pos hc,Int.toNat_natCast,hu2];rfl:jP A 5 ((k-1:Nat):Int) (.own 1000080 xs.length)=some (.ref (enc u)))
    have R:=y6 @hle (y6 @hz (y6 @hw1 (y6 @hie (y6 @hq (y6 @hbs (y6 @hap (y6 @stOwn (y6 @cD (y6 @bq (y6 @bS (y6 @bu (y6 @bp aH))))))))))))
    repeat' ((first |(with_reducible refine .guard (fun hb =>?_) (fun hb =>?_) <;>try simp only[hb])|refine ae.aJ (by decide +kernel) rfl fun K hK =>?_|(refine .aA [0,1,2,4,5,6,7,9,10,14,24,40,41,54] hK ?_;clear hK K)|(with_reducible refine .done (hK _ ?_);clear hK K)|refine ae.of rfl ?_|(with_reducible refine aC.aI (fun h =>?_) (fun h =>?_) <;>try simp only[h])) <;>try simp only[aK,R,simprocAttr])
    all_goals clear R
    all_goals exact iA _ _ _ _ _ _
  ·rintro os rfl;rw[List.take_length];simp only[iT,dB,Z4,zy1,bI,aq.bl,I.bl,tG,ef,jL,reduceIte,Nat.reduceEqDiff,Z9,List.nil_append];have hfo:kV (fy s2 to).length (some (.bY 39 5 ((fy s2 to).map enc)))=some (enc (fy s2 to)):=ql 5 rfl rfl;have R:=y6 @hfo (y6 @cD (y6 @bq (y6 @bS (y6 @bu (y6 @bp aH)))))
   repeat' ((first |(with_reducible refine .guard (fun hb =>?_) (fun hb =>?_) <;>try simp only[hb])|refine ae.aJ (by decide +kernel) rfl fun K hK =>?_|(refine .aA [0,1,2,4,5,6,7,9,10,14,24,40,41,54] hK ?_;clear hK K)|(with_reducible refine .done (hK _ ?_);clear hK K)|refine ae.of rfl ?_|(with_reducible refine aC.aI (fun h =>?_) (fun h =>?_) <;>try simp only[h])) <;>try simp only[aK,R,simprocAttr])
   all_goals clear R
  ·rintro e os h;exact h.elim
def vl:bo:=⟨0,[],0⟩
def vm:bo:=⟨0,[⟨1,7,0,0⟩],0⟩
def vn:bo:=⟨0,[⟨1,7,0,0⟩],1⟩
def nC:bo:=⟨0,[⟨1,7,0,0⟩,⟨3,7,1,1⟩],1⟩
def nE:bo:=⟨0,[⟨1,7,0,0⟩,⟨3,7,1,1⟩],2⟩
def vp:bo:=⟨0,[⟨1,7,0,0⟩,⟨3,7,1,1⟩,⟨5,7,1,1⟩],2⟩
def vq:bo:=⟨1,[],0⟩
def qh:bo:=⟨1,[⟨7,7,0,1⟩],0⟩
def vr:bo:=⟨1,[⟨7,7,0,1⟩],1⟩
def oV:dv:=⟨1,0,1,7,1⟩
def oW:dv:=⟨2,1,0,7,1⟩
def vt:fj:=⟨⟨#[112,111,117,110,100,32,48,32,49,10,112,111,117,110,100,32,55,10,115,101,110,100,32,55,32,49,32,49,10]⟩⟩
theorem Mq:qT 0=(vl,0):=by decide +kernel
theorem MA:qT 1=(vq,0):=by decide +kernel
theorem Ms:kg vl 7=(vm,0):=by decide +kernel
theorem Mt:ni vm=(vn,0):=by decide +kernel
theorem Mu:jB vn 7 1=(nC,⟨1,1,7,false⟩,0):=by decide +kernel
theorem Mv:pG nC 1=([],0):=by decide +kernel
theorem Mw:tw nC=(vt,0):=by decide +kernel
theorem Mx:ni nC=(nE,0):=by decide +kernel
theorem My:pG nE 1=([oV],0):=by decide +kernel
theorem MB:fF vq oV=(qh,0):=by decide +kernel
theorem ME:ue [nE,qh] 7=([1],0):=by decide +kernel
theorem MC:ni qh=(vr,0):=by decide +kernel
theorem MD:pG vr 0=([oW],0):=by decide +kernel
theorem Mz:fF nE oW=(vp,0):=by decide +kernel
theorem Mr:tI vp=([],0):=by decide +kernel
theorem HJ(a b c d:Int):(dO [.int .i64 0,.int .i64 0,.int .i64 0,.int .i64 0,.int .i64 0] [(0,.int .i64 a),(2,.int .i64 b),(3,.int .i64 c),(4,.int .i64 d)]).map I.agg=some (enc (⟨a,0,b,c,d⟩:dv)):=by simp[dO,I.bU,I.size];rfl
theorem HK(a b c d:Int):(dO [.int .i64 0,.int .i64 0,.int .i64 0,.int .i64 0,.int .i64 0] [(0,.int .i64 a),(1,.int .i64 b),(3,.int .i64 c),(4,.int .i64 d)]).map I.agg=some (enc (⟨a,b,0,c,d⟩:dv)):=by simp[dO,I.bU,I.size];rfl
theorem HP(r:dv):fE 5 (some [enc r])=some (enc [r]):=jm 5 r rfl
theorem HT(a b:bo):fE 3 (some [enc a,enc b])=some (enc [a,b]):=p8 (ys:=[a,b]) 3 rfl
theorem Mk(s:fj)(b:ByteArray)(h:s.b=b):cB .eql (enc s) (.bQ b)=some (.bool true):=by
 subst h
 show cB .eql (.bQ s.b) (.bQ s.b)=_
 simp[cB]
theorem F1:bf Tryz.prog 18 [] (enc true):=by
 have J:=xU 0;have U:=xU 1;have ah:=xV vl 7;have ar:=rX vm;have h5:=xW vn 7 1;have h6:=um nC 1;have h7:=Ga nC;have h8:=rX nC;have h9:=um nE 1;have h10:=r0 vq oV;have h11:=F6 [nE,qh] 7;have h12:=rX qh;have h13:=um vr 0;have h14:=r0 nE oW;have h15:=F8 vp;rw[Mq] at J;rw[MA] at U;rw[Ms] at ah;rw[Mt] at ar;rw[Mu] at h5;rw[Mv] at h6;rw[Mw] at h7;rw[Mx] at h8;rw[My] at h9;rw[MB] at h10;rw[ME] at h11;rw[MC] at h12;rw[MD] at h13;rw[Mz] at h14;rw[Mr] at h15;simp only at J U ah ar h5 h6 h7 h8 h9 h10 h11 h12 h13 h14 h15;have h16:=xT [oV] [oV];have h17:=xT [oW] [oW];have h18:=F7 [1] [1];rw[decide_eq_true rfl] at h16 h17 h18;refine bf.b9 Tryz.func18 Ih Jh Ks (u8 rfl) (fun hwf W0 bH E1 =>?_);simp only[yT,DH,bN];clear hwf;have q3:((0:Int)==0)=true:=rfl;have hst:∀ A n b rest x y z w (q:dh),dp A (some 4) n [] b (enc q) rest (some (.agg [.int .i64 x,.int .i64 y,.int .i64 z,.bool w]))=az rest (A.aV n (.box (enc q))):=fun A n b rest x y z w q=>mi.1 A n b rest q x y z w;have hst2:∀ A n b rest (q:dv) x y z w u,dp A (some 5) n [] b (enc q) rest (some (.agg [.int .i64 x,.int .i64 y,.int .i64 z,.int .i64 w,.int .i64 u]))=az rest (A.aV n (.box (enc q))):=fun A n b rest q x y z w u=>nf.1 A n b rest q x y z w u;have eO:(⟨1,0,1,7,1⟩:dv)=oV:=rfl;have eR:(⟨2,1,0,7,1⟩:dv)=oW:=rfl;have hR:=Mj ⟨1,1,7,false⟩ ⟨1,1,7,false⟩;rw[decide_eq_true rfl] at hR;have hS:cB .eql (enc vt) (.bQ ⟨#[112,111,117,110,100,32,48,32,49,10,112,111,117,110,100,32,55,10,115,101,110,100,32,55,32,49,32,49,10]⟩)=some (.bool true):=Mk vt _ rfl;have hL:∀ α:Type,((([]:List α).length:Nat):Int)=0:=fun _=>rfl;have R:=y6 @q3 (y6 @hL (y6 @hst (y6 @hst2 (y6 @HJ (y6 @HK (y6 @eO (y6 @eR (y6 @sq (y6 @HP (y6 @HT (y6 @yD (y6 @hR (y6 @hS (y6 @cD (y6 @bq (y6 @bS (y6 @bu (y6 @bp aH))))))))))))))))))
 repeat' ((first |(with_reducible refine .guard (fun hb =>?_) (fun hb =>?_) <;>try simp only[hb])|refine ae.aJ (by decide +kernel) rfl fun K hK =>?_|refine .lead _ (J) ?_|refine .lead _ (U) ?_|refine .lead _ (ah) ?_|refine .lead _ (ar) ?_|refine .lead _ (h5) ?_|refine .lead _ (h6) ?_|refine .lead _ (h7) ?_|refine .lead _ (h8) ?_|refine .lead _ (h9) ?_|refine .lead _ (h10) ?_|refine .lead _ (h11) ?_|refine .lead _ (h12) ?_|refine .lead _ (h13) ?_|refine .lead _ (h14) ?_|refine .lead _ (h15) ?_|refine .flat _ (h16) rfl ?_|refine .flat _ (h17) rfl ?_|refine .flat _ (h18) rfl ?_|(refine .aA [0,1,2,3,4,5,6,7,8,9,10,11,12,13,14,15,16,17,18,19,20,21,22,23,24,25,26] hK ?_;clear hK K)|(with_reducible refine .done (hK _ ?_);clear hK K)|refine ae.of rfl ?_|(with_reducible refine aC.aI (fun h =>?_) (fun h =>?_) <;>try simp only[h])) <;>try simp only[aK,R,simprocAttr])
 all_goals clear R
structure oD where
 aD:Int
 to:Int
 no:Int
 deriving DecidableEq,Inhabited
instance:Enc oD where
 enc g:=.agg [.int .i64 g.aD,.int .i64 g.to,.int .i64 g.no]
 sz:=3
 aX:=.eG [.one,.one,.one]
 gH:=true
 done g:=by simp only[I.done,I.hl,Bool.and_self]
 size g:=by simp only[I.size,I.sizes]
 iu g:=by simp only[I.aX,I.cX]
 agg _:=rfl
theorem YM:(∀ g:oD,(enc g).dJ=some [.int .i64 g.aD,.int .i64 g.to,.int .i64 g.no])∧(∀ (a b c:Int) v,dm [.int .i64 a,.int .i64 b,.int .i64 c] 0 0 v=some v)∧(∀ (a b c:Int) v,dm [.int .i64 a,.int .i64 b,.int .i64 c] 1 1 v=some v)∧(∀ (a b c:Int) v,dm [.int .i64 a,.int .i64 b,.int .i64 c] 2 2 v=some v) :=
 ⟨fun _=>rfl,fun _ _ _ _=>rfl,fun _ _ _ _=>rfl,fun _ _ _ _=>rfl⟩
end Go.Proofs.YthbdbocionnfgaaGreatDoor
namespace Go.Proofs.YthbdbocionnfgaaGreatDoor
open Go Go.Abs Go.ChangeShapes Go.WideShapes Go.RowKit
open Go.Abs.Enc (enc)
theorem Wm:iy Tryz.prog 46 oD:=⟨by kernel_rfl,by decide,fun h=>by
 obtain ⟨a,b,c,hab⟩:=CW (α:=Int) (β:=Int) (γ:=Int) (u0:=3) (u1:=3) (u2:=3) (by kernel_rfl) jf jf jf (by kernel_rfl) h;exact ⟨⟨a,b,c⟩,hab⟩⟩
end Go.Proofs.YthbdbocionnfgaaGreatDoor
namespace Go.Proofs.YthbdbocionnfgaaGreatDoor
open Go Go.Abs
open Go.Abs.Enc (enc)
theorem ET:∀ (a b:List bg) (s:cd),(ep s (a++b)).2=true→(ep s a).2=true
 | [],_,_,_=>rfl
 |x::a,b,s,h=>by
  simp only[Z9,ep] at h ⊢;split at h
  ·split at h
   ·rename_i J U;rw[if_pos J,if_pos U];exact ET a b _ h
   ·cases h
  ·cases h
theorem ES:∀ (a b:List bg) (s:cd),(ep s a).2=true→ep s (a++b)=ep (ep s a).1 b
 | [],_,_,_=>rfl
 |x::a,b,s,h=>by
  simp only[Z9,ep] at h ⊢;split at h
  ·split at h
   ·rename_i J U;rw[if_pos J,if_pos U,if_pos J,if_pos U];exact ES a b _ h
   ·cases h
  ·cases h
structure jI (p q:bo):Prop where
 ok:eI q=0
 av:q.av=p.av
 kT:0≤p.cq
 fl:p.cq≤q.cq
 Y1:p.cq≤q.j.length
 Y0:p.cq≤p.j.length
 same:∀ i:Nat,(i:Int)<p.cq→∀ (J:i<q.j.length) (U:i<p.j.length),q.j[i]=p.j[i]
 Y2:q.j.length≤200
theorem oZ{p:bo}(h:eI p=0):0≤p.cq∧p.cq≤p.j.length:=by
 have:=(nz h).2.2.1;simpa only[cG,t8,decide_eq_true_eq] using this
theorem jI.rfl'{p:bo}(h:eI p=0):jI p p:=⟨h,rfl,(oZ h).1,Int.le_refl _,(oZ h).2,(oZ h).2,fun _ _ _ _=>rfl,(nz h).2.1⟩
theorem pg{p:bo}{x:bg}(h:eI p=0)(hx:eJ x=true)(hn:(cH (jT p) x).2=true)(U:(fJ p x).2=0):jI p (fJ p x).1∧(fJ p x).1.j=p.j++[x]∧jT (fJ p x).1=(cH (jT p) x).1:=by
 obtain ⟨c1,c2,c3,lE⟩:=nz h;have ao:¬ p.j.length=200:=fun e=>by simp[fJ,e] at U
 have hw:fJ p x=(⟨p.av,p.j++[x],p.cq⟩,0):=by simp only[fJ,if_neg ao]
 rw[hw];have hr:=ES p.j [x] (hd p.av) lE;have hr2:ep (jT p) [x]=((cH (jT p) x).1,true):=by simp only[ep,hx,hn,if_true]
 have hr3:ep (hd p.av) (p.j++[x])=((cH (jT p) x).1,true):=hr.trans hr2;obtain ⟨kT,f1⟩:=oZ h;have hlen:(p.j++[x]).length=p.j.length+1:=by simp
 refine ⟨⟨if_pos ⟨c1,by simp only[hlen];omega,?_,by simp only[hr3]⟩,rfl,kT,Int.le_refl _,by simp only[hlen];omega,f1,fun i hi J ah =>?_,by simp only[hlen];omega⟩,rfl,?_⟩
 ·simp only[List.getElem_append_left ah]
 ·simp only[jT,hr3]
 ·simp only[cG,t8,decide_eq_true_eq,hlen];omega
theorem VE{p:bo}(h:eI p=0):jI p ⟨p.av,p.j,p.j.length⟩:=by
 obtain ⟨c1,c2,c3,lE⟩:=nz h;obtain ⟨kT,f1⟩:=oZ h;refine ⟨if_pos ⟨c1,c2,?_,lE⟩,rfl,kT,f1,f1,f1,fun _ _ _ _=>rfl,c2⟩;simp only[cG,t8,decide_eq_true_eq];omega
theorem Vz{p:bo}(h:eI p=0){k:Int}(J:p.cq≤k)(U:k≤p.j.length):jI p ⟨p.av,p.j.take k.toNat,k⟩:=by
 obtain ⟨c1,c2,c3,lE⟩:=nz h;obtain ⟨kT,f1⟩:=oZ h;have hlen:(p.j.take k.toNat).length=k.toNat:=by rw[zz8];omega
 have sv:(ep (hd p.av) (p.j.take k.toNat)).2=true:=by
  refine ET _ (p.j.drop k.toNat) _ ?_;rw[zy8];exact lE
 refine ⟨if_pos ⟨c1,by simp only[hlen];omega,?_,sv⟩,rfl,kT,J,by simp only[hlen];omega,f1,fun i _ _ _=>by simp only[List.getElem_take],by simp only[hlen];omega⟩;simp only[cG,t8,decide_eq_true_eq,hlen];omega
theorem nk(p q:bo)(hk:jI p q):bf Tryz.prog 43 [enc p,enc q] (enc true):=by
 refine bf.b9 Tryz.func43 Iu Jt KF (u8 rfl) (fun hwf W0 bH E1 =>?_);simp only[zb,DT,bN,Z1];clear hwf;obtain ⟨k1,k2,k3,k4,k5,k6,k7,k8⟩:=hk;have hF1:=oF q;rw[Ak,k1] at hF1;have q1:(q.av != p.av)=false:=by simp[k2]
 have q2:decide (q.cq<p.cq)=false:=by simp;omega
 have q3:decide ((q.j.length:Int)<p.cq)=false:=by simp;omega
 have R:=y6 @q1 (y6 @q2 (y6 @q3 (y6 @cD (y6 @bq aH))))
 repeat' ((first |(with_reducible refine .guard (fun hb =>?_) (fun hb =>?_) <;>try simp only[hb])|refine ae.aJ (by decide +kernel) rfl fun K hK =>?_|refine .flat _ (hF1) rfl ?_|(refine .aA [0,1,2,3,4,5,30,34,47] hK ?_;clear hK K)|(with_reducible refine .done (hK _ ?_);clear hK K)|refine ae.of rfl ?_|(with_reducible refine aC.aI (fun h =>?_) (fun h =>?_) <;>try simp only[h])) <;>try simp only[aK,R,simprocAttr])
 all_goals clear R
 refine ae.loop (fun i:Nat=>au [(2,.ptr 2 []),(3,.ptr 3 []),(4,.bool false),(5,.int .i64 i)] [(3,.box (enc q)),(2,.box (enc p))]) (fun i=>(i:Int)≤p.cq) (fun i=>p.cq.toNat-i) 0 (by omega) ?_ (fun i hi =>?_)
 ·refine bB.dF ?_ ?_ ?_ ?_ <;>simp[cC,dq,cO,cR,aw,cz,dX,I.only,aq.only,cJ]
 by_cases hlt:(i:Int)<p.cq
 ·have hlc:decide ((i:Int)<p.cq)=true:=decide_eq_true hlt;have hq:i<q.j.length:=by omega
  have hp:i<p.j.length:=by omega
  have he1:=fun A=>fb (A:=A) 4 hq rfl;have he2:=fun A=>fb (A:=A) 4 hp rfl;have hw:=gK (i:=i) (by omega);have ab:=k7 i hlt hq hp;rw[ab] at he1;have ay:=AB p.j[i] p.j[i];rw[decide_eq_true rfl] at ay;have R:=y6 @hlc (y6 @he1 (y6 @he2 (y6 @ay (y6 @hw (y6 @cD (y6 @bq aH))))))
  repeat' ((first |(with_reducible refine .guard (fun hb =>?_) (fun hb =>?_) <;>try simp only[hb])|refine ae.aJ (by decide +kernel) rfl fun K hK =>?_|(refine .aA [0,1,2,3,4,5,30,34,47] hK ?_;clear hK K)|(with_reducible refine .done (hK _ ?_);clear hK K)|refine ae.of rfl ?_|(with_reducible refine aC.aI (fun h =>?_) (fun h =>?_) <;>try simp only[h])) <;>try simp only[aK,R,simprocAttr])
  all_goals clear R
  refine ⟨i+1,by omega,by omega,?_⟩;refine bB.dF ?_ ?_ ?_ ?_ <;>simp[cC,dq,cO,cR,aw,cz,dX,I.only,aq.only,cJ]
 ·have hlc:decide ((i:Int)<p.cq)=false:=decide_eq_false hlt;have R:=y6 @hlc (y6 @cD (y6 @bq aH))
  repeat' ((first |(with_reducible refine .guard (fun hb =>?_) (fun hb =>?_) <;>try simp only[hb])|refine ae.aJ (by decide +kernel) rfl fun K hK =>?_|(refine .aA [0,1,2,3,4,5,30,34,47] hK ?_;clear hK K)|(with_reducible refine .done (hK _ ?_);clear hK K)|refine ae.of rfl ?_|(with_reducible refine aC.aI (fun h =>?_) (fun h =>?_) <;>try simp only[h])) <;>try simp only[aK,R,simprocAttr])
  all_goals clear R
end Go.Proofs.YthbdbocionnfgaaGreatDoor
namespace Go.Proofs.YthbdbocionnfgaaGreatDoor
open Go Go.Abs
def tm(r:dh):Prop:=cG 1 9999 r.aD=true∧cG 0 5 r.to=true∧cG 1 200 r.no=true
theorem Xa{x:bg}(h:eJ x=true)(hk:3≤x.kind):cG 1 9999 x.aD=true∧cG 0 5 x.other=true∧cG 1 200 x.no=true:=by
 simp only[eJ] at h;rw[if_neg (by omega)] at h;split at h
 ·simp only[t8] at h;exact ⟨h.1,h.2.1,h.2.2⟩
 ·cases h
theorem Wh{s s':aB}{x:bg}(hx:eJ x=true)(h:∀ r∈s.all,tm r)(ab:cu s)(hn:di s x=some s'):∀ r∈s'.all,tm r:=by
 by_cases k3:x.kind=3
 ·simp only[di] at hn;rw[if_neg (by omega),if_neg (by omega),if_pos k3] at hn;split at hn
  ·cases hn;intro r hr;rcases zy0.1 hr with hr | hr
   ·exact h r hr
   ·rw[zz7.1 hr];exact Xa hx (by omega)
  ·cases hn
 by_cases k4:x.kind=4
 ·simp only[di] at hn;rw[if_neg (by omega),if_neg (by omega),if_neg k3,if_pos k4] at hn;split at hn
  ·rename_i i hi;split at hn
   ·cases hn
   ·cases hn;intro r hr;rcases List.mem_or_eq_of_mem_set hr with hr | hr
    ·exact h r hr
    ·have hm:s.bJ i∈s.all:=by
      have hil:=ab.cv i (h3 (mM hi).1).1;have:s.bJ i=s.all[i]:=by simp[aB.bJ,Z0,hil]
      rw[this];exact List.getElem_mem hil
     have ar:=h _ hm;rw[hr];exact ar
  ·cases hn
 have hall:s'.all=s.all:=by
  simp only[di] at hn
  (repeat' split at hn) <;>first | (cases hn;done) | (cases hn;rfl) | (rename_i bC;exact absurd bC k3) | (exfalso;first | exact k3 ‹_› | exact k4 ‹_›)
 rw[hall];exact h
theorem ER:∀ (l:List bg) {s s':aB},(∀ r∈s.all,tm r)→cu s→fG s l=some s'→∀ r∈s'.all,tm r
 | [],s,s',h,_,hr=>by cases hr;exact h
 |x::l,s,s',h,ab,hr=>by
  simp only[fG,fh] at hr;by_cases hx:eJ x=true
  ·rw[if_pos hx] at hr;cases hn:di s x with
   |none=>rw[hn] at hr;cases hr
   |some s1=>rw[hn] at hr;exact ER l (Wh hx h ab hn) (ab.next hn).1 hr
  ·rw[if_neg hx] at hr;cases hr
theorem VB{p:bo}{b:Int}(hc:eI p=0)(h:(kg p b).2=0):jI p (kg p b).1:=by
 rcases both p with ⟨_,hc'⟩ | ⟨s,ho,_,hr,ab,ao⟩
 ·rw[hc] at hc';cases hc'
 simp only[kg,ho] at h ⊢;split at h
 ·cases h
 ·rename_i q;rw[if_neg q];split at h
  ·cases h
  ·rename_i c;rw[if_neg c];have q':cG 1 9999 b=true:=by simpa using q
   have hx:eJ ⟨1,b,0,0⟩=true:=by simp only[eJ,q'];rfl
   have hst:=hr.step hx;rw[show di s ⟨1,b,0,0⟩=some { s with here:=gw s.here b } by simp only[di,if_true,if_neg c]] at hst;exact (pg hc hx hst.1 h).1
theorem VC{p:bo}{b:Int}(hc:eI p=0)(h:(lg p b).2=0):jI p (lg p b).1:=by
 rcases both p with ⟨_,hc'⟩ | ⟨s,ho,_,hr,ab,ao⟩
 ·rw[hc] at hc';cases hc'
 simp only[lg,ho] at h ⊢;split at h
 ·cases h
 ·rename_i q;rw[if_neg q];split at h
  ·rename_i c;rw[if_pos c];have q':cG 1 9999 b=true:=by simpa using q
   have hx:eJ ⟨2,b,0,0⟩=true:=by simp only[eJ,q'];rfl
   have hst:=hr.step hx;rw[show di s ⟨2,b,0,0⟩=some { s with here:=s.here.erase b } from (if_neg (show ¬ (2:Int)=1 by decide)).trans ((if_pos rfl).trans (if_pos c))] at hst;exact (pg hc hx hst.1 h).1
  ·cases h
theorem VD{p:bo}{b to:Int}(hc:eI p=0)(h:(jB p b to).2.2=0):jI p (jB p b to).1:=by
 rcases both p with ⟨_,hc'⟩ | ⟨s,ho,_,hr,ab,ao⟩
 ·rw[hc] at hc';cases hc'
 simp only[jB,ho] at h ⊢;split at h
 ·cases h
 ·rename_i q;rw[if_neg q];split at h
  ·cases h
  ·rename_i q2;rw[if_neg q2];split at h
   ·cases h
   ·rename_i q3;rw[if_neg q3];split at h
    ·cases h
    ·rename_i q4;rw[if_neg q4];have q':cG 1 9999 b=true:=by simpa using q
     have q2':=not_or.1 q2;have q5:cG 0 5 to=true:=by simpa using q2'.1
     have q6:b∈s.here:=Classical.byContradiction q3;have hln:s.all.length≤p.j.length:=(gf ho).2.2.1;have hx:eJ ⟨3,b,to,(s.all.length:Int)+1⟩=true:=by
      have:cG 1 200 ((s.all.length:Int)+1)=true:=by simp only[cG,t8,decide_eq_true_eq];omega
      simp only[eJ,q',q5,this];rfl
     have hst:=hr.step hx;have hme:s.av=p.av:=(gf ho).2.1;have hc3:b∈s.here∧to≠s.av∧((s.all.length:Int)+1)=(s.all.length:Int)+1:=⟨q6,by rw[hme];exact q2'.2,rfl⟩
     have hn:di s ⟨3,b,to,(s.all.length:Int)+1⟩=some { s with here:=s.here.erase b,all:=s.all++[⟨(s.all.length:Int)+1,to,b,false⟩],aQ:=s.aQ++[s.all.length] } :=
      (if_neg (show ¬ (3:Int)=1 by decide)).trans ((if_neg (show ¬ (3:Int)=2 by decide)).trans ((if_pos rfl).trans (if_pos hc3)))
     rw[hn] at hst;exact (pg hc hx hst.1 (by simp[fJ,q4])).1
theorem Vy{p:bo}{no:Int}(hc:eI p=0)(h:(kJ p no).2=0):jI p (kJ p no).1:=by
 rcases both p with ⟨_,hc'⟩ | ⟨s,ho,_,hr,ab,ao⟩
 ·rw[hc] at hc';cases hc'
 simp only[kJ,ho] at h ⊢;cases ha:s.at no with
 |none=>rw[ha] at h;cases h
 |some i =>
  rw[ha] at h;simp only at h ⊢;cases hcl:(s.bJ i).c9 with
  |true=>rw[hcl] at h;cases h
  |false =>
   rw[hcl] at h;simp only[Z2,if_false] at h ⊢;obtain ⟨J,U⟩:=h3 ha;have hil:=hr.ok.cv i J;have hm:s.bJ i∈s.all:=by
    have:s.bJ i=s.all[i]:=by simp[aB.bJ,Z0,hil]
    rw[this];exact List.getElem_mem hil
   have hrd:=ER p.j (s:=eN p.av) (fun r hr=>by simp[eN] at hr) (kj p.av) (gf ho).2.2.2.2.2 _ hm;have hno:=hr.no i hil;have hx:eJ ⟨4,(s.bJ i).aD,(s.bJ i).to,no⟩=true:=by
    have ah:=hrd.2.2;rw[hno,←U] at ah;simp only[eJ,hrd.1,hrd.2.1,ah];rfl
   have hst:=hr.step hx;have hon:s.on ⟨4,(s.bJ i).aD,(s.bJ i).to,no⟩=some i:=by simp only[aB.on,ha,and_self,if_true]
   have hn:di s ⟨4,(s.bJ i).aD,(s.bJ i).to,no⟩=some { s with all:=s.all.set i { s.bJ i with c9:=true } } :=by
    have:di s ⟨4,(s.bJ i).aD,(s.bJ i).to,no⟩=match s.on ⟨4,(s.bJ i).aD,(s.bJ i).to,no⟩ with
     |some i=>if (s.bJ i).c9 then none else some { s with all:=s.all.set i { s.bJ i with c9:=true } }
     |none=>none:=rfl
    rw[this,hon];simp only[hcl,Z2,if_false]
   rw[hn] at hst;exact (pg hc hx hst.1 h).1
theorem BQ{p:bo}{r:dv}(hc:eI p=0)(h:(fF p r).2=0):∃ s,cS p=some s∧nU r=true∧r.to=p.av∧((fh s (gU r)=none∧fF p r=(p,0))∨∃ s',fh s (gU r)=some s'∧fF p r=fJ p (gU r)):=by
 rcases both p with ⟨_,hc'⟩ | ⟨s,ho,_,hr,ab,ao⟩
 ·rw[hc] at hc';cases hc'
 simp only[fF,ho] at h ⊢;split at h
 ·cases h
 ·rename_i q;rw[if_neg q];have q':=not_or.1 q;refine ⟨s,rfl,by simpa using q'.1,Classical.byContradiction q'.2,?_⟩;cases ht:fh s (gU r) with
  |none=>exact .inl ⟨rfl,rfl⟩
  |some s'=>exact .inr ⟨s',rfl,rfl⟩
theorem Fs{s s':aB}{x:bg}(h:fh s x=some s'):eJ x=true∧di s x=some s':=by
 simp only[fh] at h;split at h
 ·rename_i hx;exact ⟨hx,h⟩
 ·cases h
theorem VA{p:bo}{r:dv}(hc:eI p=0)(h:(fF p r).2=0):jI p (fF p r).1:=by
 obtain ⟨s,ho,_,_,⟨ht,e⟩ | ⟨s',ht,e⟩⟩:=BQ hc h
 ·rw[e];exact jI.rfl' hc
 ·obtain ⟨hx,hn⟩:=Fs ht;have hr:=qY p;rw[ho] at hr;have hst:=hr.2.step hx;rw[hn] at hst;rw[e] at h ⊢;exact (pg hc hx hst.1 h).1
theorem Vu{r:dv}(h:nU r=true):5≤(gU r).kind∧(gU r).kind≤8:=by
 have hk:1≤r.kind∧r.kind≤4:=by
  simp only[nU,cG,t8,decide_eq_true_eq] at h;omega
 simp only[gU,ph];split;· omega
 split;· omega
 split;· omega
 rw[if_pos (by omega)];omega
theorem YL{s s':aB}{x:bg}(ab:cu s)(hk:5≤x.kind∧x.kind≤8)(h:di s x=some s'):di s' x=none:=by
 have gone:∀ i,s.on x=some i→∀ l a,({ s with aQ:=s.aQ.erase i,here:=l,all:=a } : aB).at x.no=none:=fun i hi l a=>by
  obtain ⟨J,U⟩:=h3 (mM hi).1;simp only[aB.at];refine List.find?_eq_none.2 fun j hj =>?_;simp only[decide_eq_true_eq];intro e;have:j=i:=by omega
  rw[this] at hj;exact (ab.ic.mem_erase_iff.1 hj).1 rfl
 by_cases k5:x.kind=5
 ·simp only[di] at h ⊢;rw[if_neg (by omega),if_neg (by omega),if_neg (by omega),if_neg (by omega),if_pos k5] at h ⊢;cases ho:s.on x with
  |none=>rw[ho] at h;cases h
  |some i =>
   rw[ho] at h;cases h;simp only[aB.on,gone i ho s.here s.all]
 by_cases k6:x.kind=6
 ·simp only[di] at h ⊢;rw[if_neg (by omega),if_neg (by omega),if_neg (by omega),if_neg (by omega),if_neg k5,if_pos k6] at h ⊢;cases ho:s.on x with
  |none=>rw[ho] at h;cases h
  |some i =>
   rw[ho] at h;simp only at h;split at h
   ·cases h;simp only[aB.on,gone i ho (gw s.here x.aD) s.all]
   ·cases h
 have bn:∀ l,({ s with bn:=s.bn++[x],here:=l } : aB).unknown x=false:=fun l=>by
  simp only[aB.unknown,aB.dU,Y6,Z4,zy1];simp
 by_cases k7:x.kind=7
 ·simp only[di] at h ⊢;rw[if_neg (by omega),if_neg (by omega),if_neg (by omega),if_neg (by omega),if_neg k5,if_neg k6,if_pos k7] at h ⊢;split at h
  ·cases h;rw[if_neg];intro bC;have:=bC.1;rw[bn] at this;cases this
  ·cases h
 ·simp only[di] at h ⊢;rw[if_neg (by omega),if_neg (by omega),if_neg (by omega),if_neg (by omega),if_neg k5,if_neg k6,if_neg k7,if_pos (by omega)] at h ⊢;split at h
  ·cases h;rw[if_neg];intro bC;rw[bn s.here] at bC;cases bC
  ·cases h
theorem Vg{p:bo}{r:dv}(hc:eI p=0)(h:(fF p r).2=0):fF (fF p r).1 r=((fF p r).1,0):=by
 obtain ⟨s,ho,hok,hto,⟨ht,e⟩ | ⟨s',ht,e⟩⟩:=BQ hc h
 ·rw[e];exact e
 ·obtain ⟨hx,hn⟩:=Fs ht;obtain ⟨_,_,_,_,_,hrd⟩:=gf ho;have hr:=qY p;rw[ho] at hr;have hst:=hr.2.step hx;rw[hn] at hst;rw[e] at h;obtain ⟨hK,hj,_⟩:=pg hc hx hst.1 h;rw[e];generalize (fJ p (gU r)).1=g at *;have hr2:=qY g;have hrd2:fk g.av g.j=some s':=by
   rw[hK.av,hj,fk,oh];rw[fk] at hrd;rw[hrd];simp only[Option.bind_some,fG,ht]
  cases hog:cS g with
  |none =>
   rw[hog] at hr2;have:=hK.ok;rw[hr2] at this;cases this
  |some s2 =>
   have hs2:s2=s':=by
    have:=(gf hog).2.2.2.2.2;rw[hrd2] at this;cases this;rfl
   subst hs2;have hn2:fh s2 (gU r)=none:=by
    rw[fh,if_pos hx];exact YL hr.2.ok (Vu hok) hn
   simp only[fF,hog,hok,hn2];rw[if_neg];rintro (c | c)
   ·cases c
   ·exact c (by rw[hK.av];exact hto)
end Go.Proofs.YthbdbocionnfgaaGreatDoor
namespace Go.Proofs.YthbdbocionnfgaaGreatDoor
open Go Go.Abs
open Go.Abs.Enc (enc)
def uy(p:bo)(r:dv)(a:oD):ai:=au [(3,.ptr 3 []),(4,.ptr 4 []),(5,.ptr 5 []),(6,.bool false),(16,.ptr 16 []),(17,.int .i64 (fF p r).2)] [(16,.box (enc (fF p r).1)),(5,.box (enc a)),(4,.box (enc r)),(3,.box (enc p))]
theorem Xw{W0:World}{bH:aP}{n:Nat}{own c4:_}(x y:bx)(Q:Exit→ai→Prop)(p:bo)(r:dv)(a:oD)(hc:eI p=0)
  (h:ae { P:=Tryz.prog,fH:=W0,bH:=bH,n:=n,own:=own,c4:=c4,Y:=dj,j2:=none } y Q (uy p r a)) :
  ae { P:=Tryz.prog,fH:=W0,bH:=bH,n:=n,own:=own,c4:=c4,Y:=dj,j2:=none } (.seq (.b8 none Bk) (.seq (.b8 none Bl) (.seq (.b8 none Bm) (.seq (.b8 none Bn) (.seq (.b8 none Bo) (.seq (.b8 none Bp) (.seq (.b8 none Bq) (.seq (.seq (.b8 none Bj) (.cond (.t 165) x .skip)) y)))))))) Q (au [(3,.ptr 3 []),(4,.ptr 4 []),(5,.ptr 5 []),(6,.bool false)] [(5,.box (enc a)),(4,.box (enc r)),(3,.box (enc p))]):=by
 unfold uy at h;have hne:∀ a:Int,(a != a)=false:=fun a=>by simp
 have hc0:∀ a:Int,(a==a)=true:=fun a=>beq_self_eq_true a;have K1:((kg p a.aD).2==0)=true→bf Tryz.prog 43 [enc p,enc (kg p a.aD).1] (enc true):=fun e=>nk _ _ (VB hc (by simpa using e));have K2:((lg p a.aD).2==0)=true→bf Tryz.prog 43 [enc p,enc (lg p a.aD).1] (enc true):=fun e=>nk _ _ (VC hc (by simpa using e));have K3:((jB p a.aD a.to).2.2==0)=true→bf Tryz.prog 43 [enc p,enc (jB p a.aD a.to).1] (enc true):=fun e=>nk _ _ (VD hc (by simpa using e));have K4:((kJ p a.no).2==0)=true→bf Tryz.prog 43 [enc p,enc (kJ p a.no).1] (enc true):=fun e=>nk _ _ (Vy hc (by simpa using e));have K5:((fF p r).2==0)=true→bf Tryz.prog 43 [enc p,enc (fF p r).1] (enc true):=fun e=>nk _ _ (VA hc (by simpa using e));obtain ⟨s,ho⟩:∃ s,cS p=some s:=by
  rcases both p with ⟨_,hc'⟩ | ⟨s,ho,_⟩
  ·rw[hc] at hc';cases hc'
  ·exact ⟨s,ho⟩
 obtain ⟨c1,c2,c3,lE,sv⟩:=As ho a.no;have H6:=rX p;rw[show ni p=(⟨p.av,p.j,p.j.length⟩,0) by simp only[ni,ho]] at H6;have H7:=FJ p a.no;rw[show qe p a.no=(⟨p.av,p.j.take (iY p a.no).toNat,iY p a.no⟩,0) by simp only[qe,ho]] at H7;have K6:=nk _ _ (VE hc);have K7:=nk _ _ (Vz hc c3 lE);have hk:(iY p a.no != ((p.j.take (iY p a.no).toNat).length:Int))=false:=by
  rw[zz8,bne_eq_false_iff_eq];omega
 simp only at H6 H7;generalize iY p a.no=k at *;have H1:=xV p a.aD;have H2:=F4 p a.aD;have H3:=xW p a.aD a.to;have H4:=F5 p a.no;have H5:=r0 p r;generalize (kg p a.aD).1=b1 at *;generalize (kg p a.aD).2=e1 at *;generalize (lg p a.aD).1=b2 at *;generalize (lg p a.aD).2=e2 at *;generalize (jB p a.aD a.to).1=b3 at *;generalize (jB p a.aD a.to).2.1=x3 at *;generalize (jB p a.aD a.to).2.2=e3 at *;generalize (kJ p a.no).1=b4 at *;generalize (kJ p a.no).2=e4 at *;generalize (fF p r).1=b5 at *;generalize (fF p r).2=e5 at *;have R:=y6 @hne (y6 @hc0 (y6 @hk (y6 @mi (y6 @YM (y6 @cD (y6 @bq aH))))))
 repeat' ((first |(with_reducible refine .guard (fun hb =>?_) (fun hb =>?_) <;>try simp only[hb])|refine ae.aJ (by decide +kernel) rfl fun K hK =>?_|refine .lead _ (H1) ?_|refine .lead _ (H2) ?_|refine .lead _ (H3) ?_|refine .lead _ (H4) ?_|refine .lead _ (H5) ?_|refine .lead _ (H6) ?_|refine .lead _ (H7) ?_|refine .flat _ (K1 (by assumption)) rfl ?_|refine .flat _ (K2 (by assumption)) rfl ?_|refine .flat _ (K3 (by assumption)) rfl ?_|refine .flat _ (K4 (by assumption)) rfl ?_|refine .flat _ (K5 (by assumption)) rfl ?_|refine .flat _ (K6) rfl ?_|refine .flat _ (K7) rfl ?_|(refine .aA [0,1,2,3,4,5,6,7,8,9,10,11,13,14,15,16,17,18,19,20,21,22,23,26,165,167,181] hK ?_;clear hK K)|(with_reducible refine .done (hK _ ?_);clear hK K)|refine ae.of rfl ?_|(with_reducible refine aC.aI (fun h =>?_) (fun h =>?_) <;>try simp only[h])) <;>try simp only[aK,R,simprocAttr])
 all_goals clear R
 all_goals (refine ae.sub ?_ h)
 all_goals clear h K1 K2 K3 K4 K5 K6 K7 H1 H2 H3 H4 H5 H6 H7
 all_goals (refine bB.dF ?_ ?_ ?_ ?_ <;>simp[cC,dq,cO,cR,aw,cz,dX,I.only,aq.only,cJ])
theorem Gj(p:bo)(r:dv)(a:oD):bf Tryz.prog 7 [enc p,enc r,enc a] (enc true):=by
 refine bf.b9 Tryz.func7 IG JE KQ (u8 rfl) (fun hwf W0 bH E1 =>?_);simp only[zm,D8,bN,Z1,Nat.reduceAdd];clear hwf;have hF1:=F3 p;have hF2:=oF p;rw[Ak] at hF2;have h6:=F1;by_cases hc:eI p=0
 rotate_left
 ·have J:eI p=91:=by simp only[eI] at hc ⊢;split <;>simp_all
  rw[J] at hF1 hF2;have R:=y6 @cD (y6 @bq aH)
  repeat' ((first |(with_reducible refine .guard (fun hb =>?_) (fun hb =>?_) <;>try simp only[hb])|refine ae.aJ (by decide +kernel) rfl fun K hK =>?_|refine .flat _ (hF1) rfl ?_|refine .flat _ (hF2) rfl ?_|refine .flat _ (h6) rfl ?_|(refine .aA [0,1,2,3,4,5,6,7,8,9,10,11,13,14,15,16,17,18,19,20,21,22,23,26,165,167,181] hK ?_;clear hK K)|(with_reducible refine .done (hK _ ?_);clear hK K)|refine ae.of rfl ?_|(with_reducible refine aC.aI (fun h =>?_) (fun h =>?_) <;>try simp only[h])) <;>try simp only[aK,R,simprocAttr])
  all_goals clear R
 rw[hc] at hF1;refine .gq (by decide +kernel) fun K hK =>?_;simp only[Bh,bG,simprocAttr]
 try simp only[aH,bG,simprocAttr]
 refine .done (hK _ ?_);clear hK K;refine ae.seq (ae.seq ?_);refine .j0 (by decide +kernel) fun K hK =>?_;simp only[Bi,bG,simprocAttr]
 try simp only[cD,aH,bG,simprocAttr]
 refine .flat _ hF1 rfl ?_
 try simp only[bG,simprocAttr]
 refine .done (hK _ ?_);clear hK K;try simp only[ef]
 refine ae.js ?_;simp only[aC,bG,simprocAttr];refine ⟨fun h =>?_,fun h =>?_⟩
 ·cases h
 refine ae.skip ?_;try simp only[ef,simprocAttr]
 refine ae.sub ?_ (Xw _ _ _ p r a hc ?_)
 ·refine bB.dF ?_ ?_ ?_ ?_ <;>simp[cC,dq,cO,cR,aw,cz,dX,I.only,aq.only,cJ]
 unfold uy;have hn0:∀ a:Int,(a==0)=false→(a != 0)=true:=fun a h=>by simpa using h
 rcases q:((fF p r).2==0)
 ·have R:=y6 @q (y6 @cD (y6 @bq aH))
  repeat' ((first |(with_reducible refine .guard (fun hb =>?_) (fun hb =>?_) <;>try simp only[hb])|refine ae.aJ (by decide +kernel) rfl fun K hK =>?_|refine .flat _ (h6) rfl ?_|(refine .aA [0,1,2,3,4,5,6,7,8,9,10,11,13,14,15,16,17,18,19,20,21,22,23,26,165,167,181] hK ?_;clear hK K)|(with_reducible refine .done (hK _ ?_);clear hK K)|refine ae.of rfl ?_|(with_reducible refine aC.aI (fun h =>?_) (fun h =>?_) <;>try simp only[h])) <;>try simp only[aK,R,simprocAttr])
  all_goals clear R
 ·have he:(fF p r).2=0:=by simpa using q
  have hT:=Vg hc he;have hS:∀ q:bo,bf Tryz.prog 16 [enc q,enc q] (enc true):=fun q=>by
   have:=F0 q q
   rwa [decide_eq_true rfl] at this
  have hH:=r0 (fF p r).1 r;rw[hT] at hH;have R:=y6 @q (y6 @cD (y6 @bq aH))
  repeat' ((first |(with_reducible refine .guard (fun hb =>?_) (fun hb =>?_) <;>try simp only[hb])|refine ae.aJ (by decide +kernel) rfl fun K hK =>?_|refine .lead _ (hH) ?_|refine .flat _ (hS _) rfl ?_|refine .flat _ (h6) rfl ?_|(refine .aA [0,1,2,3,4,5,6,7,8,9,10,11,13,14,15,16,17,18,19,20,21,22,23,26,165,167,181] hK ?_;clear hK K)|(with_reducible refine .done (hK _ ?_);clear hK K)|refine ae.of rfl ?_|(with_reducible refine aC.aI (fun h =>?_) (fun h =>?_) <;>try simp only[h])) <;>try simp only[aK,R,simprocAttr])
  all_goals clear R
end Go.Proofs.YthbdbocionnfgaaGreatDoor
