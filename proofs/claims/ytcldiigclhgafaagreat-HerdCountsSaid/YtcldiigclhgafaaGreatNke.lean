/-
  A part of the proof that the law HerdCounts returns true for every input; conditions: none beyond the statement's own. (part 5 of 7)
-/
import Derived.Shelf.Sort.Plain
import Derived.Shelf.Slices.In.SortNone
import Derived.Test.YtcldiigclhgafaaGreatNkd
set_option linter.unusedSimpArgs false
set_option linter.unusedVariables false
set_option maxHeartbeats 16000000
set_option maxRecDepth 100000
namespace Go.Proofs.YtcldiigclhgafaaGreat
open Go Go.Abs Go.Shelf
open Go.Abs.Enc (enc)
def aio:Go.Shelf.Ren:=⟨fun | 189=>107 | 125=>148 | 257=>147 | 128=>188 | 129=>189 | 294=>179 | 295=>180 | 296=>181 | 297=>182 | 298=>183 | 299=>184 | 216=>185 | 300=>186 | 301=>187 | 328=>205 | 329=>206 | 330=>207 | 331=>208 | 332=>209 | 215=>194 | 343=>214 | n=>n,fun | 28=>29 | 3=>3 | 46=>193 | 0=>0 | 51=>217 | 53=>219 | 4=>4 | 183=>210 | 182=>209 | 131=>150 | 5=>5 | 9=>9 | 218=>230 | 222=>234 | 228=>236 | 229=>237 | n=>n,fun | n=>n⟩
theorem Jk:Go.Proofs.Lays.n189 Tryz.prog aio := {
 mixed:=by kernel_rfl
 f125:=Tryz.func148.trans (congrArg some (by kernel_rfl))
 f128:=Tryz.func188.trans (congrArg some (by kernel_rfl))
 f129:=Tryz.func189.trans (congrArg some (by kernel_rfl))
 f189:=Tryz.func107.trans (congrArg some (by kernel_rfl))
 f215:=Tryz.func194.trans (congrArg some (by kernel_rfl))
 f216:=Tryz.func185.trans (congrArg some (by kernel_rfl))
 f257:=Tryz.func147.trans (congrArg some (by kernel_rfl))
 f294:=Tryz.func179.trans (congrArg some (by kernel_rfl))
 f295:=Tryz.func180.trans (congrArg some (by kernel_rfl))
 f296:=Tryz.func181.trans (congrArg some (by kernel_rfl))
 f297:=Tryz.func182.trans (congrArg some (by kernel_rfl))
 f298:=Tryz.func183.trans (congrArg some (by kernel_rfl))
 f299:=Tryz.func184.trans (congrArg some (by kernel_rfl))
 f300:=Tryz.func186.trans (congrArg some (by kernel_rfl))
 f301:=Tryz.func187.trans (congrArg some (by kernel_rfl))
 f328:=Tryz.func205.trans (congrArg some (by kernel_rfl))
 f329:=Tryz.func206.trans (congrArg some (by kernel_rfl))
 f330:=Tryz.func207.trans (congrArg some (by kernel_rfl))
 f331:=Tryz.func208.trans (congrArg some (by kernel_rfl))
 f332:=Tryz.func209.trans (congrArg some (by kernel_rfl))
 f343:=Tryz.func214.trans (congrArg some (by kernel_rfl))
 t0:=Tryz.underlying0
 a0:=Tryz.isAgg0
 z0:=Tryz.sizeOf0
 v0:=Tryz.zeroValue0
 t3:=Tryz.underlying3
 a3:=Tryz.isAgg3
 z3:=Tryz.sizeOf3
 v3:=Tryz.zeroValue3
 t4:=Tryz.underlying4
 a4:=Tryz.isAgg4
 z4:=Tryz.sizeOf4
 v4:=Tryz.zeroValue4
 t5:=Tryz.underlying5
 a5:=Tryz.isAgg5
 z5:=Tryz.sizeOf5
 v5:=Tryz.zeroValue5
 t9:=Tryz.underlying9
 a9:=Tryz.isAgg9
 z9:=Tryz.sizeOf9
 v9:=Tryz.zeroValue9
 t28:=Tryz.underlying29
 a28:=Tryz.isAgg29
 z28:=Tryz.sizeOf29
 v28:=Tryz.zeroValue29
 t46:=Tryz.underlying193
 a46:=Tryz.isAgg193
 z46:=Tryz.sizeOf193
 v46:=Tryz.zeroValue193
 t51:=Tryz.underlying217
 a51:=Tryz.isAgg217
 z51:=Tryz.sizeOf217
 v51:=Tryz.zeroValue217
 t53:=Tryz.underlying219
 a53:=Tryz.isAgg219
 z53:=Tryz.sizeOf219
 v53:=Tryz.zeroValue219
 t131:=Tryz.underlying150
 a131:=Tryz.isAgg150
 z131:=Tryz.sizeOf150
 v131:=Tryz.zeroValue150
 t182:=Tryz.underlying209
 a182:=Tryz.isAgg209
 z182:=Tryz.sizeOf209
 v182:=Tryz.zeroValue209
 t183:=Tryz.underlying210
 a183:=Tryz.isAgg210
 z183:=Tryz.sizeOf210
 v183:=Tryz.zeroValue210
 t218:=Tryz.underlying230
 a218:=Tryz.isAgg230
 z218:=Tryz.sizeOf230
 v218:=Tryz.zeroValue230
 t222:=Tryz.underlying234
 a222:=Tryz.isAgg234
 z222:=Tryz.sizeOf234
 v222:=Tryz.zeroValue234
 t228:=Tryz.underlying236
 a228:=Tryz.isAgg236
 z228:=Tryz.sizeOf236
 v228:=Tryz.zeroValue236
 t229:=Tryz.underlying237
 a229:=Tryz.isAgg237
 z229:=Tryz.sizeOf237
 v229:=Tryz.zeroValue237 }
def dX(xs:List Int):List Int:=xs.mergeSort fun x y=>decide (x≤y)
theorem Mi{w:World}{D:aT}{E:aW} : ∀ {xs:List Int} {cs:List Value},aL w D E (xs.map enc) cs→cs=xs.map (Value.int .i64)∧∀ x∈xs,IntKind.i64.min≤x∧x≤IntKind.i64.max
 | [],cs,h=>by
  simp only[zx3,aL] at h;subst h;exact ⟨rfl,by simp⟩
 |x::xs,cs,h=>by
  simp only[zz9,aL] at h;obtain ⟨c1,c2,rfl,h1,h2⟩:=h;obtain ⟨rfl,h3⟩:=Mi h2;have h1':c1=[.int .i64 x]∧IntKind.i64.min≤x∧x≤IntKind.i64.max:=h1;obtain ⟨rfl,h4⟩:=h1';refine ⟨rfl,fun y hy =>?_⟩;rcases zx8.1 hy with rfl | hy
  ·exact h4
  ·exact h3 y hy
theorem rR{w:World}{D:aT}{E:aW} : ∀ {xs:List Int},(∀ x∈xs,IntKind.i64.min≤x∧x≤IntKind.i64.max)→aL w D E (xs.map enc) (xs.map (Value.int .i64))
 | [],_=>rfl
 |x::xs,h=>⟨[.int .i64 x],xs.map (Value.int .i64),rfl,⟨rfl,h x (by simp)⟩,rR fun y hy=>h y (by simp[hy])⟩
theorem rZ(xs:List Int):(I.agg (xs.map enc)).aS=.ej (List.replicate xs.length .one):=by
 show cW.ej (I.cU _)=_
 congr 1
 induction xs with
 |nil=>rfl
 |cons x xs ih=>simp only[zz9,I.cU,ih,zv9,List.replicate_succ];rfl
theorem akK{xs ys q:List Int}(hl:ys.length=xs.length){cs:Array Value}(hc:cs.toList=(xs++q).map (Value.int .i64)):(Sort.putCells (Value.int .i64) 0 ys.toArray cs).toList=(ys++q).map (Value.int .i64):=by
 apply List.ext_getElem?;intro k;have h1:cs[k]?=((xs++q).map (Value.int .i64))[k]?:=by rw[←hc,zv6]
 rw[zv6,Sort.putCells,Array.getElem?_mapIdx,h1];simp only[zw5,List.size_toArray,zv1,true_and,zz4,Nat.sub_zero];by_cases hk:k<ys.length
 ·simp only[hk,if_true];rw[zx0 (by omega),zx0 hk,zy0 (by omega),zy0 hk];simp[hk]
 ·simp only[hk,if_false];rw[zw0 (by omega),zw0 (by omega),hl];cases (q[k-xs.length]?) <;>rfl
open Go.Sort Go.RowKit in
theorem NO(xs q:List Int)(hn:xs.length≤200):cH Tryz.prog 107 [.view 1000000 [] 1 0 xs.length] (cE 1000000 (xs++q)) (zc (dX xs++q)):=by
 refine ⟨CF,fun w D E vs _ hD hO hv =>?_⟩;have ho:=hO.bT 1000000;simp only[cE,ak,if_true] at ho;obtain ⟨b,cs,T,aw,-,hb,hr,hnD⟩:=ho;have hEn:∀ n,n≠1000000→E n=none:=fun n hn=>by
  have:=hO.bT n;simpa only[cE,ak,if_neg hn,di] using this
 simp only[aJ] at hv;obtain ⟨v,rest,cs',rfl,hp,hr',rfl⟩:=hv;obtain ⟨b',aS,off,l,hE',hoff,hpart,rfl,hl1,hl2,hl3⟩:=hr';rw[aw] at hE';simp only[t7,bS.aD.injEq] at hE';obtain ⟨rfl,rfl⟩:=hE';have hoff':off=0:=by
  have:(some 0:Option Nat)=some off:=by rw[←hoff];rw[rZ];rfl
  injection this with this;exact this.symm
 subst hoff';have hp':v=.slice (some ⟨b,0,none⟩) xs.length (l.length-0):=by
  have:[Value.slice (some ⟨b,0+0*1,none⟩) xs.length (l.length-0)]=[v]:=hp;simpa using this.symm
 subst hp';obtain ⟨hcs,hrg⟩:=Mi hr;have hbs:b<w.heap.size:=(zx7.1 hb).1;have hH:Holds (Value.int .i64) w b 0 xs.toArray:=fun j hj=>by
  simp only[List.size_toArray] at hj;constructor
  ·simp only[World.cell?,hb,Option.isSome_none,zz6,if_false,zz4];rw[←zv6,hcs];rw[zx4,zx0 (by simpa using hj)];simp[hj]
  ·simp[World.frozen?,hb]
 have hlen:(dX xs).length=xs.length:=by simp[dX]
 refine (Any.slices_Sort_int Jk b 0 (l.length-0) xs w hH hbs (by omega)).mono ?_;rintro e w' ⟨rfl,n,os,rfl⟩;have hb1:(putRow (Value.int .i64) (Sort.ahead w n) b 0 (dX xs).toArray).heap[b]?=some (.cells (putCells (Value.int .i64) 0 (dX xs).toArray cs) T (0,0)):=by
  simp[putRow,mapBlock,Sort.ahead,Array.getElem?_modify,hb,onCells]
 have hother:∀ k,k<w.heap.size→k≠b→(grow (putRow (Value.int .i64) (Sort.ahead w n) b 0 (dX xs).toArray) os).heap[k]?=w.heap[k]?:=fun k hk hkb=>by
  rw[heap_grow_old _ _ (by simpa[Sort.ahead] using hk)];simp[putRow,mapBlock,Sort.ahead,Array.getElem?_modify,Ne.symm hkb]
 have hb2:(grow (putRow (Value.int .i64) (Sort.ahead w n) b 0 (dX xs).toArray) os).heap[b]?=some (.cells (putCells (Value.int .i64) 0 (dX xs).toArray cs) T (0,0)):=by
  rw[heap_grow_old _ _ (by simpa[Sort.ahead] using hbs)];exact hb1
 have hsz:w.heap.size≤(grow (putRow (Value.int .i64) (Sort.ahead w n) b 0 (dX xs).toArray) os).heap.size:=by simp[Sort.ahead]
 have hshow:(grow (putRow (Value.int .i64) (Sort.ahead w n) b 0 (xs.mergeSort fun x y=>decide (x≤y)).toArray) os)=(grow (putRow (Value.int .i64) (Sort.ahead w n) b 0 (dX xs).toArray) os):=rfl;rw[hshow];have hw1:(grow (putRow (Value.int .i64) (Sort.ahead w n) b 0 (dX xs).toArray) os).os=w.os:=rfl;have hw2:(grow (putRow (Value.int .i64) (Sort.ahead w n) b 0 (dX xs).toArray) os).tape=w.tape:=rfl;have hw3:(grow (putRow (Value.int .i64) (Sort.ahead w n) b 0 (dX xs).toArray) os).output=w.output:=rfl;revert hother hb2 hsz hw1 hw2 hw3;generalize grow (putRow (Value.int .i64) (Sort.ahead w n) b 0 (dX xs).toArray) os=w2;intro hother hb2 hsz hw1 hw2 hw3;have hmem:∀ x∈dX xs++q,IntKind.i64.min≤x∧x≤IntKind.i64.max:=fun x hx=>hrg x (by
  rcases zy6.1 hx with h | h
  ·exact List.mem_append_left _ (by simpa[dX] using h)
  ·exact List.mem_append_right _ h)
 refine ⟨.tuple #[],D,E,.tuple [],cE 1000000 (dX xs++q),rfl,⟨rfl,rfl⟩,⟨[],rfl,rfl⟩,⟨fun m =>?_,hO.c4⟩,⟨hw1,hw2,hw3,hsz,fun k hk =>?_⟩,fun _ _ h=>h,fun b0 o h=>Nat.lt_of_lt_of_le (hD b0 o h) hsz,fun _ _ h _ _=>h,fun m e h _=>⟨e,h,bS.le.refl e⟩,⟨fun b0 o u ae hc =>?_,fun b0 es ck ae hc =>?_⟩⟩
 ·by_cases hm:m=1000000
  ·subst hm;simp only[cE,ak,if_true];refine ⟨b,_,T,?_,.inr ⟨1000000,_,aw,rfl⟩,hb2,?_,hnD⟩
   ·rw[aw,rZ,rZ,zz7,zz7,hlen]
   ·show aL w2 D E _ _
    rw[akK hlen hcs];exact rR hmem
  ·simp only[cE,ak,if_neg hm,di];exact hEn m hm
 ·by_cases hk2:k<w.heap.size
  ·exact hother k hk2 fun e=>hk (.inr ⟨1000000,_,aw,by rw[e];rfl⟩)
  ·exact absurd (.inl (Nat.le_of_not_lt hk2)) hk
 ·have hne:b0≠b:=fun e=>hnD o (e▸ae);simp only[World.cell?,hother b0 (hD b0 o ae) hne] at hc ⊢;exact hc
 ·have hne:b0≠b:=fun e=>hnD 0 (e▸ae);rw[hother b0 (hD b0 0 ae) hne];exact hc
theorem NP(v:I)(hv0:v=.nils 1∨v=enc ([]:List Int)):aB Tryz.prog 107 [v] (.tuple []):=by
 refine ⟨CF,fun w D vs hD hv =>?_⟩;simp only[aJ] at hv;obtain ⟨u,rest,cs',rfl,hp,hr',rfl⟩:=hv;have hu:∃ a cap,u=.slice a 0 cap:=by
  rcases hv0 with rfl | rfl
  ·have h1:cs'=[.slice none 0 0]:=hr';have h2:cs'=[u]:=hp;rw[h1] at h2;exact ⟨none,0,by simpa using h2.symm⟩
  ·obtain ⟨a,cap,h1,_⟩:=hr';have h2:cs'=[u]:=hp;rw[h1] at h2;exact ⟨a,cap,by simpa using h2.symm⟩
 obtain ⟨a,cap,rfl⟩:=hu;refine (Any.slices_Sort_int_none Jk a cap w).mono ?_;rintro e w' ⟨rfl,rfl⟩;exact ⟨.tuple #[],D,rfl,⟨[],rfl,rfl⟩,⟨rfl,rfl,rfl,zz8 _,fun _ _=>rfl⟩,hD,fun _ _ h _=>h⟩
end Go.Proofs.YtcldiigclhgafaaGreat
namespace Go.Proofs.YtcldiigclhgafaaGreat
open Go Go.Abs
open Go.Abs.Enc (enc)
theorem tz{os os2 ow:List (Nat×aj)}{ts:List (Nat×I)}(h:fE os os2)(how:∀ m,av ow m=true→m<1000000):∀ n x,ak os2 n=some x→(au ts (ow++os2)).o n=some x∧x.only (av os2)=true∧x.eR=true:=fun n x hx=>by
 have hn:av os2 n=true:=by simp[av,hx]
 have hg:=h.oJ n (by rw[←h.same];exact hn);refine ⟨?_,h.ok n x hx⟩;simp only[au,kF];cases hw:ak ow n with
 |none=>exact hx
 |some y=>have:=how n (by simp[av,hw]);omega
theorem alK{A:af}{n:Nat}{b:I}{v u:bL 6 Int}{rest:List aC} : dj A (some 6) n [] b (enc v) rest (some (enc u))=aA rest (A.aO n (.box (enc v))):=by
 rw[ee (dU _) (by rw[fZ];rfl) ((eQ _).trans (eQ _).symm),gp]
theorem JZ{α:Type}[Enc α](l:List α):b8 none (enc l)=true:=by simp[lb,nB]
theorem qg:(∀ (x:I) xs (f:I→Bool),(x::xs).all f=(f x&&xs.all f))∧(∀ f:I→Bool,([]:List I).all f=true)∧(∀ n p,(I.ptr n p).cn=true)∧(∀ b,(true&&b)=b) :=
 ⟨fun _ _ _=>List.all_cons,fun _=>List.all_nil,fun _ _=>rfl,fun _=>rfl⟩
theorem qv:∀ m,av [] m=true→m<1000000:=fun m h=>by simp[av,ak] at h
theorem Oz(l:List ar)(hl:l.length≤60):vn Tryz.prog 178 [.ref (enc l)] l.length (fun k=>[.int .i64 ((l.length-1-k:Nat):Int),enc (ah l (l.length-1-k))]):=by
 intro Y v al Ix os hv hY hI hIx h0;have hG:=hI 0 os h0;refine kQ.bu Tryz.func178 CJ Tc Vl (zz0 rfl) (zz0 rfl) hG.oJ (fun hwf W0 D0 E1 =>?_);simp only[BL,Ll,bl,zz4];refine .az (by decide +kernel) fun K hK =>?_;simp only[GC,ab,simprocAttr]
 try simp only[bB,aN,ab,simprocAttr]
 rw[dI ((l.length:Int)-1) (by omega) (by omega)];refine .done (hK _ ?_);clear hK K;refine J.block (J.loop (fun s:Nat×List (Nat×aj)=>au [(0,.raw v),(1,.ref (enc l)),(3,.int .i64 ((l.length:Int)-1-s.1))] s.2) (fun s=>s.1≤l.length∧al s.1 s.2) (fun s=>l.length-s.1) (0,os) ⟨zv1 _,h0⟩ ?_ ?_)
 ·refine aF.cK ?_ (fun n=>rfl);simp[aY,aZ]
 rintro ⟨k,osk⟩ ⟨hk,hIk⟩;simp only at hk hIk ⊢;have gk:=hI k osk hIk;refine J.seq (J.seq ?_);refine .b6 (by decide +kernel) fun K hK =>?_;simp only[GD,ab,simprocAttr];refine .done (hK _ ?_);clear hK K;try simp only[aG]
 refine J.bX ?_;simp only[aq,ab,simprocAttr];refine ⟨fun h =>?_,fun h =>?_⟩
 ·have hlt:k<l.length:=by simp at h;omega
  have hix:((l.length:Int)-1-k)=((l.length-1-k:Nat):Int):=by omega
  rw[hix];refine J.skip ?_;try simp only[aG,simprocAttr]
  refine J.seq (J.block (J.seq ?_));refine .b6 (by decide +kernel) fun K hK =>?_;simp only[GF,ab,simprocAttr]
  try simp only[aN,jh (l:=l) (i:=l.length-1-k) (by omega),CO,ab,simprocAttr]
  refine bh.NC (ow:=[]) (In:=al (k+1)) (Ix:=Ix) (hY k osk _ hlt hIk (fun r os2 h=>h)) gk (hI _) hIx (by simp[I.bU,ec,I.bj]) qv (fun os2 h2 =>?_) (fun os2 h2 =>?_)
  ·try simp only[zy7,ab,simprocAttr]
   refine .done (hK _ ?_);clear hK K;try simp only[aG]
   refine J.bX ?_;simp only[aq,ab,simprocAttr];refine ⟨fun h =>?_,fun h =>?_⟩
   ·cases h
   refine J.skip ?_;try simp only[aG,cj,simprocAttr]
   refine .b6 (by decide +kernel) fun K hK =>?_;simp only[GG,ab,simprocAttr];refine .done (hK _ ?_);clear hK K;try simp only[aG]
   refine ⟨(k+1,os2),⟨by simp only;omega,h2⟩,by simp only;omega,?_⟩;simp only;rw[dI _ (by omega) (by omega)];have e:(((l.length-1-k:Nat):Int)-1)=((l.length:Int)-1-((k+1:Nat):Int)):=by omega
   rw[e];refine aF.cK ?_ (fun n=>rfl);simp[aY,aZ]
  ·try simp only[zy7,ab,simprocAttr]
   refine .done (hK _ ?_);clear hK K;try simp only[aG]
   refine J.bX ?_;simp only[aq,ab,simprocAttr];refine ⟨fun h =>?_,fun h =>?_⟩
   ·refine J.ret ?_;simp only[aG,cj];rw[fV];exact ⟨os2,[],tz (ow:=[]) (hIx os2 h2) qv,trivial,rfl,.inr h2⟩
   ·cases h
 ·have he:k=l.length:=by simp at h;omega
  subst he;refine J.exit ?_;try simp only[aG,cj,simprocAttr]
  rw[lx];exact ⟨osk,[],tz (ow:=[]) gk qv,trivial,rfl,.inl hIk⟩
def jz(p:Nat→Bool)(n:Nat):List Nat:=(List.range n).filter p
theorem Nt(p:Nat→Bool)(n:Nat):jz p (n+1)=jz p n++(if p n then [n] else []):=by
 simp only[jz,List.range_succ,List.filter_append,zw1,zv5]
theorem al7{p:Nat→Bool}{i n:Nat}(hp:p i=true)(hi:i<n):(jz p i).length<(jz p n).length∧(jz p n).getD (jz p i).length 0=i:=by
 induction n with
 |zero=>omega
 |succ n ih =>
  rw[Nt];by_cases e:i=n
  ·subst e;simp[hp]
  ·obtain ⟨h1,h2⟩:=ih (by omega);refine ⟨by rw[zz7];omega,?_⟩;rw[zz2,zx0 h1,←zz2];exact h2
theorem N9(l:List ar)(bs:List Bool)(hl:l.length≤60)(hb:bs.length=l.length) :
  vn Tryz.prog 146 [.ref (enc l),.ref (enc bs)] (jz (fun i=>bs.getD i false) l.length).length (fun k=>[.int .i64 (((jz (fun i=>bs.getD i false) l.length).getD k 0:Nat):Int)]):=by
 intro Y v al Ix os hv hY hI hIx h0;have hG:=hI 0 os h0;refine kQ.bu Tryz.func146 CH SM UW (zz0 rfl) (zz0 rfl) hG.oJ (fun hwf W0 D0 E1 =>?_);simp only[Bl,KW,bl,zz4,Nat.reduceAdd];refine .az (by decide +kernel) fun K hK =>?_;simp only[Ft,ab,simprocAttr]
 try simp only[bB,aN,ab,simprocAttr]
 refine .done (hK _ ?_);clear hK K;refine J.block (J.loop (fun s:Nat×List (Nat×aj)=>au [(0,.raw v),(1,.ref (enc l)),(2,.ref (enc bs)),(6,.int .i64 l.length),(7,.int .i64 s.1)] s.2) (fun s=>s.1≤l.length∧al (jz (fun i=>bs.getD i false) s.1).length s.2) (fun s=>l.length-s.1) (0,os) ⟨zv1 _,h0⟩ ?_ ?_)
 ·refine aF.cK ?_ (fun n=>rfl);simp[aY,aZ]
 rintro ⟨i,osk⟩ ⟨hi,hIk⟩;simp only at hi hIk ⊢;have gk:=hI _ osk hIk;refine .az (by decide +kernel) fun K hK =>?_;simp only[Fu,ab,simprocAttr];refine .done (hK _ ?_);clear hK K;refine J.seq ?_;by_cases hlt:i<l.length
 ·have hc:=fT hlt;have hbi:∀ A,ik A 1 (i:Int) (enc bs)=some (.ref (.bool (bs.getD i false))):=fun A=>by
   rw[eL 1 (by omega) rfl,zz2,zy0 (by omega)];rfl
  simp only[hc];refine J.bX ?_;simp only[aq,ab,simprocAttr];refine ⟨fun h =>?_,fun h =>?_⟩
  case refine_2=>cases h
  refine J.skip ?_;try simp only[aG,simprocAttr]
  refine J.seq (J.block ?_);refine .az (by decide +kernel) fun K hK =>?_;simp only[Fv,ab,simprocAttr];refine .done (hK _ ?_);clear hK K;refine J.seq ?_;have hsu:=Nt (fun i=>bs.getD i false) i;cases hbv:bs.getD i false with
  |false =>
   rw[hbv] at hbi;refine .b6 (by decide +kernel) fun K hK =>?_;simp only[xe,ab,simprocAttr]
   try simp only[hbi,JZ,ab,simprocAttr]
   refine .done (hK _ ?_);clear hK K;try simp only[aG]
   refine J.bX ?_;simp only[aq,ab,simprocAttr];refine ⟨fun h =>?_,fun h =>?_⟩
   ·cases h
   refine J.skip ?_;try simp only[aG,cj,simprocAttr]
   refine .b6 (by decide +kernel) fun K hK =>?_;simp only[xf,ab,simprocAttr];refine .done (hK _ ?_);clear hK K;try simp only[aG]
   refine ⟨(i+1,osk),⟨by simp only;omega,?_⟩,by simp only;omega,?_⟩
   ·simp only[hsu,hbv,zz6,if_false,zx5];exact hIk
   ·simp only;rw[fc (by omega)];refine aF.cK ?_ (fun n=>rfl);simp[aY,aZ]
  |true =>
   rw[hbv] at hbi;obtain ⟨g1,g2⟩:=al7 (p:=fun i=>bs.getD i false) hbv hlt;have hsl:(jz (fun i=>bs.getD i false) (i+1)).length=(jz (fun i=>bs.getD i false) i).length+1:=by rw[hsu,hbv];simp
   have hy:=hY _ osk _ g1 hIk (fun r os2 h=>h);simp only at hy;rw[g2] at hy;refine .b6 (by decide +kernel) fun K hK =>?_;simp only[xe,ab,simprocAttr]
   try simp only[hbi,JZ,CO,ab,simprocAttr]
   refine bh.NC (ow:=[]) (In:=al ((jz (fun i=>bs.getD i false) i).length+1)) (Ix:=Ix) hy gk (hI _) hIx rfl qv (fun os2 h2 =>?_) (fun os2 h2 =>?_)
   ·try simp only[zy7,ab,simprocAttr]
    refine .done (hK _ ?_);clear hK K;try simp only[aG]
    refine J.bX ?_;simp only[aq,ab,simprocAttr];refine ⟨fun h =>?_,fun h =>?_⟩
    ·cases h
    refine J.skip ?_;try simp only[aG,cj,simprocAttr]
    refine .b6 (by decide +kernel) fun K hK =>?_;simp only[xf,ab,simprocAttr];refine .done (hK _ ?_);clear hK K;try simp only[aG]
    refine ⟨(i+1,os2),⟨by simp only;omega,?_⟩,by simp only;omega,?_⟩
    ·simp only[hsl];exact h2
    ·simp only;rw[fc (by omega)];refine aF.cK ?_ (fun n=>rfl);simp[aY,aZ]
   ·try simp only[zy7,ab,simprocAttr]
    refine .done (hK _ ?_);clear hK K;try simp only[aG]
    refine J.bX ?_;simp only[aq,ab,simprocAttr];refine ⟨fun h =>?_,fun h =>?_⟩
    ·refine J.ret ?_;simp only[aG,cj];rw[fV];exact ⟨os2,[],tz (ow:=[]) (hIx os2 h2) qv,trivial,rfl,.inr h2⟩
    ·cases h
 ·have hc:=ga hlt;simp only[hc];refine J.bX ?_;simp only[aq,ab,simprocAttr];refine ⟨fun h =>?_,fun h =>?_⟩
  ·cases h
  have he:i=l.length:=by omega
  subst he;refine J.exit ?_;try simp only[aG,cj,simprocAttr]
  rw[lx];exact ⟨osk,[],tz (ow:=[]) gk qv,trivial,rfl,.inl hIk⟩
theorem N8(l:List ar):aB Tryz.prog 145 [enc l] (.func 178 [.ref (enc l)]):=by
 refine aB.bu Tryz.func145 QU SL UU (zz0 rfl) (fun hwf W0 D0 E1 =>?_);simp only[Bk,KV,bl];have R:=u8 @qg (u8 @aN (u8 @ec @ab))
 repeat' ((first |(with_reducible refine .guard (fun hb =>?_) (fun hb =>?_) <;>try simp only[hb])|refine J.aI (by decide +kernel) rfl fun K hK =>?_|(refine .ay [0,1,2] hK ?_;clear hK K)|(with_reducible refine .done (hK _ ?_);clear hK K)|refine J.of rfl ?_|(with_reducible refine aq.aH (fun h =>?_) (fun h =>?_) <;>try simp only[h])) <;>try simp only[aK,R,simprocAttr])
 all_goals clear R
 all_goals rfl
def iu(l:List ar)(known:Int)(ks:List Item)(bs:List Bool):List (Nat×aj) :=
 [(1000002,.box (enc l)),(1000003,.box (.int .i64 known)),(1000005,.box (.mref 1000009)),(1000006,.box (.view 1000012 [] 1 0 l.length)),(1000009,.cC (ks.map enc) (List.replicate ks.length (.bool true))),(1000012,.box (.agg (bs.map enc)))]
theorem rJ(p:Nat→Bool)(n:Nat)(b:Bool):I.bZ p (List.replicate n (.bool b))=true:=by
 induction n with
 |zero=>rfl
 |succ n ih=>simp[List.replicate_succ,I.bZ,I.only,ih]
theorem uD(ρ:Nat→Nat)(n:Nat)(b:Bool):I.cR ρ (List.replicate n (.bool b))=List.replicate n (.bool b):=by
 induction n with
 |zero=>rfl
 |succ n ih=>simp only[List.replicate_succ,I.cR,I.aQ,ih]
theorem alH(l:List ar)(known:Int)(ks:List Item)(bs:List Bool)(l':List ar)(known':Int)(ks':List Item)(bs':List Bool):fE (iu l known ks bs) (iu l' known' ks' bs'):=by
 refine ⟨fun n=>by simp only[iu,av,ak];(repeat' split) <;>rfl,fun n x h =>?_,fun n h =>?_⟩
 ·simp only[iu,ak] at h
  repeat' split at h
  all_goals first | (cases h;done) | (simp only[t7] at h;subst h;exact ⟨by simp[iu,av,ak,aj.only,bK,I.only,eI,rJ],rfl⟩)
 ·simp only[iu,av,ak] at h
  repeat' split at h
  all_goals first | omega | (simp at h;done)
def uO(l:List ar)(known:Int)(k:Nat)(ks:List Item)(bs:List Bool):Prop :=
 bs=List.replicate (l.length-k) false++(eS known (l.drop (l.length-k))).1∧∀ a,a∈ks↔a∈(eS known (l.drop (l.length-k))).2
theorem zA:(∀ (A:af) n b m rest,dj A none n [] b (.mref m) rest (some (.raw (.map none)))=aA rest (A.aO n (.box (.mref m))))∧(∀ (A:af) n b m p z lo k z2 rest,dj A none n [] b (.view m p z lo k) rest (some (.nils z2))=aA rest (A.aO n (.box (.view m p z lo k)))) ∧
  (∀ (A:af) n b m p z lo k m' p' z' lo' k' rest,dj A none n [] b (.view m p z lo k) rest (some (.view m' p' z' lo' k'))=aA rest (A.aO n (.box (.view m p z lo k)))) :=
 ⟨fun _ _ _ _ _=>by rw[ee (s:=none) (v:=.mref _) (old:=.raw _) rfl rfl rfl,gp],fun _ _ _ _ _ _ _ _ _ _=>by rw[ee (s:=none) (v:=.view ..) (old:=.nils _) rfl rfl rfl,gp],fun _ _ _ m p z lo k m' p' z' lo' k' _=>by rw[ee (s:=none) (v:=.view m p z lo k) (old:=.view m' p' z' lo' k') rfl rfl rfl,gp]⟩
theorem r3(known:Int):∀ l:List ar,(eS known l).1.length=l.length
 | []=>rfl
 |x::l=>by simp only[eS,zv9,r3 known l]
theorem M4{l:List ar}{known:Int}{k:Nat}{ks:List Item}{bs:List Bool}(h:uO l known k ks bs)(hk:k≤l.length):bs.length=l.length:=by
 rw[h.1,zz7,List.length_replicate,r3,zy9];omega
def rH(l:List ar)(known:Int)(i:Nat)(ks:List Item):Bool:=decide ((ah l i).known≤known) && !decide ((ah l i).dp∈ks)
theorem alC{l:List ar}{known:Int}{k i:Nat}{ks:List Item}{bs:List Bool}(hk:k<l.length)(hi:i=l.length-1-k)(h:uO l known k ks bs) :
  uO l known (k+1) (if (rH l known i ks&&((ah l i).kind==0))=true then lJ ks (ah l i).hd else ks) (bs.set i (rH l known i ks)):=by
 have hkd:((ah l i).kind==0)=decide ((ah l i).kind=0):=rfl;rw[hkd];obtain ⟨h1,h2⟩:=h;have e1:l.length-k=i+1:=by omega
 have e2:l.length-(k+1)=i:=by omega
 rw[e1] at h1 h2;have hil:i<l.length:=by omega
 have ae:l.drop i=ah l i::l.drop (i+1):=by rw[zv3 hil,lU hil]
 have hb:rH l known i ks=(decide ((ah l i).known≤known) && !(eS known (l.drop (i+1))).2.contains (ah l i).dp):=by
  simp only[rH]
  congr 2
  rw[Bool.eq_iff_iff,decide_eq_true_eq,List.contains_iff_mem];exact h2 _
 refine ⟨?_,fun a =>?_⟩
 ·rw[e2,ae,h1];simp only[eS,←hb];rw[List.replicate_succ',zz5,List.set_append_right _ _ (by simp)];simp
 ·rw[e2,ae];simp only[eS,←hb];split
  ·rw[aiL,zx8,h2]
  ·exact h2 a
theorem NM(l:List ar)(known:Int)(hl:l.length≤60):aB Tryz.prog 105 [enc l,enc known] (.func 146 [.ref (enc l),.ref (enc (gE l known))]):=by
 refine aB.bu Tryz.func105 Qs Si Ut (zz0 rfl) (fun hwf W0 D0 E1 =>?_);simp only[AP,Kt,bl,zz4];clear hwf;refine .az (by decide +kernel) fun K hK =>?_;simp only[Ek,ab,simprocAttr]
 try simp only[aN,ab,simprocAttr]
 refine .done (hK _ ?_);clear hK K;refine .az (by decide +kernel) fun K hK =>?_;simp only[El,ab,simprocAttr]
 try simp only[dT,zA,ab,simprocAttr]
 refine .done (hK _ ?_);clear hK K;refine .az (by decide +kernel) fun K hK =>?_;simp only[Em,ab,simprocAttr]
 try simp only[dT,bB,aN,ab,simprocAttr]
 rw[JG (by omega) (by simp[maxLen];omega)]
 try simp only[zA,ab,simprocAttr]
 refine .done (hK _ ?_);clear hK K;refine J.seq (J.seq ?_);refine .b6 (by decide +kernel) fun K hK =>?_;simp only[En,ab,simprocAttr]
 try simp only[aN,ab,simprocAttr]
 refine .lead _ (N8 l) ?_
 try simp only[ab,simprocAttr]
 refine .done (hK _ ?_);clear hK K;try simp only[aG]
 refine J.block (J.ly (osb0:=iu l known [] (List.replicate l.length false)) (tsR:=[(2,.ptr 1000002 []),(3,.ptr 1000003 []),(5,.ptr 1000005 []),(6,.ptr 1000006 [])]) (ρ:=[(1999999,999999),(1000002,2),(1000003,3),(1000005,5),(1000006,6),(1000009,9),(1000012,12)])
  (fun k os=>∃ ks bs,os=iu l known ks bs∧uO l known k ks bs)
  (fun _ _=>False)
  rfl (zz0 rfl) (by simp only[ab,simprocAttr]) (by simp[I.bU,I.bj,ec]) CJ (Oz l hl) (fun _=>rfl) rfl rfl rfl (fun o=>⟨?_,?_⟩) ?_ ?_ ?_ ⟨[],_,rfl,?_⟩ ?_ ?_ ?_)
 ·intro n x hx;simp only[dK,iu,ak] at hx
  repeat' split at hx
  all_goals first | (cases hx;done) | (subst_vars;simp only[t7] at hx;subst hx;simp[dK,iu,av,bD,ak,aj.aQ,I.aQ,I.cR,ky,aj.only,I.only,I.bZ,bK,aj.eR,rJ,uD,wm])
 ·intro a b ha hb;simp only[dK,iu,av,ak] at ha hb
  repeat' split at ha
  all_goals first | (simp at ha;done) | skip
  all_goals (repeat' split at hb)
  all_goals first | (simp at hb;done) | (subst_vars;simp[bD])
 ·simp[nh,aZ,I.aQ,bD,I.only,iu,av,ak]
 ·rintro k os ⟨ks,bs,rfl,_⟩;exact alH ..
 ·rintro e os h;exact h.elim
 ·exact ⟨by simp[eS],fun a=>by simp[eS]⟩
 ·rintro k osb hk ⟨ks,bs,rfl,hst⟩ W1 D1 E1 tE o1 o2;have hbl:=M4 hst (Nat.le_of_lt hk);obtain ⟨i,hi⟩:∃ i,i=l.length-1-k:=⟨_,rfl⟩
  have hil:i<bs.length:=by omega
  have hil2:i<l.length:=by omega
  have hstep:=alC hk hi hst;have hv:∀ fs,jK 1000012 [] 1 0 l.length 1 (i:Int) (some fs)=some (.ptr 1000012 [i]):=fun fs=>by
   have:=oO (m:=1000012) (sz:=1) (lo:=0) (l:=l.length) (i:=i) (fs:=fs) hil2
   rwa [zz4] at this
  have hat2:∀ b,jE i [] (some ((bs.set i b).map enc))=some (.bool b):=fun b=>by
   rw[sH (by simpa using hil)];simp[zz2,hil]
  have hset:=fun (A:af) v u rest=>M9 (A:=A) (n:=1000012) hil v u rest;have hat:=sH hil;have hlk:=x9 qX (ah l i).dp ks;simp only[rQ,dK,iu,←hi];have R:=u8 @aN @ab
  repeat' ((first |(with_reducible refine .guard (fun hb =>?_) (fun hb =>?_) <;>try simp only[hb])|refine J.aI (by decide +kernel) rfl fun K hK =>?_|(refine .ay [0,1,2,3,4,5,6,7,8,14,15,16,39] hK ?_;clear hK K)|(with_reducible refine .done (hK _ ?_);clear hK K)|refine J.of rfl ?_|(with_reducible refine aq.aH (fun h =>?_) (fun h =>?_) <;>try simp only[h])) <;>try simp only[aK,R,simprocAttr])
  all_goals clear R
  refine ⟨by simp[],?_⟩;rcases h1:decide ((ah l i).known≤known) <;>rcases h2:decide ((ah l i).dp∈ks) <;>rcases h3:(ah l i).kind==0
  all_goals
   simp only[rH,h1,h2,h3,Bool.not_true,Bool.not_false,Bool.and_true,Bool.and_false,zz6,if_true,if_false] at hstep;have hup:=JI qX (ah l i).hd ks
   try simp only[ab,simprocAttr]
   have R:=u8 @h1 (u8 @h2 (u8 @h3 (u8 @hv (u8 @hset (u8 @hat (u8 @hat2 (u8 @hlk (u8 @hup (u8 @cA (u8 @zA (u8 @dT (u8 @dn (u8 @bB (u8 @aN @ab))))))))))))))
   repeat' ((first |(with_reducible refine .guard (fun hb =>?_) (fun hb =>?_) <;>try simp only[hb])|refine J.aI (by decide +kernel) rfl fun K hK =>?_|(refine .ay [0,1,2,3,4,5,6,7,8,14,15,16,39] hK ?_;clear hK K)|(with_reducible refine .done (hK _ ?_);clear hK K)|refine J.of rfl ?_|(with_reducible refine aq.aH (fun h =>?_) (fun h =>?_) <;>try simp only[h])) <;>try simp only[aK,R,simprocAttr])
   all_goals clear R
   generalize bs.set i _=amr at hstep ⊢
   try generalize lJ ks _=ks2 at hstep ⊢
   refine ⟨iu l known _ _,?_,_,_,rfl,hstep⟩;intro n x hx;simp only[dK,iu,ak] at hx
   (repeat' split at hx) <;>first
    |(cases hx;done)
    |(subst_vars;simp only[t7] at hx;subst hx;simp[iu,dK,av,au,ak,aj.only,I.only,bK,aj.eR,eI,rJ])
 ·rintro os ⟨ks,bs,rfl,hst⟩;have hbs:bs=gE l known:=by
   have:=hst.1;simpa[gE] using this
  have hbl:=M4 hst (zz8 _)
  try simp only[iu,jQ,ky,hE,zy1,zy7,aG,cj,simprocAttr]
  have R:=u8 @qg (u8 @aN @ab)
  repeat' ((first |(with_reducible refine .guard (fun hb =>?_) (fun hb =>?_) <;>try simp only[hb])|refine J.aI (by decide +kernel) rfl fun K hK =>?_|(refine .ay [0,1,2,3,4,5,6,7,8,14,15,16,39] hK ?_;clear hK K)|(with_reducible refine .done (hK _ ?_);clear hK K)|refine J.of rfl ?_|(with_reducible refine aq.aH (fun h =>?_) (fun h =>?_) <;>try simp only[h])) <;>try simp only[aK,R,simprocAttr])
  all_goals clear R
  have hfd:=fun A (ho:A.o 12=some (.box (.agg (bs.map enc))))=>X4 (A:=A) (m:=8) (n:=12) (sz:=1) ho rfl hbl.symm
  try simp only[kW,ab,simprocAttr]
  rw[hfd _ rfl]
  try simp only[hbs,ab,simprocAttr]
 ·rintro e os h;exact h.elim
def gw(l:List ar)(x:Int):Int:=(ah l x.toNat).day
def jJ(l:List ar)(x:Int):Prop:=0≤x∧x<l.length
def mJ(l:List ar):Prop:=∀ i,i<l.length→0≤(ah l i).day∧(ah l i).day≤100000
def dN(l:List ar)(x y:Int):Prop:=gw l x<gw l y∨(gw l x=gw l y∧x<y)
def dw(l:List ar)(s:List Int):Prop:=s.Pairwise (dN l)
theorem yc{l:List ar}{x y z:Int}(h:dN l x y)(k:dN l y z):dN l x z:=by
 simp only[dN] at *;omega
theorem tN{l:List ar}{x y:Int}(h:y<x):dN l x y↔gw l x<gw l y:=by
 simp only[dN];omega
theorem tM{l:List ar}{x y:Int}(h:y<x)(k:¬ gw l x<gw l y):dN l y x:=by
 simp only[dN];omega
theorem sh(l:List ar)(ae:mJ l)(hl:l.length≤60)(x y:Int)(hx:jJ l x)(hy:jJ l y):aB Tryz.prog 138 [.int .i64 x,.int .i64 y,.ref (enc l)] (.int .i64 (gw l x-gw l y)):=by
 refine aB.bu Tryz.func138 QO SG UP (zz0 rfl) (fun hwf W0 D0 E1 =>?_);simp only[Bf,KQ,bl,zz4,Nat.reduceAdd];clear hwf;obtain ⟨i,rfl⟩:∃ i:Nat,x=i:=⟨x.toNat,by have:=hx.1;omega⟩
 obtain ⟨k,rfl⟩:∃ k:Nat,y=k:=⟨y.toNat,by have:=hy.1;omega⟩
 have hi:i<l.length:=by have:=hx.2;omega
 have hk:k<l.length:=by have:=hy.2;omega
 have v1:=jh hi;have v2:=jh hk;have d1:=ae i hi;have d2:=ae k hk;have hw:IntKind.i64.wrap ((ah l i).day-(ah l k).day)=(ah l i).day-(ah l k).day:=dI _ (by omega) (by omega);have R:=u8 @v1 (u8 @v2 (u8 @hw (u8 @aN @ab)))
 repeat' ((first |(with_reducible refine .guard (fun hb =>?_) (fun hb =>?_) <;>try simp only[hb])|refine J.aI (by decide +kernel) rfl fun K hK =>?_|(refine .ay [0,1,2,5] hK ?_;clear hK K)|(with_reducible refine .done (hK _ ?_);clear hK K)|refine J.of rfl ?_|(with_reducible refine aq.aH (fun h =>?_) (fun h =>?_) <;>try simp only[h])) <;>try simp only[aK,R,simprocAttr])
 all_goals clear R
 simp only[gw,Int.toNat_natCast]
theorem alV{A C:List Int}{x y:Int}{i j:Nat}(hj:A.length=j)(hi:j+1=i):kM (A++y::x::C) i j=A++x::y::C:=by
 subst hj hi;have e1:(A++y::x::C).getD A.length 0=y:=by simp[zz2]
 have e2:(A++y::x::C).getD (A.length+1) 0=x:=by
  rw[zz2,zw0 (by omega)];simp
 simp only[kM,e1,e2];rw[List.set_append_right _ _ (by omega)];have:A.length+1-A.length=1:=by omega
 rw[this,List.set_append_right _ _ (by omega),Nat.sub_self];simp
theorem alX{A C:List Int}{x y:Int}{i j:Nat}(hi:A.length=i)(hj:i+1=j):kM (A++x::y::C) i j=A++y::x::C:=by
 have:=Nl (A:=A) (B:=[]) (C:=C) (x:=x) (y:=y) (i:=i) (j:=j) hi (by simp;omega);simpa using this
def ed(p t rest:List Int)(x:Int)(c:Nat):List Int:=p++(t.take c++x::t.drop c)++rest
theorem xZ{p t rest:List Int}{x:Int}{c:Nat}(hc:c≤t.length):(ed p t rest x c).length=p.length+t.length+1+rest.length:=by
 simp only[ed,zz7,zy8,zv9,zy9];omega
theorem ahT{p t rest:List Int}{x:Int}{c a:Nat}(ha:p.length=a)(hc:c≤t.length):(ed p t rest x c).getD (a+c) 0=x:=by
 subst ha;have hl:(t.take c).length=c:=by rw[zy8];omega
 simp only[ed];rw[zz2,zz5,zw0 (by omega)];have:p.length+c-p.length=c:=by omega
 rw[this,zz5,zw0 (by omega),hl,Nat.sub_self];rfl
theorem ahU{p t rest:List Int}{x:Int}{c a:Nat}(ha:p.length=a)(hc:c<t.length):(ed p t rest x (c+1)).getD (a+c) 0=t[c]:=by
 subst ha;simp only[ed];rw[zz2,zz5,zw0 (by omega)];have:p.length+c-p.length=c:=by omega
 rw[this,zz5,zx0 (by rw[zy8];omega),List.getElem?_take_of_lt (by omega),zy0 hc];rfl
theorem I7{p t rest:List Int}{x:Int}{c a:Nat}(ha:p.length=a)(hc:c<t.length):kM (ed p t rest x (c+1)) (a+c+1) (a+c)=ed p t rest x c:=by
 have e1:ed p t rest x (c+1)=(p++t.take c)++t[c]::x::(t.drop (c+1)++rest):=by
  simp only[ed];rw[zy2 hc];simp only[zz5,zy1,zy7]
 have e2:ed p t rest x c=(p++t.take c)++x::t[c]::(t.drop (c+1)++rest):=by
  simp only[ed];rw[zv3 hc];simp only[zz5,zy1]
 rw[e1,e2];exact alV (by rw[zz7,zy8];omega) rfl
theorem zy{l:List ar}{t:List Int}{x:Int}{c:Nat}(hs:dw l t)(h1:∀ y∈t.take c,dN l y x)(h2:∀ y∈t.drop c,dN l x y):dw l (t.take c++x::t.drop c):=by
 have h:=hs;unfold dw at *;rw[←zx1 c t,List.pairwise_append] at h;rw[List.pairwise_append];refine ⟨h.1,?_,fun y hy z hz =>?_⟩
 ·rw[zw9];exact ⟨h2,h.2.1⟩
 ·rcases zx8.1 hz with rfl | hz
  ·exact h1 y hy
  ·exact h.2.2 y hy z hz
theorem alz{l:List ar}{t:List Int}{x:Int}{c:Nat}(hs:dw l t)(hc:c<t.length)(h:dN l t[c] x):∀ y∈t.take (c+1),dN l y x:=by
 intro y hy;rw[zy2 hc,zy6,zv7] at hy;rcases hy with hy | rfl
 ·refine yc ?_ h;have h3:=hs;unfold dw at h3;rw[←zx1 c t,List.pairwise_append] at h3;exact h3.2.2 y hy _ (by rw[zv3 hc];exact List.mem_cons_self)
 ·exact h
def ni(l:List ar)(p s q:List Int):cV:=fun r os'=>r=.tuple []∧∃ s',s'.Perm s∧dw l s'∧os'=cE 1000000 (p++s'++q)
structure vm where
 t:List Int
 k:Nat
theorem zY(l:List ar)(ae:mJ l)(hl:l.length≤60)(p s q:List Int)(a b n:Nat)(ha:p.length=a)(hb:a+s.length=b)(hn:b≤n)(hnl:n≤(p++s++q).length)(hN:n≤1000)(hs:s.Pairwise (· < ·))(hS:∀ x∈s,jJ l x) :
  cH Tryz.prog 203 [.view 1000000 [] 1 0 n,enc (a:Int),enc (b:Int),.func 138 [.ref (enc l)]] (cE 1000000 (p++s++q)) (ni l p s q):=by
 refine cH.bu Tryz.func203 CL CS C6 (zz0 rfl) (zz0 rfl) n8 (fun hwf W0 D0 E1 =>?_);simp only[vL,yW,bl,zz4,Nat.reduceAdd];clear hwf;have w1:=fc (i:=a) (by omega);refine .az (by decide +kernel) fun K hK =>?_;simp only[xt,ab,simprocAttr]
 try simp only[w1,simprocAttr]
 refine .done (hK _ ?_);clear hK K;refine J.block (J.loop (fun g:vm=>au [(0,.view 1000000 [] 1 0 n),(1,.int .i64 a),(2,.int .i64 b),(3,.func 138 [.ref (enc l)]),(8,.int .i64 ((a+g.k:Nat):Int))] (cE 1000000 (p++g.t++s.drop g.k++q))) (fun g=>1≤g.k∧g.t.Perm (s.take g.k)∧dw l g.t∧a+g.k≤b+1) (fun g=>s.length-g.k) ⟨s.take 1,1⟩ ⟨zz8 _,.refl _,?_,by simp only;omega⟩ ?_ ?_)
 ·show dw l (s.take 1)
  cases s <;>simp[dw]
 ·have e:p++s.take 1++s.drop 1++q=p++s++q:=by rw[zz5 p,zx1]
  simp only[e];refine aF.cK ?_ (fun n=>rfl);simp[aY,aZ]
 rintro ⟨t,k⟩ ⟨g1,g2,g3,g4⟩;simp only at g1 g2 g3 g4 ⊢;refine J.seq (J.seq ?_);refine .b6 (by decide +kernel) fun K hK =>?_;simp only[Hl,ab,simprocAttr];refine .done (hK _ ?_);clear hK K;try simp only[aG]
 refine J.bX ?_;simp only[aq,ab,simprocAttr];refine ⟨fun h =>?_,fun h =>?_⟩
 rotate_left
 ·have hk:s.length≤k:=by simp at h;omega
  refine J.exit ?_;try simp only[aG,cj,simprocAttr]
  rw[lx];refine nX rfl ?_ ⟨rfl,t,?_,g3,rfl⟩
  ·rw[zv2 hk,zx5]
  ·rwa [zw8 hk] at g2
 have hk:k<s.length:=by simp at h;omega
 have htl:t.length=k:=by rw[g2.length_eq,zy8];omega
 obtain ⟨x,hx⟩:∃ x,x=s[k]:=⟨_,rfl⟩
 have hxS:jJ l x:=hS x (by rw[hx];exact zx6 _);have htS:∀ y∈t,jJ l y∧y<x:=fun y hy=>by
  have hy2:=g2.mem_iff.1 hy;refine ⟨hS y (List.mem_of_mem_take hy2),?_⟩;obtain ⟨j,hj,rfl⟩:=List.getElem_of_mem hy2;rw[zy8] at hj;rw[List.getElem_take,hx];exact List.pairwise_iff_getElem.1 hs j k (by omega) hk (by omega)
 obtain ⟨rest,hrest⟩:∃ rest,rest=s.drop (k+1)++q:=⟨_,rfl⟩
 have e0:p++t++s.drop k++q=ed p t rest x k:=by
  rw[hrest,ed,zw8 (l:=t) (by omega),show t.drop k=[] from zv2 (by omega),zv3 hk,←hx];simp only[zz5,zy1,zy7]
 have hnr:n≤p.length+t.length+1+rest.length:=by
  rw[hrest];simp only[zz7,zy9] at hnl ⊢;omega
 rw[e0];refine J.skip ?_;try simp only[aG,simprocAttr]
 refine J.seq (J.block ?_);refine .az (by decide +kernel) fun K hK =>?_;simp only[Hm,ab,simprocAttr];refine .done (hK _ ?_);clear hK K;refine J.block (J.loop (fun c:Nat=>au [(0,.view 1000000 [] 1 0 n),(1,.int .i64 a),(2,.int .i64 b),(3,.func 138 [.ref (enc l)]),(8,.int .i64 ((a+k:Nat):Int)),(9,.int .i64 ((a+c:Nat):Int))] (cE 1000000 (ed p t rest x c))) (fun c=>c≤k∧∀ y∈t.drop c,dN l x y) (fun c=>c) k ⟨zz8 _,?_⟩ ?_ ?_)
 ·rw[zv2 (by omega)];intro y hy;cases hy
 ·refine aF.cK ?_ (fun n=>rfl);simp[aY,aZ]
 rintro c ⟨hc,hgt⟩;have a6:∀ c,c≤k→(∀ y∈t.drop c,dN l x y)→(∀ y∈t.take c,dN l y x)→∃ s':vm,(1≤s'.k∧s'.t.Perm (s.take s'.k)∧dw l s'.t∧a+s'.k≤b+1)∧s.length-s'.k<s.length-k∧s'.k=k+1∧ed p t rest x c=p++s'.t++s.drop s'.k++q:=fun c hck h2 h1=>by
  refine ⟨⟨t.take c++x::t.drop c,k+1⟩,⟨by simp only;omega,?_,zy g3 h1 h2,by simp only;omega⟩,by simp only;omega,rfl,?_⟩
  ·simp only;rw[zy2 hk,←hx];refine List.perm_middle.trans ?_;rw[zx1];exact (g2.cons x).trans (List.perm_append_comm (l₁:=[x]))
  ·simp only[ed,hrest,zz5]
 have hexit:∀ ts,(∀ y∈t.take c,dN l y x)→Abs.bO ts 0=.view 1000000 [] 1 0 n→Abs.bO ts 1=.int .i64 a→Abs.bO ts 2=.int .i64 b→Abs.bO ts 3=.func 138 [.ref (enc l)]→Abs.bO ts 8=.int .i64 ((a+(k+1):Nat):Int)→∃ s':vm,(1≤s'.k∧s'.t.Perm (s.take s'.k)∧dw l s'.t∧a+s'.k≤b+1)∧s.length-s'.k<s.length-k∧Abs.aF (au ts (cE 1000000 (ed p t rest x c))) (au [(0,.view 1000000 [] 1 0 n),(1,.int .i64 a),(2,.int .i64 b),(3,.func 138 [.ref (enc l)]),(8,.int .i64 ((a+s'.k:Nat):Int))] (cE 1000000 (p++s'.t++s.drop s'.k++q))):=fun ts h1 t0 t1 t2 t3 t8=>by
  obtain ⟨s',k1,k2,k3,k4⟩:=a6 c hc hgt h1;refine ⟨s',k1,k2,?_⟩;rw[k4,k3];refine aF.cK ?_ (fun n=>rfl);simp only[aY,t0,t1,t2,t3,t8,and_self]
 have hw:=fc (i:=a+k) (by omega);have hws:(ed p t rest x c).length=p.length+t.length+1+rest.length:=xZ (by omega);simp only[cE] at hexit ⊢;cases c with
 |zero =>
  have hc0:decide ((a:Int)<((a+0:Nat):Int))=false:=by simp
  have R:=u8 @hc0 (u8 @hw (u8 @aN @ab))
  repeat' ((first |(with_reducible refine .guard (fun hb =>?_) (fun hb =>?_) <;>try simp only[hb])|refine J.aI (by decide +kernel) rfl fun K hK =>?_|(refine .ay [0,1,2,3,8,9,14,34] hK ?_;clear hK K)|(with_reducible refine .done (hK _ ?_);clear hK K)|refine J.of rfl ?_|(with_reducible refine aq.aH (fun h =>?_) (fun h =>?_) <;>try simp only[h])) <;>try simp only[aK,R,simprocAttr])
  all_goals clear R
  exact hexit _ (by simp) rfl rfl rfl rfl rfl
 |succ c =>
  have hct:c<t.length:=by omega
  have hc0:decide ((a:Int)<((a+(c+1):Nat):Int))=true:=by simp;omega
  have wd:IntKind.i64.wrap (((a+(c+1):Nat):Int)-1)=((a+c:Nat):Int):=by rw[dI _ (by omega) (by omega)];omega
  have gx:=ahT (p:=p) (t:=t) (rest:=rest) (x:=x) (c:=c+1) ha (by omega);have gy:=ahU (p:=p) (t:=t) (rest:=rest) (x:=x) (c:=c) ha hct;have hstep:=I7 (p:=p) (t:=t) (rest:=rest) (x:=x) (c:=c) ha hct;obtain ⟨hyS,hyx⟩:=htS t[c] (zx6 _);have hcmp:=sh l ae hl x t[c] hxS hyS;generalize hws0:ed p t rest x (c+1)=ws at *;have hi1:a+(c+1)<n:=by omega
  have hj1:a+c<n:=by omega
  obtain ⟨i1,hi1e⟩:∃ i1,i1=a+(c+1):=⟨_,rfl⟩
  obtain ⟨j1,hj1e⟩:∃ j1,j1=a+c:=⟨_,rfl⟩
  have hij:a+c+1=i1:=by omega
  rw[hij] at hstep;rw[←hi1e] at hi1 gx hc0 wd ⊢;rw[←hj1e] at hj1 gy wd hstep;have v1:=jL (n:=n) (i:=i1) hi1;have v2:=jL (n:=n) (i:=j1) hj1;have l1:=gT (xs:=ws) (i:=i1) (by omega);have l2:=gT (xs:=ws) (i:=j1) (by omega);have s1:=fun (A:af) v u rest=>og (A:=A) (n:=1000000) (xs:=ws) (i:=i1) (by omega) v u rest;obtain ⟨ws2,hws2⟩:∃ ws2,ws2=ws.set i1 (ws.getD j1 0):=⟨_,rfl⟩
  have hw2l:ws2.length=ws.length:=by rw[hws2];simp
  have s2:=fun (A:af) v u rest=>og (A:=A) (n:=1000000) (xs:=ws2) (i:=j1) (by omega) v u rest;have l3:=gT (xs:=ws2) (i:=j1) (by omega);rw[gx] at l1;rw[gy] at l2;rw[gy] at hws2;have hst2:ws2.set j1 x=ed p t rest x c:=by rw[←hstep];simp only[kM,gx,gy,←hws2]
  cases hlt:decide (gw l x-gw l t[c]<0) with
  |true =>
   have R:=u8 @hc0 (u8 @hw (u8 @wd (u8 @v1 (u8 @v2 (u8 @l1 (u8 @l2 (u8 @l3 (u8 @s1 (u8 @s2 (u8 @hst2 (u8 @hlt (u8 @dn (u8 @ec (u8 @aN @ab))))))))))))))
   repeat' ((first |(with_reducible refine .guard (fun hb =>?_) (fun hb =>?_) <;>try simp only[hb])|refine J.aI (by decide +kernel) rfl fun K hK =>?_|refine .flat _ (hcmp) rfl ?_|(refine .ay [0,1,2,3,8,9,14,34] hK ?_;clear hK K)|(with_reducible refine .done (hK _ ?_);clear hK K)|refine J.of rfl ?_|(with_reducible refine aq.aH (fun h =>?_) (fun h =>?_) <;>try simp only[h])) <;>try simp only[aK,R,←hws2,zy1,simprocAttr])
   all_goals clear R
   refine ⟨c,⟨by omega,fun y hy =>?_⟩,by omega,?_⟩
   ·rw[zv3 hct] at hy;rcases zx8.1 hy with rfl | hy
    ·rw[tN hyx];simp at hlt;omega
    ·exact hgt y hy
   ·rw[hj1e];refine aF.cK ?_ (fun n =>?_)
    ·simp[aY,aZ]
    ·simp only[ak];split <;>rfl
  |false =>
   have R:=u8 @hc0 (u8 @hw (u8 @wd (u8 @v1 (u8 @v2 (u8 @l1 (u8 @l2 (u8 @hlt (u8 @dn (u8 @ec (u8 @aN @ab))))))))))
   repeat' ((first |(with_reducible refine .guard (fun hb =>?_) (fun hb =>?_) <;>try simp only[hb])|refine J.aI (by decide +kernel) rfl fun K hK =>?_|refine .flat _ (hcmp) rfl ?_|(refine .ay [0,1,2,3,8,9,14,34] hK ?_;clear hK K)|(with_reducible refine .done (hK _ ?_);clear hK K)|refine J.of rfl ?_|(with_reducible refine aq.aH (fun h =>?_) (fun h =>?_) <;>try simp only[h])) <;>try simp only[aK,R,zy1,simprocAttr])
   all_goals clear R
   exact hexit _ (alz g3 hct (tM hyx (by simp at hlt;omega))) rfl rfl rfl rfl rfl
def ln(key:Nat→Int)(a b:Nat):Prop:=key a<key b∨(key a=key b∧a<b)
theorem xY(key:Nat→Int)(i:Nat)(o:List Nat):(fJ key i o).Perm (i::o):=by
 have h:(o.takeWhile fun k=>decide (key k≤key i))++(o.dropWhile fun k=>decide (key k≤key i))=o:=List.takeWhile_append_dropWhile;have:=(List.perm_middle (a:=i) (l₁:=o.takeWhile fun k=>decide (key k≤key i)) (l₂:=o.dropWhile fun k=>decide (key k≤key i)))
 rw[h] at this;exact this
theorem I6(key:Nat→Int)(i:Nat):∀ o:List Nat,o.Pairwise (ln key)→(∀ x∈o,x<i)→(fJ key i o).Pairwise (ln key)
 | [],_,_=>by simp[fJ]
 |a::o,hs,hi=>by
  obtain ⟨h1,h2⟩:=zw9.1 hs;by_cases ha:key a≤key i
  ·have e:fJ key i (a::o)=a::fJ key i o:=by simp[fJ,ha]
   rw[e];refine zw9.2 ⟨fun b hb =>?_,I6 key i o h2 fun x hx=>hi x (by simp[hx])⟩;rcases zx8.1 ((xY key i o).mem_iff.1 hb) with rfl | hb
   ·have:=hi a (by simp);simp only[ln];omega
   ·exact h1 b hb
  ·have e:fJ key i (a::o)=i::a::o:=by simp[fJ,ha]
   rw[e];refine zw9.2 ⟨fun b hb =>?_,hs⟩;rcases zx8.1 hb with rfl | hb
   ·simp only[ln];omega
   ·have:=h1 b hb;simp only[ln] at *;omega
theorem rL(key:Nat→Int):∀ (l o:List Nat),o.Pairwise (ln key)→l.Pairwise (· < ·)→(∀ x∈o,∀ y∈l,x<y)→(l.foldl (fun o i=>fJ key i o) o).Perm (o++l)∧(l.foldl (fun o i=>fJ key i o) o).Pairwise (ln key)
 | [],o,ho,_,_=>by simp[ho]
 |i::l,o,ho,hl,hx=>by
  obtain ⟨h1,h2⟩:=zw9.1 hl;have:=rL key l (fJ key i o) (I6 key i o ho fun x h=>hx x h i (by simp)) h2 fun x h y hy=>by
   rcases zx8.1 ((xY key i o).mem_iff.1 h) with rfl | h
   ·exact h1 y hy
   ·exact hx x h y (by simp[hy])
  refine ⟨this.1.trans ?_,this.2⟩;exact ((xY key i o).append_right l).trans List.perm_middle.symm
def cw(l:List Nat):List Int:=l.map fun n:Nat=>(n:Int)
def lS(l:List ar)(day known:Int):List Int:=cw (iZ l day known)
def qt(l:List ar)(day known:Int):List Int:=cw (fH l day known)
theorem alN(l:List ar)(known:Int):(gF l known).Pairwise (· < ·):=List.Pairwise.filter _ List.pairwise_lt_range
theorem Nd{l:List ar}{known:Int}{i:Nat}(h:i∈gF l known):i<l.length:=by
 simp only[gF,zw4,zw7] at h;exact h.1
theorem sW(l:List ar)(day known:Int):(iZ l day known).Pairwise (· < ·):=List.Pairwise.filter _ (alN l known)
theorem wi{l:List ar}{day known:Int}{i:Nat}(h:i∈iZ l day known):i<l.length:=Nd (zw4.1 h).1
theorem Xx(l:List ar)(day known:Int):(lS l day known).Pairwise (· < ·):=by
 refine List.pairwise_map.2 ((sW l day known).imp fun {a b} h =>?_)
 show (a:Int)<(b:Int)
 omega
theorem Xw{l:List ar}{day known:Int} : ∀ x∈lS l day known,jJ l x:=fun x hx=>by
 obtain ⟨i,hi,rfl⟩:=zx2.1 hx;have:=wi hi;exact ⟨by omega,by omega⟩
theorem sV(l:List ar)(day known:Int):(iZ l day known).length≤l.length:=by
 have h1:=zv8 (fun i=>decide ((ah l i).kind≠0)&&decide ((ah l i).day≤day)) (gF l known);have h2:=zv8 (fun i=>(gE l known).getD i false) (List.range l.length);rw[List.length_range] at h2;exact zu0 h1 h2
theorem akh{l:List ar}{day known:Int}{s:List Int}(hp:s.Perm (lS l day known))(hs:dw l s):s=qt l day known:=by
 have h0:=rL (fun i=>(ah l i).day) (iZ l day known) [] (by simp) (sW l day known) (by simp);have h1:(qt l day known).Perm (lS l day known):=h0.1.map _;have h2:dw l (qt l day known):=by
  refine List.pairwise_map.2 (h0.2.imp fun {a b} h =>?_);simp only[ln] at h;simp only[dN,gw,Int.toNat_natCast];omega
 refine List.Perm.eq_of_pairwise (fun a b _ _ h k =>?_) hs h2 (hp.trans h1.symm);simp only[dN] at h k;omega
theorem Kb{l:List ar}{day known:Int}{i:Nat}(h:i∈fH l day known):i∈iZ l day known:=by
 have h0:=rL (fun i=>(ah l i).day) (iZ l day known) [] (by simp) (sW l day known) (by simp);exact h0.1.mem_iff.1 h
theorem yK(l:List ar)(day known:Int):(fH l day known).length=(iZ l day known).length:=by
 have h0:=rL (fun i=>(ah l i).day) (iZ l day known) [] (by simp) (sW l day known) (by simp);exact h0.1.length_eq
theorem ajQ{x:ar}(h:fU x=true):0≤x.day∧x.day≤100000:=by
 simp only[fU,bP,zz3,decide_eq_true_eq] at h;omega
theorem Nc(l:List ar)(known:Int):(gE l known).length=l.length:=r3 known l
theorem OH(el:List ar):aB Tryz.prog 203 [enc ([]:List Int),.int .i64 0,.int .i64 0,.func 138 [.ref (enc el)]] (.tuple []):=by
 refine aB.bu Tryz.func203 CL CS C6 (zz0 rfl) (fun hwf W0 D0 E1 =>?_);simp only[vL,yW,bl,zz4,Nat.reduceAdd];clear hwf;have hc:decide ((1:Int)<0)=false:=by decide
 have hw:IntKind.i64.wrap 1=1:=by decide
 refine .az (by decide +kernel) fun K hK =>?_;simp only[xt,ab,Nat.reduceEqDiff,reduceIte];refine .done (hK _ ?_);clear hK K;refine J.block (J.loop (fun _:Unit=>au [(2,.int .i64 0),(8,.int .i64 1)] []) (fun _=>True) (fun _=>0) () trivial ?_ (fun _ _ =>?_))
 ·refine aF.cq ?_ ?_ ?_ ?_ <;>simp[*,aY,b7,bY,bE,aZ,I.only]
 have R:=u8 @hc (u8 @kW (u8 @bB (u8 @aN @ab)))
 repeat' ((first |(with_reducible refine .guard (fun hb =>?_) (fun hb =>?_) <;>try simp only[hb])|refine J.aI (by decide +kernel) rfl fun K hK =>?_|(refine .ay [0,1,2,3,8,9,14,34] hK ?_;clear hK K)|(with_reducible refine .done (hK _ ?_);clear hK K)|refine J.of rfl ?_|(with_reducible refine aq.aH (fun h =>?_) (fun h =>?_) <;>try simp only[h])) <;>try simp only[aK,R,Nat.reduceEqDiff,reduceIte,Nat.reduceBEq])
 all_goals clear R
 rfl
theorem Ot(el:List ar):aB Tryz.prog 171 [enc ([]:List Int),.int .i64 0,.func 138 [.ref (enc el)]] (.tuple []):=by
 refine aB.bu Tryz.func171 CI CQ C4 (zz0 rfl) (fun hwf W0 D0 E1 =>?_);simp only[vJ,yU,bl,zz4,Nat.reduceAdd];clear hwf;have hc:decide ((20:Int)≤0)=false:=by decide
 have hc2:decide ((20:Int)<0)=false:=by decide
 refine .az (by decide +kernel) fun K hK =>?_;simp only[xi,ab];refine .done (hK _ ?_);clear hK K;refine .az (by decide +kernel) fun K hK =>?_;simp only[xj,ab,Nat.reduceEqDiff,reduceIte];refine .done (hK _ ?_);clear hK K;refine J.seq (J.block (J.loop (fun _:Unit=>au [(0,enc ([]:List Int)),(1,.int .i64 0),(2,.func 138 [.ref (enc el)]),(6,.int .i64 20),(7,.int .i64 0),(8,.int .i64 20)] []) (fun _=>True) (fun _=>0) () trivial ?_ (fun _ _ =>?_)))
 ·refine aF.cq ?_ ?_ ?_ ?_ <;>simp[aY,b7,bY,bE,aZ,I.only,I.bZ,bK]
 have R:=u8 @hc (u8 @kW (u8 @bB (u8 @aN @ab)))
 repeat' ((first |(with_reducible refine .guard (fun hb =>?_) (fun hb =>?_) <;>try simp only[hb])|refine J.aI (by decide +kernel) rfl fun K hK =>?_|refine .lead _ (OH el) ?_|(refine .ay [0,1,2,6,7,8,9,13,30,35,54] hK ?_;clear hK K)|(with_reducible refine .done (hK _ ?_);clear hK K)|refine J.of rfl ?_|(with_reducible refine aq.aH (fun h =>?_) (fun h =>?_) <;>try simp only[h])) <;>try simp only[aK,R,Nat.reduceEqDiff,reduceIte,Nat.reduceBEq])
 all_goals clear R
 refine J.loop (fun _:Unit=>au [(0,enc ([]:List Int)),(1,.int .i64 0),(2,.func 138 [.ref (enc el)]),(6,.int .i64 20)] []) (fun _=>True) (fun _=>0) () trivial ?_ (fun _ _ =>?_)
 ·refine aF.cq ?_ ?_ ?_ ?_ <;>simp[aY,b7,bY,bE,aZ,I.only,I.bZ,bK]
 have R:=u8 @hc2 (u8 @kW (u8 @bB (u8 @aN @ab)))
 repeat' ((first |(with_reducible refine .guard (fun hb =>?_) (fun hb =>?_) <;>try simp only[hb])|refine J.aI (by decide +kernel) rfl fun K hK =>?_|(refine .ay [0,1,2,6,7,8,9,13,30,35,54] hK ?_;clear hK K)|(with_reducible refine .done (hK _ ?_);clear hK K)|refine J.of rfl ?_|(with_reducible refine aq.aH (fun h =>?_) (fun h =>?_) <;>try simp only[h])) <;>try simp only[aK,R,Nat.reduceEqDiff,reduceIte,Nat.reduceBEq])
 all_goals clear R
 rfl
theorem N6(el:List ar):aB Tryz.prog 137 [enc ([]:List Int),.func 138 [.ref (enc el)]] (.tuple []):=by
 refine aB.bu Tryz.func137 CG CP C3 (zz0 rfl) (fun hwf W0 D0 E1 =>?_);simp only[vI,yT,bl,zz4];clear hwf;have hz:(([]:List Int).length:Int)=0:=rfl;have R:=u8 @hz (u8 @kW (u8 @bB (u8 @aN @ab)))
 repeat' ((first |(with_reducible refine .guard (fun hb =>?_) (fun hb =>?_) <;>try simp only[hb])|refine J.aI (by decide +kernel) rfl fun K hK =>?_|refine .lead _ (Ot el) ?_|(refine .ay [0,1] hK ?_;clear hK K)|(with_reducible refine .done (hK _ ?_);clear hK K)|refine J.of rfl ?_|(with_reducible refine aq.aH (fun h =>?_) (fun h =>?_) <;>try simp only[h])) <;>try simp only[R,Nat.reduceEqDiff,reduceIte])
 all_goals clear R
 rfl
def ak8(l:List cF):Prop:=∀ (i j:Nat) (hi:i<l.length) (hj:j<l.length),i<j→l[i].bx<l[j].bx
theorem amu{m:cP}(h:gR m=true):ak8 m.given:=by
 simp only[gR,zz3,zx9,zw7] at h;have h1:∀ i,i+1<m.given.length→(eG m i).bx<(eG m (i+1)).bx:=fun i hi=>by
  have:=h.2.2.2 (i+1) hi;simp only[jn,zz3] at this;simpa using this.2.2.1
 intro i j hi hj hij;obtain ⟨d,rfl⟩:∃ d,j=i+1+d:=⟨j-(i+1),by omega⟩
 induction d with
 |zero=>rw[lg hi,lg hj];exact h1 i hj
 |succ d ih =>
  have hj':i+1+d<m.given.length:=by omega
  have:=ih hj' (by omega);rw[lg hi,lg hj'] at this;rw[lg hi,lg hj];have h3:=h1 (i+1+d) hj;have e:i+1+(d+1)=i+1+d+1:=by omega
  rw[e];omega
theorem ajX{m:cP}(h:gR m=true):m.given.length≤40:=by
 simp only[gR,zz3,decide_eq_true_eq] at h;exact h.2.2.1
theorem ajY{m:cP}(h:gR m=true):∀ g∈m.given,gm g.mark=true:=fun g hg=>by
 simp only[gR,zz3,zx9,zw7] at h;obtain ⟨i,hi,rfl⟩:=List.getElem_of_mem hg;rw[lg hi];exact JS (h.2.2.2 i hi)
theorem OF(m:cP)(r:bL 6 Int)(g:cF)(hg:gm g.mark=true):aB Tryz.prog 201 (enc g::[.ref (enc m),.ref (enc r)]) (enc (decide (m.gW<mI m.gH g.mark r))):=by
 refine aB.bu Tryz.func201 Rt Tm Vv (zz0 rfl) (fun hwf W0 D0 E1 =>?_);simp only[BV,Lv,bl,zz4,Nat.reduceAdd];refine .az (by decide +kernel) fun K hK =>?_;simp only[Hg,ab,simprocAttr]
 try simp only[dU,ab,simprocAttr]
 refine .done (hK _ ?_);clear hK K;refine .az (by decide +kernel) fun K hK =>?_;simp only[Hh,ab,simprocAttr]
 try simp only[ew,fg,ab,simprocAttr]
 refine .flat _ (OG m.gH g.mark r hg) rfl ?_
 try simp only[ew,ab,simprocAttr]
 refine .done (hK _ ?_);clear hK K;refine J.ret ?_;simp only[ab,simprocAttr]
def lv(m:cP)(r:bL 6 Int):List cF:=fQ (fun g=>decide (m.gW<mI m.gH g.mark r)) m.given
def Kn(d:Nat)(m:cP)(r:bL 6 Int):cV:=fun x os'=>(lv m r=[]∧x=enc ([]:List cF)∧os'=[])∨∃ k,x=.view d [] 7 0 (lv m r).length∧os'=iO d (lv m r) k
theorem Om(m:cP)(r:bL 6 Int)(hm:∀ g∈m.given,gm g.mark=true)(hlen:m.given.length≤1000):cH Tryz.prog 168 [enc m,enc r] [] (Kn 7 m r):=by
 refine cH.bu Tryz.func168 Ra S3 Vc (zz0 rfl) (zz0 rfl) (fun m hm=>by simp[av,ak] at hm) (fun hwf W0 D0 E1 =>?_);simp only[BC,Lc,bl,zz4];refine .az (by decide +kernel) fun K hK =>?_;simp only[Gn,ab,simprocAttr]
 try simp only[dU,ab,simprocAttr]
 refine .done (hK _ ?_);clear hK K;refine .az (by decide +kernel) fun K hK =>?_;simp only[Gp,ab,simprocAttr]
 try simp only[ew,fg,ab,simprocAttr]
 refine .bT false [(7,7)] [] [enc m.given] (vU m.given) rfl (zU m.given hlen) gh.nil ⟨.inl ⟨(ky _ _).symm,bK _ _,dU _⟩,trivial⟩ ?_ ?_
 ·rintro x os' (⟨_,h | h,rfl⟩ | ⟨_,k,rfl,rfl⟩)
  ·subst h;exact eK.nil (fun _=>rfl) (fun h=>by cases h)
  ·subst h;exact eK.nil (fun _=>rfl) (fun h=>by cases h)
  ·exact eK.tY (fun p=>mT p _) (fun h=>by cases h) rfl (fun h=>by cases h) rfl (by decide)
 ·have ae:I.eP [.ref (enc m),.ref (enc r)]=true:=by simp only[I.eP,I.done,ec,zw3]
  rintro x os' (⟨hn,h,rfl⟩ | ⟨hn,k,rfl,rfl⟩)
  ·have hp:lv m r=[]:=by simp[lv,fQ,hn]
   have key:∀ x,(x=.nils 7∨x=.c0 7)→a6 true (au [] []) x=some (enc ([]:List cF)):=by rintro x (rfl | rfl) <;>rfl
   have hren:∀ x:I,(x=.nils 7∨x=.c0 7)→x.aQ (bD [(7,7)])=x∧x.cn=true:=by rintro x (rfl | rfl) <;>exact ⟨by simp only[I.aQ],rfl⟩
   rw[(hren x h).1]
   try simp only[jQ,zy7,List.all_cons,List.all_nil,I.cn,zw3,ab,simprocAttr]
   have hfx:∀ A,a6 true A x=some (enc ([]:List cF)):=fun A=>by rcases h with rfl | rfl <;>simp only[a6,gi,zx3] <;>rfl
   refine .gN [2,3] (enc ([]:List cF)) rfl (OE 201 [.ref (enc m),.ref (enc r)] ae) ?_ ?_ ?_
   ·try simp only[hfx,fR,zw1,zv5,List.contains_cons,Nat.reduceBEq,Bool.or_true,Bool.true_or,BEq.rfl,ec,ab,simprocAttr]
   ·simp[cJ,bE]
   ·try simp only[fF,cJ,zw1,zv5,List.contains_cons,Nat.reduceBEq,Bool.or_true,Bool.true_or,BEq.rfl,zz9,zx3,ab,simprocAttr]
    refine .done (hK _ ?_);clear hK K;refine J.ret ?_;simp only[fV];exact ⟨[],[enc ([]:List cF)],rj,⟨⟨_,rfl,.inl ⟨rfl,rfl,rfl⟩⟩,trivial⟩,.inl ⟨hp,rfl,rfl⟩⟩
  ·try simp only[iO,jQ,hE,zy1,zy7,List.all_cons,List.all_nil,I.cn,zw3,ab,simprocAttr]
   refine .bT true [(1000000,7)] (iO 1000000 m.given k) [.view 1000000 [] 7 0 m.given.length,.func 201 [.ref (enc m),.ref (enc r)]] (Db 1000000 (lv m r)) rfl
    (OD m.given 201 [.ref (enc m),.ref (enc r)] ae (fun g=>decide (m.gW<mI m.gH g.mark r)) (fun g hg=>OF m r g (hm g hg)) hlen k) ⟨?_,?_⟩ ⟨.inl ⟨?_,?_,rfl⟩,.inr ?_,trivial⟩ ?_ ?_
   ·intro n x h;simp only[iO,ak] at h;split at h
    ·rename_i hn';subst hn';simp only[t7] at h;subst h;exact ⟨by simp only[jQ,hE,ab,simprocAttr],mT _ _,rfl⟩
    ·cases h
   ·intro a b ha hb _;rw[dA.1 ha,dA.1 hb]
   ·try simp only[jQ,simprocAttr]
   ·exact dA.2 rfl
   ·try simp only[kb,iO,bD,cJ,zw1,zv5,zz9,zx3,List.contains_cons,List.contains_nil,Nat.reduceBEq,Bool.or_false,BEq.rfl,ec,ab,simprocAttr]
   ·rintro x os' ⟨k',rfl,rfl⟩;exact eK.one (fun p=>mT p _) (fun _=>aiK _) (dA.2 rfl) (fun _=>rfl)
   ·rintro x os' ⟨k',rfl,rfl⟩
    try simp only[iO,jQ,hE,zy1,zy7,ab,simprocAttr]
    refine .done (hK _ ?_);clear hK K;refine J.ret ?_;simp only[fV];exact ⟨iO 7 (lv m r) k',[.view 7 [] 7 0 (lv m r).length],nF rfl (fun p=>mT p _),⟨⟨_,rfl,.inl ⟨rfl,rfl,rfl⟩⟩,trivial⟩,.inr ⟨k',rfl,rfl⟩⟩
def lu(l:List cF)(i:Nat):List Int:=(l.take i).map (·.bx)
theorem ako(l:List cF):lu l 0=[]:=by simp[lu]
theorem akn{l:List cF}{i:Nat}(h:i<l.length):lu l (i+1)=lu l i++[l[i].bx]:=by
 simp only[lu];rw[zy2 h,zx4];rfl
theorem Kc{l:List cF}{i:Nat}(h:i≤l.length):(lu l i).length=i:=by simp[lu];omega
theorem akm(l:List cF):lu l l.length=l.map (·.bx):=by simp[lu]
theorem On(l:List cF)(hlen:l.length≤1000):aB Tryz.prog 169 [enc l] (enc (l.map (·.bx))):=by
 refine aB.bu Tryz.func169 Rb S4 Vd (zz0 rfl) (fun hwf W0 D0 E1 =>?_);simp only[BD,Ld,bl];refine .az (by decide +kernel) fun K hK =>?_;simp only[Gq,ab,simprocAttr];refine .done (hK _ ?_);clear hK K;refine .az (by decide +kernel) fun K hK =>?_;simp only[Gr,ab,simprocAttr];refine .done (hK _ ?_);clear hK K;refine J.seq ?_;refine J.seq (J.b6 (by decide +kernel) fun K hK =>?_)
 try simp only[Gs,bB,ab,simprocAttr]
 refine .done (hK _ ?_);clear hK K;refine J.block (J.loop (fun i:Nat=>au [(3,.own 3 (lu l i).length),(6,enc l),(7,.int .i64 l.length),(8,.int .i64 i)] [(3,.bR 3 1 ((lu l i).map enc))]) (fun i=>i≤l.length) (fun i=>l.length-i) 0 (zv1 _) ?_ (fun i hi =>?_))
 ·refine aF.ou 3 3 3 1 1 ?_ ?_ ?_
  ·simp only[pC,Nat.reduceEqDiff,reduceIte]
  ·simp only[pC]
  ·simp only[ako,zx3,List.length_nil];refine aF.cq ?_ ?_ ?_ ?_ <;>simp[aY,b7,bY,bE,av,aZ,cZ,I.only,I.bZ,aj.only,bK]
 ·refine .az (by decide +kernel) fun K hK =>?_;simp only[Gt,ab,simprocAttr];refine .done (hK _ ?_);clear hK K;refine J.seq ?_;refine J.bX ?_;simp only[aq,ab,simprocAttr];refine ⟨fun h =>?_,fun h =>?_⟩
  ·have hlt:i<l.length:=by simpa using h
   refine J.skip ?_;try simp only[aG,simprocAttr]
   refine J.seq (J.block ?_);refine .az (by decide +kernel) fun K hK =>?_;simp only[Gu,ab,simprocAttr]
   try simp only[eL 7 hlt rfl,ew,ab,simprocAttr]
   rw[ee (dU _) (by rw[fZ];rfl) ((eQ _).trans rfl)]
   try simp only[ab,simprocAttr]
   refine .done (hK _ ?_);clear hK K;refine .b6 (by decide +kernel) fun K hK =>?_;simp only[Gv,ab,simprocAttr]
   try simp only[ew,ab,simprocAttr]
   rw[kS 3 1 8 3 rfl rfl (by simp) (by simp[maxLen,Kc hi];omega) (by simp[Kc hi];omega)]
   try simp only[ab,simprocAttr]
   refine .done (hK _ ?_);clear hK K;try simp only[aG,cj]
   refine .b6 (by decide +kernel) fun K hK =>?_;simp only[Gw,ab,simprocAttr];refine .done (hK _ ?_);clear hK K;try simp only[aG]
   refine ⟨i+1,by omega,by omega,?_⟩;rw[dI _ (by omega) (by omega),akn hlt];refine aF.cq ?_ ?_ ?_ ?_ <;>simp[aY,b7,bY,bE,av,aZ,cZ,I.only,I.bZ,aj.only,eI,jO,bK,fY]
  ·have hge:i=l.length:=by simp at h;omega
   subst hge;refine J.exit ?_;try simp only[aG,cj,simprocAttr]
   refine .az (by decide +kernel) fun K hK =>?_;simp only[Gx,ab,simprocAttr];refine .done (hK _ ?_);clear hK K;refine J.ret ?_
   try simp only[akm,ab,simprocAttr]
def fk(rs:List (bL 6 Int))(j:Nat):bL 6 Int:=rs.getD j NG
theorem ahZ{A:af}{rs:List (bL 6 Int)}{i:Nat}(h:i<rs.length):ik A 6 (i:Int) (enc rs)=some (.ref (enc (fk rs i))):=by
 rw[eL 6 h rfl];simp[fk,zz2,h]
def Di(m:cP)(rs:List (bL 6 Int))(g:cF)(j:Nat):Bool:=decide (mI m.gH g.mark (fk rs j)≤m.gW)
def jN(m:cP)(rs:List (bL 6 Int))(n:Nat):List cF:=m.given.filter fun g=>(List.range n).all (Di m rs g)
theorem ajK(m:cP)(rs:List (bL 6 Int)):jN m rs 0=m.given:=by simp[jN]
theorem JP(m:cP)(rs:List (bL 6 Int))(n:Nat):jN m rs (n+1)=lv ⟨m.gH,m.gW,jN m rs n⟩ (fk rs n):=by
 simp only[jN,lv,fQ,List.filter_filter];refine List.filter_congr fun g _ =>?_;rw[List.range_succ,List.all_append];simp only[List.all_cons,List.all_nil,Bool.and_true,Di];by_cases h:mI m.gH g.mark (fk rs n)≤m.gW
 ·have h2:¬ m.gW<mI m.gH g.mark (fk rs n):=by omega
  simp[h,h2]
 ·have h2:m.gW<mI m.gH g.mark (fk rs n):=by omega
  simp[h,h2]
theorem ajJ{m:cP}{rs:List (bL 6 Int)}{n:Nat}{g:cF}(h:g∈jN m rs n):g∈m.given:=(zw4.1 h).1
theorem JO(m:cP)(rs:List (bL 6 Int))(n:Nat):(jN m rs n).length≤m.given.length:=zv8 _ _
def yD(rs:List (bL 6 Int)):Bool:=(List.range rs.length).all fun i=>mf (fk rs i)
def jm(m:cP)(rs:List (bL 6 Int)):List Int×Int:=if gR m then (if rs.length≤60 then (if yD rs then ((jN m rs rs.length).map (·.bx),0) else ([],12)) else ([],2)) else ([],13)
theorem Qj(w:bL 5 Int)(n:Int)(l:List cF):eJ [enc (a5 0 0 0 0 0),.int .i64 0,.nils 7] [(0,enc w),(1,.int .i64 n),(2,enc l)]=some [enc w,.int .i64 n,enc l]:=by
 have h1:((enc w:I).cn=true∧(enc w:I).size=(enc (a5 0 0 0 0 0)).size):=⟨dU _,by rw[ja,ja]⟩
 have h2:((enc l:I).cn=true∧(enc l:I).size=(I.nils 7).size):=⟨dU _,by rw[ja];rfl⟩
 rw[zq (z:=enc (a5 0 0 0 0 0)) rfl h1.1 h1.2,zq (v:=.int .i64 n) (z:=.int .i64 0) rfl rfl rfl,zq (z:=.nils 7) rfl h2.1 h2.2];rfl
theorem NU(m:cP)(rs:List (bL 6 Int)):aB Tryz.prog 128 [enc m,enc rs] (.tuple [enc (jm m rs).1,enc (jm m rs).2]):=by
 refine aB.bu Tryz.func128 QI SA UJ (zz0 rfl) (fun hwf W0 D0 E1 =>?_);simp only[A9,KK,bl,zz4];refine .az (by decide +kernel) fun K hK =>?_;simp only[E4,ab,simprocAttr]
 try simp only[dU,ab,simprocAttr]
 refine .done (hK _ ?_);clear hK K;refine J.seq ?_;refine .az (by decide +kernel) fun K hK =>?_;simp only[E5,ab,simprocAttr]
 try simp only[ew,fg,ab,simprocAttr]
 refine .flat _ (vk m) rfl ?_;generalize hm:gR m=bm;cases bm
 ·try simp only[ab,simprocAttr]
  refine .done (hK _ ?_);clear hK K;refine .az (by decide +kernel) fun K hK =>?_;simp only[wU,ab,simprocAttr];refine .done (hK _ ?_);clear hK K;refine J.bX ?_;simp only[aq,ab,simprocAttr];refine ⟨fun h =>?_,fun h =>?_⟩
  ·refine .az (by decide +kernel) fun K hK =>?_;simp only[E6,ab,simprocAttr];refine .done (hK _ ?_);clear hK K;refine J.ret ?_;simp only[aG,ab,simprocAttr];simp[jm,hm,yl]
  ·cases h
 try simp only[ab,simprocAttr]
 refine .done (hK _ ?_);clear hK K;refine .az (by decide +kernel) fun K hK =>?_;simp only[wU,ab,simprocAttr];refine .done (hK _ ?_);clear hK K;refine J.bX ?_;simp only[aq,ab,simprocAttr];refine ⟨fun h =>?_,fun h =>?_⟩
 ·cases h
 refine J.skip ?_;try simp only[aG,simprocAttr]
 refine J.seq ?_;refine .az (by decide +kernel) fun K hK =>?_;simp only[E7,ab,simprocAttr]
 try simp only[bB,ab,simprocAttr]
 refine .done (hK _ ?_);clear hK K;refine J.bX ?_;simp only[aq,ab,simprocAttr];refine ⟨fun h =>?_,fun h =>?_⟩
 ·refine .az (by decide +kernel) fun K hK =>?_;simp only[E8,ab,simprocAttr];refine .done (hK _ ?_);clear hK K;refine J.ret ?_;simp only[aG,ab,simprocAttr];have:¬ rs.length≤60:=by simp at h;omega
  simp[jm,hm,this,yl]
 have hrl:rs.length≤60:=by simp at h;omega
 refine J.skip ?_;try simp only[aG,simprocAttr]
 have hlen:m.given.length≤1000:=by have:=ajX hm;omega
 -- from the clone on
 have key:∀ c:cO,c=⟨Tryz.prog,W0,D0,Tryz.f128.ntmps,dC E1,E1,iG,none⟩→J c (.seq (.seq (.bW none wV) (.block 0 (.loop (.seq (.bW none wW) (.seq (.cond (.t 25) .skip (.exit 0)) (.seq (.block 1 (.seq (.bW none wX) (.seq (.seq (.bW none wQ) (.seq (.bW none th) (.cond (.t 31) (.seq (.bW none wR) .ret) .skip))) (.bW none wS)))) (.bW none tj))))))) (.seq (.bW none wT) .ret))
   (jS [.tmp 4,.tmp 5] (.tuple [enc (jm m rs).1,enc (jm m rs).2])) (au [(1,enc rs),(2,.ptr 2 []),(7,enc m.given)] [(2,.box (enc m))]):=by
  rintro c rfl;refine J.seq ?_;refine .az (by decide +kernel) fun K hK =>?_;simp only[wV,ab,simprocAttr]
  try simp only[bB,ab,simprocAttr]
  refine .done (hK _ ?_);clear hK K;refine J.block (J.loop (fun i:Nat=>au [(1,enc rs),(2,.ptr 2 []),(7,enc (jN m rs i)),(22,enc rs),(23,.int .i64 rs.length),(24,.int .i64 i)] [(2,.box (enc m))]) (fun i=>i≤rs.length∧∀ j,j<i→mf (fk rs j)=true) (fun i=>rs.length-i) 0 ⟨by omega,fun j h=>by omega⟩ ?_ (fun i hi =>?_))
  ·rw[ajK];refine aF.cq ?_ ?_ ?_ ?_ <;>simp[aY,b7,bY,bE,av,aZ,cZ,I.only,aj.only,bK]
  refine .az (by decide +kernel) fun K hK =>?_;simp only[wW,ab,simprocAttr];refine .done (hK _ ?_);clear hK K;refine J.seq ?_;refine J.bX ?_;simp only[aq,ab,simprocAttr];refine ⟨fun h =>?_,fun h =>?_⟩
  case refine_2.refine_2 =>
   have hge:i=rs.length:=by simp at h;omega
   subst hge;have hok:yD rs=true:=pE hi.2;refine J.exit ?_;try simp only[aG,cj,simprocAttr]
   refine .az (by decide +kernel) fun K hK =>?_;simp only[wT,ab,simprocAttr]
   try simp only[fg,ab,simprocAttr]
   refine .lead _ (On (jN m rs rs.length) (zu0 (JO _ _ _) hlen)) ?_
   try simp only[ab,simprocAttr]
   refine .done (hK _ ?_);clear hK K;refine J.ret ?_;simp only[ab,simprocAttr]
   try simp only[fg,ab,simprocAttr]
   simp[jm,hm,hrl,hok]
  have hlt:i<rs.length:=by simp at h;omega
  refine J.skip ?_;try simp only[aG,simprocAttr]
  refine J.seq (J.block ?_);refine .az (by decide +kernel) fun K hK =>?_;simp only[wX,ab,simprocAttr]
  try simp only[ew,ahZ hlt,XD,alK,ab,simprocAttr]
  refine .done (hK _ ?_);clear hK K;refine J.seq ?_;refine .az (by decide +kernel) fun K hK =>?_;simp only[wQ,ab,simprocAttr]
  try simp only[ew,fg,ab,simprocAttr]
  refine .flat _ (zR (fk rs i)) rfl ?_;generalize hr:mf (fk rs i)=aH;cases aH
  ·try simp only[ab,simprocAttr]
   refine .done (hK _ ?_);clear hK K;refine .az (by decide +kernel) fun K hK =>?_;simp only[th,ab,simprocAttr];refine .done (hK _ ?_);clear hK K;refine J.bX ?_;simp only[aq,ab,simprocAttr];refine ⟨fun h =>?_,fun h =>?_⟩
   ·refine .az (by decide +kernel) fun K hK =>?_;simp only[wR,ab,simprocAttr];refine .done (hK _ ?_);clear hK K;refine J.ret ?_;simp only[cj,aG,ab,simprocAttr];have hok:yD rs=false:=nq i hlt hr;simp[jm,hm,hrl,hok,yl]
   ·cases h
  try simp only[ab,simprocAttr]
  refine .done (hK _ ?_);clear hK K;refine .az (by decide +kernel) fun K hK =>?_;simp only[th,ab,simprocAttr];refine .done (hK _ ?_);clear hK K;refine J.bX ?_;simp only[aq,ab,simprocAttr];refine ⟨fun h =>?_,fun h =>?_⟩
  ·cases h
  refine J.skip ?_;try simp only[aG,simprocAttr]
  have hof:∀ j,j<i+1→mf (fk rs j)=true:=fun j hj=>by
   rcases Nat.lt_or_ge j i with h1 | h1
   ·exact hi.2 j h1
   ·have:j=i:=by omega
    subst this;exact hr
  refine .b6 (by decide +kernel) fun K hK =>?_;simp only[wS,ab,simprocAttr]
  try simp only[ew,fg,Qj,XC,XB,ab,simprocAttr]
  refine .bT false [(7,40)] [] [enc (⟨m.gH,m.gW,jN m rs i⟩:cP),enc (fk rs i)] (Kn 7 ⟨m.gH,m.gW,jN m rs i⟩ (fk rs i)) rfl (Om ⟨m.gH,m.gW,jN m rs i⟩ (fk rs i) (fun g hg=>ajY hm g (ajJ hg)) (zu0 (JO m rs i) hlen)) gh.nil ⟨.inl ⟨(ky _ _).symm,bK _ _,dU _⟩,.inl ⟨(ky _ _).symm,bK _ _,dU _⟩,trivial⟩ ?_ ?_
  ·rintro x os' (⟨_,rfl,rfl⟩ | ⟨k,rfl,rfl⟩)
   ·exact eK.nil (fun _=>rfl) (fun h=>by cases h)
   ·exact eK.tY (fun p=>mT p _) (fun h=>by cases h) rfl (fun h=>by cases h) rfl (by decide)
  ·rintro x os' (⟨hp,rfl,rfl⟩ | ⟨k,rfl,rfl⟩)
   ·try simp only[ky,jQ,zy7,ab,simprocAttr]
    refine .done (hK _ ?_);clear hK K;try simp only[aG,cj]
    refine .b6 (by decide +kernel) fun K hK =>?_;simp only[tj,ab,simprocAttr];refine .done (hK _ ?_);clear hK K;try simp only[aG]
    refine ⟨i+1,⟨by omega,hof⟩,by omega,?_⟩;rw[dI _ (by omega) (by omega),JP,hp];refine aF.cq ?_ ?_ ?_ ?_ <;>simp[aY,b7,bY,bE,av,aZ,cZ,I.only,aj.only,bK]
   ·try simp only[iO,jQ,hE,zy1,zy7,ab,simprocAttr]
    refine .done (hK _ ?_);clear hK K;try simp only[aG,cj]
    refine .b6 (by decide +kernel) fun K hK =>?_;simp only[tj,ab,simprocAttr];refine .done (hK _ ?_);clear hK K;try simp only[aG]
    refine ⟨i+1,⟨by omega,hof⟩,by omega,?_⟩;rw[dI _ (by omega) (by omega),JP];refine aF.oI (y:=enc (lv ⟨m.gH,m.gW,jN m rs i⟩ (fk rs i))) [40] 7 rfl ?_ ?_ ?_ ?_ ?_ ?_
    ·try simp only[fR,zw1,zv5,List.contains_cons,List.contains_nil,Nat.reduceBEq,Bool.or_false,BEq.rfl,ta (α:=cF) (sz:=7) rfl,zG,ab,simprocAttr]
    ·simp[cJ,bE,aj.only,bK]
    ·simp[aY,fF,aZ,I.only,bK]
    ·simp[b7,cJ,cZ]
    ·simp[bY,av,cZ,I.only,bK]
    ·simp[bE,aj.only,bK]
 refine .az (by decide +kernel) fun K hK =>?_;simp only[E9,ab,simprocAttr]
 try simp only[ew,fg,ab,simprocAttr]
 refine .bT false [(7,21)] [] [enc m.given] (vU m.given) rfl (zU m.given hlen) gh.nil ⟨.inl ⟨(ky _ _).symm,bK _ _,dU _⟩,trivial⟩ ?_ ?_
 ·rintro x os' (⟨_,h | h,rfl⟩ | ⟨_,k,rfl,rfl⟩)
  ·subst h;exact eK.nil (fun _=>rfl) (fun h=>by cases h)
  ·subst h;exact eK.nil (fun _=>rfl) (fun h=>by cases h)
  ·exact eK.tY (fun p=>mT p _) (fun h=>by cases h) rfl (fun h=>by cases h) rfl (by decide)
 ·rintro x os' (⟨hn,h,rfl⟩ | ⟨hn,k,rfl,rfl⟩)
  ·have hren:∀ x:I,(x=.nils 7∨x=.c0 7)→x.aQ (bD [(7,21)])=x:=by rintro x (rfl | rfl) <;>simp only[I.aQ]
   rw[hren x h]
   try simp only[jQ,zy7,ab,simprocAttr]
   refine .done (hK _ ?_);clear hK K;refine J.sub (aF.oI (y:=enc m.given) [] 7 rfl ?_ ?_ ?_ ?_ ?_ ?_) (key _ rfl)
   ·rw[hn];rcases h with rfl | rfl <;>simp only[gi,zx3] <;>rfl
   ·simp[cJ,bE,aj.only,bK]
   ·simp[aY,fF,aZ,I.only,bK]
   ·simp[b7,cJ,cZ]
   ·simp[bY,av,cZ,I.only,bK]
   ·simp[bE,aj.only,bK]
  ·try simp only[iO,jQ,hE,zy1,zy7,ab,simprocAttr]
   refine .done (hK _ ?_);clear hK K;refine J.sub (aF.oI (y:=enc m.given) [21] 7 rfl ?_ ?_ ?_ ?_ ?_ ?_) (key _ rfl)
   ·try simp only[fR,zw1,zv5,List.contains_cons,List.contains_nil,Nat.reduceBEq,Bool.or_false,BEq.rfl,ta (α:=cF) (sz:=7) rfl,zG,ab,simprocAttr]
   ·simp[cJ,bE,aj.only,bK]
   ·simp[aY,fF,aZ,I.only,bK]
   ·simp[b7,cJ,cZ]
   ·simp[bY,av,cZ,I.only,bK]
   ·simp[bE,aj.only,bK]
theorem DB(n:Nat)(ts:List (Nat×I)):∀ t,Abs.bO (fF [n] ts) t=if (Abs.bO ts t).only (fun j => ![n].contains j)=true then Abs.bO ts t else .de:=by
 intro t;simp only[fF]
 induction ts with
 |nil=>simp[Abs.bO]
 |cons q ts ih =>
  obtain ⟨k,v⟩:=q;simp only[zz9,Abs.bO];split
  ·rfl
  ·exact ih
theorem DC(ns:List Nat)(ts:List (Nat×I)):∀ t,Abs.bO (fF ns ts) t=if (Abs.bO ts t).only (fun j => !ns.contains j)=true then Abs.bO ts t else .de:=by
 intro t;simp only[fF]
 induction ts with
 |nil=>simp[Abs.bO]
 |cons q ts ih =>
  obtain ⟨k,v⟩:=q;simp only[zz9,Abs.bO];split
  ·rfl
  ·exact ih
theorem u5{p q:Nat→Bool}(h:∀ n,p n=true→q n=true){y:aj}(hy:y.only p=true):y.only q=true:=by
 cases y with
 |box x=>exact jo h _ hy
 |bR T sz es=>exact iK h _ hy
 |dO o=>rfl
 |c5 T xs=>rfl
 |cC ks vs=>simp only[aj.only,zz3] at hy ⊢;exact ⟨iK h _ hy.1,iK h _ hy.2⟩
 |it ks vs l c=>simp only[aj.only,zz3] at hy ⊢;exact ⟨iK h _ hy.1,iK h _ hy.2⟩
theorem ui{n k:Nat} : ∀ {ts:List (Nat×I)},(∀ q∈ts,nV n k q.2)→∀ t,nV n k (Abs.bO ts t)
 | [],_,_=>.inr rfl
 |(a,v)::ts,h,t=>by
  simp only[Abs.bO];split
  ·exact h (a,v) (by simp)
  ·exact ui (fun q hq=>h q (by simp[hq])) t
theorem uj{p:Nat→Bool}{n k:Nat}(hp:p=fun j => ![n].contains j)(f:aj→aj)(hf:∀ y:aj,y.only p=true→f y=y):∀ {os:List (Nat×aj)},bE p (cJ [n] os)→bE p (cJ [n] (os.map fun q=>(q.1,f q.2)))
 | [],_=>trivial
 |(m,y)::os,h=>by
  simp only[zz9,cJ,zw1] at h ⊢;split
  ·rename_i hm;rw[if_pos hm] at h;refine ⟨?_,uj (k:=k) hp f hf h.2⟩;rw[hf y h.1];exact h.1
  ·rename_i hm;rw[if_neg hm] at h;exact uj (k:=k) hp f hf h
theorem wI{ys q:List Int}{k:Nat}(hk:ys.length=k):kA 1 0 k (some ((ys++q).map enc))=some (enc ys):=by
 have h:(((ys++q).map (enc (α:=Int))).drop 0).take k=ys.map enc:=by
  rw[List.drop_zero,zx4,zw6 (by simp[hk]),zw8 (by simp[hk])]
 simp only[kA,h];rw[if_pos (iW ys),gi];rfl
theorem Nk{n k:Nat} : ∀ y:aj,y.only (fun j => ![n].contains j)=true→iQ (fL n k) y=y:=fun y hy=>by
 cases y <;>try rfl
 simp only[aj.only] at hy;simp only[iQ,r6 (jo (fun j hj=>by simpa using hj) _ hy)]
theorem Nj{n:Nat} : ∀ y:aj,y.only (fun j => ![n].contains j)=true→iQ (fK n) y=y:=fun y hy=>by
 cases y <;>try rfl
 simp only[aj.only] at hy;simp only[iQ,zE (jo (fun j hj=>by simpa using hj) _ hy)]
theorem Nh{ts ts':List (Nat×I)}(h:∀ q∈ts',Abs.bO ts q.1=q.2):aY ts ts':=by
 induction ts' with
 |nil=>trivial
 |cons q ts' ih=>exact ⟨h q (by simp),ih fun q hq=>h q (by simp[hq])⟩
theorem J.ir{W0:World}{D0:aT}{nn:Nat}{ow:Nat→Prop}{E1:aW}{Y:Value→List I→List (Nat×aj)→cV→Prop}{m8:Option Nat}{y:aR}{Q:Exit→af→Prop}{ts:List (Nat×I)}{os:List (Nat×aj)}{a b d n:Nat}{xs:List Int}
  (ae:Abs.bO ts d=.own n xs.length) (hn:ak os n=some (.c5 3 xs)) (hlt:n<1000000) (hl:xs.length≤60) (ht:∀ t,nV n xs.length (Abs.bO ts t)) (ho:bE (fun j => ![n].contains j) (cJ [n] os))
  (ts':List (Nat×I)) (h1:∀ q∈ts',q.1≠a∧q.1≠b∧Abs.bO ts q.1=q.2∧q.2.only (fun j=>j != n)=true)
  (hda:d≠a) (hdb:d≠b)
  (h:J ⟨Tryz.prog,W0,D0,nn,ow,E1,Y,m8⟩ y Q (au ((d,enc (dX xs))::ts') (cJ [n] os))) :
  J ⟨Tryz.prog,W0,D0,nn,ow,E1,Y,m8⟩ (.seq (.bW none [⟨some a,.mv (.t d),none⟩,⟨some b,.call 107 [.t a],none⟩]) y) Q (au ts os):=by
 have hdrop:∀ m,ak (cJ [n] os) m=if m=n then none else ak os m:=fun m=>by
  have:=mS [n] os m;simpa using this
 have ho':∀ m y,ak os m=some y→m≠n→y.only (fun j=>j != n)=true:=fun m y hy hm=>by
  have:=yF ho m y (by rw[hdrop,if_neg hm];exact hy);exact u5 (fun j hj=>by simpa using hj) this
 by_cases hx:xs=[]
 ·subst hx;refine J.sub (aF.Ns hn (aF.refl _)) ?_;refine J.seq (J.bW (cl:=[]) (by rfl) fun K hK =>?_);have hd':Abs.bO (ts.map fun q=>(q.1,fK n q.2)) d=.nils 1:=by
   rw[qd _ rfl,ae];simp[fK]
  simp only[ab,simprocAttr,hd'];refine .flat _ (NP _ (.inr rfl)) rfl ?_
  try simp only[ab,simprocAttr]
  refine .done (hK _ ?_);clear hK K;refine J.sub ((aF.gN [n] d (x:=.nils 1) (y:=enc ([]:List Int)) ?_ (by rfl) ?_).trans (aF.cK ?_ fun m =>?_)) h
  ·simp only[Abs.bO,hda,hdb,if_false];exact hd'
  ·exact uj (k:=0) rfl (iQ (fK n)) Nj ho
  ·refine ⟨by simp[Abs.bO,dX],Nh fun q hq =>?_⟩;obtain ⟨k1,k2,k3,k4⟩:=h1 q hq;have hqd:q.1≠d:=fun e=>by
    rw[e,ae] at k3;rw[←k3] at k4;simp[I.only] at k4
   have h5:Abs.bO (ts.map fun p=>(p.1,fK n p.2)) q.1=q.2:=by
    rw[qd _ rfl,k3,zE k4]
   simp only[Abs.bO,DB,k1,k2,hqd,if_false,h5];rw[if_pos (jo (fun j hj=>by simpa using hj) _ k4)]
  ·rw[hdrop,mS,tK];by_cases hm:m=n
   ·simp[hm]
   ·cases h6:ak os m with
    |none=>simp[hm]
    |some y =>
     have h7:iQ (fK n) y=y:=Nj _ (u5 (fun j hj=>by simpa using hj) (ho' _ _ h6 hm));simp[hm,h7]
 ·refine J.Nr hn hx hlt ht (fun m y hy hm=>.inr (ho' m y hy hm)) fun q =>?_;refine J.seq (J.bW (cl:=[]) (by rfl) fun K hK =>?_);have hd':Abs.bO (ts.map fun p=>(p.1,fL n xs.length p.2)) d=.view n [] 1 0 xs.length:=by
   rw[qd _ rfl,ae];simp[fL]
  simp only[ab,simprocAttr,hd'];refine .bT false [(1000000,n)] (cE 1000000 (xs++List.replicate q 0)) [.view 1000000 [] 1 0 xs.length] _ rfl (NO xs _ (by omega)) ?_ ?_ ?_ ?_
  ·refine ⟨fun m y hy =>?_,fun m m' h h' _=>by rw[dA.1 h,dA.1 h']⟩;simp only[cE,ak] at hy;split at hy
   ·rename_i hm;cases hy;subst hm;exact ⟨by simp only[bD,if_true,ak,aj.aQ,I.aQ,hE],oT _ _,rfl⟩
   ·cases hy
  ·exact ⟨.inl ⟨by simp[I.aQ,bD],dA.2 rfl,rfl⟩,trivial⟩
  ·rintro fk os2 ⟨rfl,rfl⟩;refine ⟨fun m y hy =>?_,fun m m' h h' _=>by rw[dA.1 h,dA.1 h'],fun m hm=>by rw[dA.1 hm];exact dA.2 rfl,fun m a b=>by rw[dA.1 a] at b;simp[cE,av,ak] at b,rfl,fun _=>rfl⟩;simp only[cE,ak] at hy;split at hy
   ·cases hy;exact ⟨oT _ _,rfl,fun h=>by cases h⟩
   ·cases hy
  ·rintro fk os2 ⟨rfl,rfl⟩
   try simp only[cE,dL,zz9,zx3,aj.aQ,I.aQ,hE,bD,reduceIte,zy1,zy7,I.cR,ab,simprocAttr]
   refine .done (hK _ ?_);clear hK K;refine J.sub ((aF.gN [n] d (x:=.view n [] 1 0 xs.length) (y:=enc (dX xs)) ?_ ?_ ?_).trans (aF.cK ?_ fun m =>?_)) h
   ·simp only[Abs.bO,hda,hdb,if_false];exact hd'
   ·have:ak (fR [n] ((n,aj.box (I.agg ((dX xs++List.replicate q 0).map enc)))::(n,aj.box (I.agg ((xs++List.replicate q 0).map enc)))::os.map fun p=>(p.1,iQ (fL n xs.length) p.2))) n=some (.box (.agg ((dX xs++List.replicate q 0).map enc))):=by
     rw[ma];simp[ak]
    try simp only[this,ab,simprocAttr]
    exact wI (by simp[dX])
   ·have:=uj (k:=0) rfl (iQ (fL n xs.length)) Nk ho;simpa[cJ] using this
   ·refine ⟨by simp[Abs.bO],Nh fun q hq =>?_⟩;obtain ⟨k1,k2,k3,k4⟩:=h1 q hq;have hqd:q.1≠d:=fun e=>by
     rw[e,ae] at k3;rw[←k3] at k4;simp[I.only] at k4
    have h5:Abs.bO (ts.map fun p=>(p.1,fL n xs.length p.2)) q.1=q.2:=by
     rw[qd _ rfl,k3,r6 k4]
    simp only[Abs.bO,DB,k1,k2,hqd,if_false,h5];rw[if_pos (jo (fun j hj=>by simpa using hj) _ k4)]
   ·rw[hdrop,mS];by_cases hm:m=n
    ·simp[hm]
    ·simp only[ak,if_neg hm,tK];cases h6:ak os m with
     |none=>simp[hm]
     |some y =>
      have h7:iQ (fL n xs.length) y=y:=Nk _ (u5 (fun j hj=>by simpa using hj) (ho' _ _ h6 hm));simp[hm,h7]
def fB(l:List ar)(o:List Nat)(i:Nat):List ao×List Nat:=(o.take i).foldl (gG eE l) ([],[])
theorem Ki{l:List ar}{o:List Nat}{i:Nat}(h:i<o.length):fB l o (i+1)=gG eE l (fB l o i) (o.getD i 0):=by
 have e:o.getD i 0=o[i]:=by rw[zz2,zy0 h];rfl
 simp only[fB];rw[zy2 h,List.foldl_append,e];rfl
theorem Kh(l:List ar)(o:List Nat):fB l o o.length=iM eE l o:=by simp only[fB,List.take_length];rfl
theorem PH{bs bs':List ao}{x:ar}{n:Nat}(hs:∀ b∈bs,b.bA.length≤n)(h:cX eE bs x=some bs'):bs'.length≤bs.length+1∧∀ b∈bs',b.bA.length≤n+1:=by
 simp only[cX] at h;split at h
 ·split at h
  ·simp only[t7] at h;subst h;refine ⟨by simp[eE],fun b hb =>?_⟩;simp only[eE,zy6,zv7] at hb;rcases hb with hb | rfl
   ·exact Nat.le_succ_of_le (hs b hb)
   ·simp[eH]
  ·cases h
 ·split at h
  ·cases h
  ·rename_i b0 hb0;simp only[zz1] at h;obtain ⟨b',hb',rfl⟩:=h;refine ⟨by simp[mw],fun b hb =>?_⟩;simp only[mw,zx2] at hb;obtain ⟨c,hc,rfl⟩:=hb;split
   ·have h0:=hs b0 (rh hb0).1;simp only[dG] at hb'
    repeat' split at hb'
    all_goals first
     |(cases hb';done)
     |(simp only[t7] at hb';subst hb';simp only[zz7,List.length_singleton];omega)
     |(simp only[t7] at hb';subst hb';simp only;omega)
   ·exact Nat.le_succ_of_le (hs c hc)
theorem uo(l:List ar)(o:List Nat):∀ i,i≤o.length→((fB l o i).1.map (·.no)).Nodup∧(fB l o i).1.length≤i∧(∀ b∈(fB l o i).1,b.bA.length≤i)∧(fB l o i).2.length≤i
 |0,_=>⟨by simp[fB],by simp[fB],by simp[fB],by simp[fB]⟩
 |i+1,h=>by
  obtain ⟨h1,h2,h3,h4⟩:=uo l o i (by omega);rw[Ki (by omega)];simp only[gG];split
  ·rename_i bs hb;have:=PH h3 hb;exact ⟨vA qN h1 hb,by simp only;omega,this.2,by simp only;omega⟩
  ·exact ⟨h1,by simp only;omega,fun b hb=>Nat.le_succ_of_le (h3 b hb),by simp;omega⟩
theorem Ju(B:Nat)(b:ao):∀ (bs:List ao) (i:Nat),eY B i (bs++[b])=eY B i bs++eY B (i+bs.length) [b]
 | [],i=>rfl
 |a::bs,i=>by
  simp only[zy1,eY,Ju B b bs (i+1),zv9];rw[show i+1+bs.length=i+(bs.length+1) by omega]
theorem akA(B n:Nat):en B (n+1)=en B n++[.ptr (B+2+2*n) []]:=by
 simp only[en,List.range_succ,zx4,zz9,zx3]
theorem rl{bs:List ao}{n:Nat}(h:¬ (n=43∨n=41∨(2002≤n∧n<2002+2*bs.length))):ak (dZ bs) n=none:=by
 have:=xS (bs:=bs) (n:=n);rw[decide_eq_false h] at this;simpa[av] using this
theorem ahJ{bs:List ao}{n:Nat}(h:n=43∨n=41∨(2002≤n∧n<2002+2*bs.length)):∃ y,ak (dZ bs) n=some y:=by
 have:=xS (bs:=bs) (n:=n);rw[decide_eq_true h] at this;exact zw2.1 this
theorem yb{bs bs':List ao}{z y:aj}(h:bs.length≤bs'.length)(n:Nat):ak (dZ bs'++((900,z)::(dZ bs++[(3,y)]))) n=ak ((900,z)::(dZ bs'++[(3,y)])) n:=by
 simp only[kF,ak];by_cases h1:n=43∨n=41∨(2002≤n∧n<2002+2*bs'.length)
 ·obtain ⟨u,hu⟩:=ahJ h1;have:n≠900:=by omega
  simp only[hu,this,if_false]
 ·have h2:ak (dZ bs) n=none:=rl (by omega);simp only[rl h1,h2]
theorem aiC{bs:List ao}{z z' y:aj}(n:Nat):ak ((900,z')::(dZ bs++((900,z)::(dZ bs++[(3,y)])))) n=ak ((900,z')::(dZ bs++[(3,y)])) n:=by
 have h:=yb (bs:=bs) (bs':=bs) (z:=z) (y:=y) (zz8 _) n;by_cases hn:n=900
 ·simp only[ak,hn,if_true]
 ·simp only[ak,if_neg hn] at h ⊢;rw[h]
theorem aiB{bs:List ao}{b:ao}{z y:aj}(hk:bs.length≤60)(hb:b.bA=[])(n:Nat) :
  ak ((2002+2*bs.length,.box (er b (.own (2003+2*bs.length) 0)))::(2003+2*bs.length,.bR 66 6 [])::(nH bs b++((900,z)::(dZ bs++[(3,y)])))) n=ak ((900,z)::(dZ (bs++[b])++[(3,y)])) n:=by
 have hC:ak (dZ (bs++[b])) n=if n=43 then some (.box (.agg [.mref 41])) else if n=41 then some (.cC (dc (bs++[b])) (en 2000 bs.length++[.ptr (2002+2*bs.length) []])) else
   match ak (eY 2000 0 bs) n with
   |some u=>some u
   |none=>if n=2002+2*bs.length then some (.box (er b (.own (2003+2*bs.length) 0))) else if n=2003+2*bs.length then some (.bR 66 6 []) else none:=by
  simp only[dZ,ak,Ju,kF,eY,hb,zx3,List.length_nil,zz7,List.length_singleton,akA,zz4];rfl
 have hL:ak (dZ bs) n=if n=43 then some (.box (.agg [.mref 41])) else if n=41 then some (.cC (dc bs) (en 2000 bs.length)) else ak (eY 2000 0 bs) n:=rfl
 have hlow:n<2002→ak (eY 2000 0 bs) n=none:=fun h=>tI 2000 bs 0 n (by omega);have hhigh:2002+2*bs.length≤n→ak (eY 2000 0 bs) n=none:=fun h=>tG 2000 bs 0 n (by omega);simp only[ak,kF,nH,zy1,hC,hL];by_cases c1:n=2002+2*bs.length
 ·have d1:¬ n=900:=by omega
  have d2:¬ n=43:=by omega
  have d3:¬ n=41:=by omega
  rw[if_pos c1,if_neg d1,if_neg d2,if_neg d3,hhigh (by omega)];simp only[c1,if_true]
 by_cases c2:n=2003+2*bs.length
 ·have d1:¬ n=900:=by omega
  have d2:¬ n=43:=by omega
  have d3:¬ n=41:=by omega
  rw[if_neg c1,if_pos c2,if_neg d1,if_neg d2,if_neg d3,hhigh (by omega)];simp only[c2,if_true];rw[if_neg (by omega)]
 rw[if_neg c1,if_neg c2];by_cases c3:n=41
 ·have d1:¬ n=900:=by omega
  have d2:¬ n=43:=by omega
  rw[if_pos c3,if_neg d1,if_neg d2,if_pos c3]
 rw[if_neg c3,if_neg c1];by_cases jG:n=43
 ·have d1:¬ n=900:=by omega
  simp only[jG,if_true];simp
 rw[if_neg jG,if_neg jG];by_cases jZ:n=900
 ·have:=hlow (by omega);subst jZ;simp[this]
 ·cases hq:ak (eY 2000 0 bs) n with
  |some u=>simp only[jZ,c3,if_false]
  |none=>simp only[jZ,c3,c1,c2,if_false]
theorem yG{p:Nat→Bool}{ns:List Nat} : ∀ {os:List (Nat×aj)},bE p os→bE p (cJ ns os)
 | [],_=>trivial
 |(m,y)::os,h=>by
  simp only[cJ,zw1];split
  ·exact ⟨h.1,yG h.2⟩
  ·exact yG h.2
theorem J1{p:Nat→Bool} : ∀ {os os':List (Nat×aj)},bE p os→bE p os'→bE p (os++os')
 | [],_,_,h=>h
 |_::_,_,h,k=>⟨h.1,J1 h.2 k⟩
theorem Jv{p:Nat→Bool}{B:Nat}(hp:∀ j,B≤j→p j=true):∀ (bs:List ao) (i:Nat),bE p (eY B i bs)
 | [],_=>trivial
 |b::bs,i=>⟨by simp[aj.only,er,I.only,I.bZ,hp _ (show B≤B+3+2*i by omega)],eI _ _,Jv hp bs (i+1)⟩
theorem ahI{p:Nat→Bool}(hp:∀ j,2000≤j→p j=true)(h41:p 41=true)(bs:List ao):bE p (dZ bs) :=
 ⟨by simp[aj.only,I.only,I.bZ,h41],by simp only[aj.only,zz3];exact ⟨eI _ _,yI _ fun i _=>hp _ (by omega)⟩,Jv hp bs 0⟩
def fu(bs:List ao):I:=.ref (.agg [.cM (dc bs) (bs.map fun b=>.ref (enc (⟨b⟩:eh)))])
theorem JA{f:I→Option I} : ∀ {xs ys:List I},xs.length=ys.length→(∀ (i:Nat) (x y:I),xs[i]?=some x→ys[i]?=some y→f x=some y)→fy f xs=some ys
 | [],[],_,_=>rfl
 |x::xs,y::ys,hl,h=>by
  have h1:=h 0 x y rfl rfl;have h2:=JA (f:=f) (xs:=xs) (ys:=ys) (by simpa using hl) fun i a b ha hb=>h (i+1) a b ha hb;simp only[fy,h1,h2]
theorem X5{A:af}{bs:List ao}(hA:∀ m y,ak (dZ bs) m=some y→A.o m=some y):a6 true A (.ptr 43 [])=some (fu bs):=by
 have h43:A.o 43=some (.box (.agg [.mref 41])):=hA _ _ rfl;have h41:A.o 41=some (.cC (dc bs) (en 2000 bs.length)):=hA _ _ rfl;have hl:∀ k,k<bs.length→2002+2*k≠43∧2002+2*k≠41∧2003+2*k≠43∧2003+2*k≠41:=fun k hk=>by omega
 have hm:fy (df A 7) (en 2000 bs.length)=some (bs.map fun b=>.ref (enc (⟨b⟩:eh))):=by
  refine JA (by simp[en]) fun i x y hx hy =>?_;have hi:i<bs.length:=by
   have:=(zy4.1 hx).1;simpa[en] using this
  rw[Ko hi] at hx;simp only[zw5,zy0 hi,zy5,t7] at hx hy;subst hx hy;obtain ⟨q1,q2,q3,q4⟩:=hl i hi;have h1:A.o (2000+2+2*i)=some (.box (er bs[i] (.own (2000+3+2*i) (bs[i]).bA.length))):=hA _ _ (by
   simp only[dZ,ak];rw[if_neg (by omega),if_neg (by omega)];have:=tH 2000 bs 0 i hi
   rwa [zz4] at this)
  have h2:A.o (2000+3+2*i)=some (.bR 66 6 ((bs[i]).bA.map enc)):=hA _ _ (by
   simp only[dZ,ak];rw[if_neg (by omega),if_neg (by omega)];have:=tJ 2000 bs 0 i hi
   rwa [zz4] at this)
  have h3:=mO (m:=3) h2;have h4:cD A (.ptr (2000+2+2*i) [])=some (er bs[i] (.own (2000+3+2*i) (bs[i]).bA.length)):=by
   simp only[cD,h1];exact mG _
  rw[df];simp only[I.bj,zz6,if_false,h4];rw[h3];rfl
 have h5:df A 8 (.mref 41)=some (.cM (dc bs) (bs.map fun b=>.ref (enc (⟨b⟩:eh)))):=by
  rw[df];simp only[I.bj,zz6,if_false,h41];rw[if_pos (show I.bU (dc bs)=true from iW _),hm];rfl
 have h6:df A 9 (.agg [.mref 41])=some (.agg [.cM (dc bs) (bs.map fun b=>.ref (enc (⟨b⟩:eh)))]):=by
  rw[df];simp only[I.bj,I.bU,Bool.and_true,zz6,if_false,fy,h5,zy5]
 simp only[a6,cD,h43,if_true,mG,I.bj,I.bU,Bool.and_true,zz6,if_false,h6];rfl
def rN(l:List ar)(day known:Int):I:=.tuple [fu (iM eE l (fH l day known)).1,enc (dX (cw (iM eE l (fH l day known)).2))]
def Pc(l:List ar)(ord:List Int):af:=au [(3,.ptr 3 []),(9,.nils 1),(11,.ptr 43 []),(12,kY),(45,enc ord),(46,.int .i64 ord.length),(47,.int .i64 0)] [(43,.box (.agg [.mref 41])),(41,.cC [] []),(3,.box (enc l))]
def Aj(l:List ar)(o:List Nat)(i:Nat):af:=au [(3,.ptr 3 []),(9,.own 900 (cw (fB l o i).2).length),(11,.ptr 43 []),(12,kY),(45,enc (cw o)),(46,.int .i64 (cw o).length),(47,.int .i64 i)] ((900,.c5 3 (cw (fB l o i).2))::(dZ (fB l o i).1++[(3,.box (enc l))]))
theorem ah1{xs:List Int}{i:Nat}(h:i<xs.length)(A:af):ik A 1 (i:Int) (enc xs)=some (.ref (.int .i64 (xs.getD i 0))):=by
 rw[eL 1 (by omega) rfl,zz2,zy0 h];rfl
noncomputable abbrev C7 (W0:World) (D0:aT) (E1:aW):cO := { P:=Tryz.prog,fm:=W0,D0:=D0,n:=Tryz.f88.ntmps,own:=dC E1,dD:=E1,Y:=iG,m8:=none }
def NB:aR:=((aR.bW none tp).seq ((aR.cond (aM.t 48) aR.skip (aR.exit 2)).seq ((aR.block 3 ((aR.bW none xy).seq ((aR.bW C9 tq).seq (aR.cond (aM.t 64) (aR.bW none Iv) aR.skip)))).seq (aR.bW none Iw))))
def amh:aR:=(aR.bW none Iy).seq ((aR.bW none Iz).seq aR.ret)
theorem Ab(l:List ar)(day known:Int)(hok:dE l=true){W0:World}{D0:aT}{E1:aW} : J (C7 W0 D0 E1) (.block 2 (.loop NB)) (aG (fun B=>J (C7 W0 D0 E1) amh (jS [.tmp 6,.tmp 7] (rN l day known)) B) (jS [.tmp 6,.tmp 7] (rN l day known))) (Pc l (qt l day known)):=by
 have hl:=qo hok;have hmem:∀ i∈fH l day known,i<l.length∧(ah l i).kind≠0:=fun i hi=>by
  have h1:=Kb hi;refine ⟨wi h1,?_⟩;have:=(zw4.1 h1).2;simp only[zz3,decide_eq_true_eq] at this;exact this.1
 have hol:(fH l day known).length≤60:=by rw[yK];exact zu0 (sV l day known) hl
 have hall:=Kh l (fH l day known);simp only[rN,qt,←hall];clear hall;generalize fH l day known=o at hmem hol ⊢;have htl:(cw o).length=o.length:=by simp[cw]
 refine J.block (J.loop (fun i:Nat=>Aj l o i) (fun i=>i≤o.length) (fun i=>o.length-i) 0 (zv1 _) ?_ (fun i hi =>?_))
 ·refine aF.Am 9 900 3 1 rfl rfl ?_;refine aF.cK ?_ (fun n =>?_)
  ·simp[aY,aZ,fB,cw]
  ·simp only[fB,cw,List.take_zero,List.foldl_nil,zx3,dZ,eY,en,dc,List.length_nil,List.range_zero,zy1,zy7]
 obtain ⟨hnd,hbl,hsl,hvl⟩:=uo l o i hi;simp only[Aj,NB];have n3:ak ((900,.c5 3 (cw (fB l o i).2))::(dZ (fB l o i).1++[(3,.box (enc l))])) 3=some (.box (enc l)):=by
  simp only[ak,kF];rw[rl (by omega)];rfl
 by_cases hlt:i<o.length
 ·have hc:decide ((i:Int)<((cw o).length:Int))=true:=by rw[htl];exact fT hlt
  have hw:=fc (i:=i) (by omega);have hst:=Ki (l:=l) hlt;generalize fB l o i=s at *;obtain ⟨bs,vd⟩:=s;simp only at hnd hbl hsl hvl n3 hst ⊢;obtain ⟨j,hj⟩:∃ j,j=o.getD i 0:=⟨_,rfl⟩
  have hjm:j∈o:=by
   rw[hj,zz2,zy0 hlt];exact zx6 hlt
  obtain ⟨hjl,hjk⟩:=hmem j hjm;rw[←hj] at hst;have he:=jh hjl;have hi2:∀ A,ik A 1 (i:Int) (enc (cw o))=some (.ref (.int .i64 (j:Int))):=fun A=>by
   rw[ah1 (by omega),hj]
   congr 3
   simp[cw,zz2,zy0 hlt]
  obtain ⟨f,hf1,hf2,hf3⟩:=wa (bs:=bs) (uh hok hjl) hjk hnd (fun b hb=>by have:=hsl b hb;omega);have hmo:∀ A,gA A kY=some (nz,nA):=fun A=>rfl;refine .az (by decide +kernel) fun K hK =>?_;simp only[tp,ab,simprocAttr];simp only[hc];refine .done (hK _ ?_);clear hK K;refine J.seq ?_;refine J.bX ?_;simp only[aq,ab,simprocAttr];refine ⟨fun h =>?_,fun h =>?_⟩
  case refine_2=>cases h
  refine J.skip ?_;try simp only[aG,simprocAttr]
  refine J.seq (J.block ?_);refine .az (by decide +kernel) fun K hK =>?_;simp only[xy,ab,simprocAttr]
  try simp only[hi2,ab,simprocAttr]
  refine .done (hK _ ?_);clear hK K;refine J.seq (J.rT (gs:=tq) [172,173,174,175,176,177] [] [0,1,2,3,4,5,6,7,8,9,10,11,12,13] (by decide +kernel) (eA.of trivial) fun K hK =>?_)
  try simp only[mg,tq,List.getD_cons_zero,List.getD_cons_succ,n3,he,hmo,hf1,cA,dT,aN,ab,simprocAttr]
  have hlo:∀ bs',bs.length≤bs'.length→ak (dZ bs'++((900,.c5 3 (cw vd))::(dZ bs++[(3,.box (enc l))]))) 900=some (.c5 3 (cw vd)):=fun bs' h=>by
   rw[yb h];rfl
  have htv:(cw vd).length=vd.length:=by simp[cw]
  have hap:=fun (A:af) d rest=>vx (A:=A) (d:=d) (e:=3) (bytes:=8) (n:=900) (l:=(cw vd).length) (xs:=cw vd) (y:=(j:Int)) (rest:=rest) rfl (by simp[cw,maxLen];omega) (by simp[cw];omega);refine cg.wa (by omega) hf2 hf3 rfl (fun hb =>?_) (fun bs' hb hk =>?_) (fun hb =>?_)
  ·have hs2:fB l o (i+1)=(bs,vd++[j]):=by rw[hst];simp only[gG,hb]
   have h900:=hlo bs (zz8 _)
   try simp only[ab,simprocAttr]
   have R:=u8 @h900 (u8 @hap (u8 @cA (u8 @bB (u8 @aN @ab))))
   repeat' ((first |(with_reducible refine .guard (fun hb =>?_) (fun hb =>?_) <;>try simp only[hb])|refine J.aI (by decide +kernel) rfl fun K hK =>?_|(refine .ay [0,1,2,3,4,6,7,8,9,10,11,12,14,17,18,33,45,46,47,48,64] hK ?_;clear hK K)|(with_reducible refine .done (hK _ ?_);clear hK K)|refine J.of rfl ?_|(with_reducible refine aq.aH (fun h =>?_) (fun h =>?_) <;>try simp only[h])) <;>try simp only[aK,R,simprocAttr])
   all_goals clear R
   refine ⟨i+1,by omega,by omega,?_⟩;rw[hs2,hw];have e:cw (vd++[j])=cw vd++[(j:Int)]:=by simp[cw]
   simp only[e];refine aF.cK ?_ (fun n=>aiC n);simp[aY,aZ]
  ·have hs2:fB l o (i+1)=(bs',vd):=by rw[hst];simp only[gG,hb]
   try simp only[ab,simprocAttr]
   have R:=u8 @cA (u8 @bB (u8 @aN @ab))
   repeat' ((first |(with_reducible refine .guard (fun hb =>?_) (fun hb =>?_) <;>try simp only[hb])|refine J.aI (by decide +kernel) rfl fun K hK =>?_|(refine .ay [0,1,2,3,4,6,7,8,9,10,11,12,14,17,18,33,45,46,47,48,64] hK ?_;clear hK K)|(with_reducible refine .done (hK _ ?_);clear hK K)|refine J.of rfl ?_|(with_reducible refine aq.aH (fun h =>?_) (fun h =>?_) <;>try simp only[h])) <;>try simp only[aK,R,simprocAttr])
   all_goals clear R
   refine ⟨i+1,by omega,by omega,?_⟩;rw[hs2,hw];refine aF.cK ?_ (fun n=>yb (Nat.le_of_eq (vz hk hb).symm) n);simp[aY,aZ]
  ·have hs2:fB l o (i+1)=(bs++[eH (ah l j)],vd):=by rw[hst];simp only[gG,hb]
   try simp only[ab,simprocAttr]
   have R:=u8 @cA (u8 @bB (u8 @aN @ab))
   repeat' ((first |(with_reducible refine .guard (fun hb =>?_) (fun hb =>?_) <;>try simp only[hb])|refine J.aI (by decide +kernel) rfl fun K hK =>?_|(refine .ay [0,1,2,3,4,6,7,8,9,10,11,12,14,17,18,33,45,46,47,48,64] hK ?_;clear hK K)|(with_reducible refine .done (hK _ ?_);clear hK K)|refine J.of rfl ?_|(with_reducible refine aq.aH (fun h =>?_) (fun h =>?_) <;>try simp only[h])) <;>try simp only[aK,R,simprocAttr])
   all_goals clear R
   refine ⟨i+1,by omega,by omega,?_⟩;rw[hs2,hw];refine aF.Pq (2002+2*bs.length) (2003+2*bs.length) 66 6 6 [0,8] (er (eH (ah l j)) (.nils 6)) ?_ rfl ?_ ?_ (by omega)
   ·have:¬ 2002+2*bs.length=41:=by omega
    simp[nH,ak,this]
   ·have h1:¬ 2003+2*bs.length=41:=by omega
    have h2:¬ 2003+2*bs.length=2002+2*bs.length:=by omega
    have h3:¬ 2003+2*bs.length=900:=by omega
    have h4:¬ 2003+2*bs.length=3:=by omega
    have h5:ak (dZ bs) (2003+2*bs.length)=none:=rl (by omega);simp only[nH,zy1,ak,kF,h1,h2,h3,h4,h5,if_false]
   ·refine aF.cK ?_ (fun n=>aiB (by omega) rfl n);simp[aY,aZ]
 ·have hio:i=o.length:=by omega
  subst hio;have hc:decide ((o.length:Int)<((cw o).length:Int))=false:=by simp[htl]
  refine .az (by decide +kernel) fun K hK =>?_;simp only[tp,ab,simprocAttr]
  try simp only[hc,simprocAttr]
  refine .done (hK _ ?_);clear hK K;refine J.seq ?_;refine J.bX ?_;simp only[aq,ab,simprocAttr];refine ⟨fun h =>?_,fun h =>?_⟩
  case refine_1=>cases h
  refine J.exit ?_;try simp only[aG,cj,simprocAttr]
  generalize fB l o o.length=s at *;obtain ⟨bs,vd⟩:=s;simp only at hnd hbl hsl hvl ⊢;have htv:(cw vd).length=vd.length:=by simp[cw]
  have hw2:∀ t,nV 900 (cw vd).length (Abs.bO [(48,I.bool false),(3,.ptr 3 []),(9,.own 900 (cw vd).length),(11,.ptr 43 []),(12,kY),(45,enc (cw o)),(46,.int .i64 ((cw o).length:Int)),(47,.int .i64 (o.length:Int))] t):=ui (by simp[nV,I.only,bK,kY,I.bZ]);refine J.ir (a:=70) (b:=71) (d:=9) (n:=900) (xs:=cw vd) rfl rfl (by decide) (by omega) hw2 ?_ [(11,.ptr 43 [])] ?_ (by decide) (by decide) ?_
  ·refine yG ⟨rfl,J1 (ahI (fun j hj=>by simp;omega) (by decide) bs) ⟨bK _ _,trivial⟩⟩
  ·simp[Abs.bO,I.only]
  ·have hfin:=fun (ts:List (Nat×I))=>X5 (A:=au ts (cJ [900] ((900,.c5 3 (cw vd))::(dZ bs++[(3,.box (enc l))])))) (bs:=bs) (fun m y hy=>by
    have:m≠900:=fun e=>by
     rw[e,rl (by omega)] at hy;cases hy
    simp only[au,mS];simp[ak,this,kF,hy])
   have R:=u8 @hfin (u8 @bB (u8 @aN @ab))
   repeat' ((first |(with_reducible refine .guard (fun hb =>?_) (fun hb =>?_) <;>try simp only[hb])|refine J.aI (by decide +kernel) rfl fun K hK =>?_|(refine .ay [0,1,2,3,4,6,7,8,9,10,11,12,14,17,18,33,45,46,47,48,64] hK ?_;clear hK K)|(with_reducible refine .done (hK _ ?_);clear hK K)|refine J.of rfl ?_|(with_reducible refine aq.aH (fun h =>?_) (fun h =>?_) <;>try simp only[h])) <;>try simp only[aK,R,simprocAttr])
   all_goals clear R
theorem alu{xs ys:List Int}(h:xs.Perm ys):dX xs=dX ys:=by
 unfold dX;have hx:=List.pairwise_mergeSort (le:=fun x y:Int=>decide (x≤y)) (by intro a b c;simp;omega) (by intro a b;simp;omega) xs;have hy:=List.pairwise_mergeSort (le:=fun x y:Int=>decide (x≤y)) (by intro a b c;simp;omega) (by intro a b;simp;omega) ys;refine List.Perm.eq_of_pairwise (fun a b _ _ h k =>?_) hx hy ((List.mergeSort_perm _ _).trans (h.trans (List.mergeSort_perm _ _).symm));simp only[decide_eq_true_eq] at h k;omega
theorem JM{A:af}{d:Option Nat}{n:Nat}{rest:List aC}{ks vs:List I}{cur:Option Nat} : ql A d n rest (some (.it ks vs [] cur))=aA rest (A.aP d (.tuple [.bool false])):=by
 simp only[ql,if_true]
theorem bh.iH{P:Program}{Y:Value→List I→List (Nat×aj)→cV→Prop}{K:af→Prop}{A:af}{d:Option Nat}{n:Nat}{rest:List aC}{ks vs:List I}{left:List Nat}{cur:Option Nat}(hl:left≠[])
  (h:∀ i,i∈left→∃ kk x,ks[i]?=some kk∧vs[i]?=some x∧bh P Y false K (aA rest ((A.aO n (.it ks vs (left.filter (· != i)) (some i))).aP d (.tuple [.bool true,kk,x])))) :
  bh P Y false K (ql A d n rest (some (.it ks vs left cur))):=by
 simp only[ql,if_neg hl];refine .any rfl fun i hi =>?_;obtain ⟨kk,x,h1,h2,h3⟩:=h i hi;simp only[h1,h2];exact h3
def jr(bs:List ao)(p:ao→Bool)(ay:List Nat):List Int:=((ay.map fun i=>bs.getD i default).filter p).map (·.no)
theorem aks(bs:List ao)(p:ao→Bool)(ay:List Nat)(i:Nat):jr bs p (ay++[i])=jr bs p ay++if p (bs.getD i default) then [(bs.getD i default).no] else []:=by
 simp only[jr,zx4,List.filter_append,zz9,zx3,zw1,zv5]
 congr 1
 split <;>rfl
theorem Ke(bs:List ao)(p:ao→Bool)(ay:List Nat):(jr bs p ay).length≤ay.length:=by
 simp only[jr,zy3];exact zu0 (zv8 _ _) (by simp)
theorem akr{bs:List ao}{p:ao→Bool}{ay:List Nat}(h:ay.Perm (List.range bs.length)):(jr bs p ay).Perm ((bs.filter p).map (·.no)):=by
 have e:(List.range bs.length).map (fun i=>bs.getD i default)=bs:=by
  refine List.ext_getElem (by simp) fun i h1 h2 =>?_;simp[zz2,h2]
 simp only[jr];refine List.Perm.map _ ?_;have:=(h.map fun i=>bs.getD i default).filter p
 rwa [e] at this
theorem aka(p:Nat→Bool)(bs:List ao):I.bZ p (bs.map fun b=>.ref (enc (⟨b⟩:eh)))=true:=by
 induction bs with
 |nil=>rfl
 |cons b bs ih=>simp only[zz9,I.bZ,I.only,bK,ih,zw3]
def Ai(bs:List ao)(p:ao→Bool)(f:FuncId)(caps:List I)(s:List Nat×List Nat×Option Nat):af :=
 au [(1,.func f caps),(5,.own 905 (jr bs p s.1).length),(12,.dx 12)] [(12,.it (dc bs) (bs.map fun b=>.ref (enc (⟨b⟩:eh))) s.2.1 s.2.2),(905,.c5 3 (jr bs p s.1))]
theorem sm(bs:List ao)(hn:bs.length≤60)(f:FuncId)(caps:List I)(hcaps:I.eP caps=true)(p:ao→Bool)(hf:∀ b∈bs,aB Tryz.prog f (.ref (enc (⟨b⟩:eh))::caps) (enc (p b))) :
  aB Tryz.prog 72 [fu bs,.func f caps] (enc (dX ((bs.filter p).map (·.no)))):=by
 refine aB.bu Tryz.func72 RS TM VU (zz0 rfl) (fun hwf W0 D0 E1 =>?_);simp only[Cl,LW,bl,zz4];clear hwf;have hcl:I.bU caps=true:=kZ caps hcaps;have hfc:∀ aD A,bV aD A caps=some caps:=fun aD A=>lf aD A caps hcaps;have hon:∀ q,I.bZ q caps=true:=fun q=>kI q caps hcl;refine .az (by decide +kernel) fun K hK =>?_;simp only[If,ab,simprocAttr];refine .done (hK _ ?_);clear hK K;refine .az (by decide +kernel) fun K hK =>?_;simp only[Ig,ab,simprocAttr];refine .done (hK _ ?_);clear hK K;refine J.seq (J.seq ?_);refine .b6 (by decide +kernel) fun K hK =>?_;simp only[Ih,ab,simprocAttr]
 try simp only[fu,cA,dT,aN,ab,simprocAttr]
 refine .done (hK _ ?_);clear hK K;try simp only[aG]
 refine J.block (J.loop (Ai bs p f caps) (fun s=>(s.1++s.2.1).Perm (List.range bs.length)) (fun s=>s.2.1.length) ([],List.range bs.length,none) (by simp) ?_ ?_)
 ·refine aF.Am 5 905 3 1 rfl rfl ?_;refine aF.cK ?_ (fun n =>?_)
  ·simp[aY,aZ,jr]
  ·simp only[jr,zx3,zv5,cZ,oS,dc,zy3]
   (repeat' split) <;>simp_all
 rintro ⟨ay,left,cur⟩ hC;simp only at hC;have hlen:ay.length+left.length=bs.length:=by simpa using hC.length_eq
 have hpl:=Ke bs p ay;simp only[Ai];by_cases hl:left=[]
 ·subst hl;refine .az (by decide +kernel) fun K hK =>?_;simp only[xw,ab,simprocAttr]
  try simp only[dT,JM,ab,simprocAttr]
  refine .done (hK _ ?_);clear hK K;refine J.seq ?_;refine J.bX ?_;simp only[aq,ab,simprocAttr];refine ⟨fun h =>?_,fun h =>?_⟩
  case refine_1=>cases h
  refine J.exit ?_;try simp only[aG,cj,simprocAttr]
  have hdn:(jr bs p ay).Perm ((bs.filter p).map (·.no)):=akr (by simpa using hC);rw[←alu hdn];generalize jr bs p ay=xs at hpl;refine J.ir (a:=25) (b:=26) (d:=5) (n:=905) (xs:=xs) rfl rfl (by decide) (by omega) (ui (by simp[nV,I.only,I.bZ,hon])) (by simp only[cJ,dc,zw1,zv5,List.contains_cons];simp[bE,aj.only,eI,aka,-List.map_map]) [] (by simp) (by decide) (by decide) ?_;have R:=u8 @aN @ab
  repeat' ((first |(with_reducible refine .guard (fun hb =>?_) (fun hb =>?_) <;>try simp only[hb])|refine J.aI (by decide +kernel) rfl fun K hK =>?_|(refine .ay [0,1,4,5,6,7,12,14,20] hK ?_;clear hK K)|(with_reducible refine .done (hK _ ?_);clear hK K)|refine J.of rfl ?_|(with_reducible refine aq.aH (fun h =>?_) (fun h =>?_) <;>try simp only[h])) <;>try simp only[aK,R,simprocAttr])
  all_goals clear R
 ·refine .az (by decide +kernel) fun K hK =>?_;simp only[xw,ab,simprocAttr]
  try simp only[dT,ab,simprocAttr]
  refine bh.iH hl fun i hi =>?_;have hib:i<bs.length:=zw7.1 (hC.mem_iff.1 (by simp[hi]));refine ⟨enc (bs[i]).no,.ref (enc (⟨bs[i]⟩:eh)),by simp[dc,hib],by simp[hib],?_⟩;have hx:bs.getD i default=bs[i]:=by simp[zz2,hib]
  try simp only[ab,simprocAttr]
  refine .done (hK _ ?_);clear hK K;refine J.seq ?_;refine J.bX ?_;simp only[aq,ab,simprocAttr];refine ⟨fun h =>?_,fun h =>?_⟩
  case refine_2=>cases h
  refine J.skip ?_;try simp only[aG,simprocAttr]
  refine J.block ?_;have hent:nC (dc bs) (bs.map fun b=>.ref (enc (⟨b⟩:eh))) (some i)=some (.tuple [.int .i64 (bs[i]).no,.ref (enc (⟨bs[i]⟩:eh))]):=by
   simp[nC,dc,hib,fY]
  have hsn:=aks bs p ay i;have hps:=Ke bs p (ay++[i]);have hpl2:(left.filter (· != i)).length<left.length:=by
   rcases Nat.lt_or_ge (left.filter (· != i)).length left.length with h | h
   ·exact h
   ·have:=List.filter_eq_self.1 (List.Sublist.eq_of_length_le List.filter_sublist h) i hi;simp at this
  have hnd:left.Nodup:=(List.nodup_append.1 (hC.nodup_iff.2 List.nodup_range)).2.1;have hC2:((ay++[i])++left.filter (· != i)).Perm (List.range bs.length):=by
   have h1:left.Perm (i::left.filter (· != i)):=by
    have h2:(left.filter (· == i)).length=1:=by
     have:=List.nodup_iff_count.1 hnd i;have h3:=List.count_pos_iff.2 hi;have h4:left.count i=(left.filter (· == i)).length:=by rw[List.count,List.countP_eq_length_filter]
     omega
    have h5:left.filter (· == i)=[i]:=by
     obtain ⟨a,ha⟩:=List.length_eq_one_iff.1 h2;have:a∈left.filter (· == i):=by rw[ha];simp
     have:=(zw4.1 this).2;simp at this;rw[ha,this]
    have h6:=(List.filter_append_perm (· == i) left).symm;rw[h5] at h6;exact h6
   refine List.Perm.trans ?_ hC;rw[zz5];exact (h1.symm).append_left ay
  refine .az (by decide +kernel) fun K hK =>?_;simp only[Ii,ab,simprocAttr]
  try simp only[hent,dT,aN,ab,simprocAttr]
  refine .done (hK _ ?_);clear hK K;refine .az (by decide +kernel) fun K hK =>?_;simp only[Ij,ab,simprocAttr]
  try simp only[zy1,zy7,hfc,kW,ab,simprocAttr]
  refine .flat _ (hf _ (zx6 hib)) rfl ?_
  try simp only[ab,simprocAttr]
  refine .done (hK _ ?_);clear hK K;have hap:=fun (A:af) d rest=>vx (A:=A) (d:=d) (e:=3) (bytes:=8) (n:=905) (l:=(jr bs p ay).length) (xs:=jr bs p ay) (y:=(bs[i]).no) (rest:=rest) rfl (by simp[maxLen];omega) (by omega);rw[hx] at hsn;rcases hpb:p bs[i]
  ·rw[hpb,if_neg (by decide),zx5] at hsn;have R:=u8 @hpb (u8 @aN @ab)
   repeat' ((first |(with_reducible refine .guard (fun hb =>?_) (fun hb =>?_) <;>try simp only[hb])|refine J.aI (by decide +kernel) rfl fun K hK =>?_|(refine .ay [0,1,4,5,6,7,12,14,20] hK ?_;clear hK K)|(with_reducible refine .done (hK _ ?_);clear hK K)|refine J.of rfl ?_|(with_reducible refine aq.aH (fun h =>?_) (fun h =>?_) <;>try simp only[h])) <;>try simp only[aK,R,simprocAttr])
   all_goals clear R
   refine ⟨(ay++[i],left.filter (· != i),some i),hC2,hpl2,?_⟩;simp only[hsn];refine aF.cK ?_ (fun n =>?_)
   ·simp[aY,aZ]
   ·simp only[cZ,oS];(repeat' split) <;>simp_all
  ·rw[hpb,if_pos rfl] at hsn;have R:=u8 @hpb (u8 @hap (u8 @aN @ab))
   repeat' ((first |(with_reducible refine .guard (fun hb =>?_) (fun hb =>?_) <;>try simp only[hb])|refine J.aI (by decide +kernel) rfl fun K hK =>?_|(refine .ay [0,1,4,5,6,7,12,14,20] hK ?_;clear hK K)|(with_reducible refine .done (hK _ ?_);clear hK K)|refine J.of rfl ?_|(with_reducible refine aq.aH (fun h =>?_) (fun h =>?_) <;>try simp only[h])) <;>try simp only[aK,R,simprocAttr])
   all_goals clear R
   refine ⟨(ay++[i],left.filter (· != i),some i),hC2,hpl2,?_⟩;simp only[hsn];refine aF.cK ?_ (fun n =>?_)
   ·simp[aY,aZ]
   ·simp only[cZ,oS];(repeat' split) <;>simp_all
theorem Az{aD:Bool}{A0:af}{os:List (Nat×aj)} : ∀ xs:List I,(∀ x∈xs,x.only (av os)=true∧x.cn=true)→jD aD A0 [] os xs xs
 | [],_=>trivial
 |x::xs,h=>⟨.inl ⟨(mj (ρ:=bD []) (fun _=>rfl) x).symm,(h x (by simp)).1,(h x (by simp)).2⟩,Az xs fun y hy=>h y (by simp[hy])⟩
theorem ale(ts:List (Nat×I))(k:Nat)(a b:List Int):au ts (cE k a++cE k b)=au ts (cE k a):=by
 simp only[au];congr 1;funext n;simp only[cE,zy1,zy7,ak];split <;>rfl
theorem bh.lA{K:af→Prop}{f:FuncId}{avs:List I}{a1 a2:Option (List I)}{dst:Option Nat}{rest:List aC}{ts:List (Nat×I)}{ws:List Int}{post:cV}(hc:cH Tryz.prog f avs (cE 1000000 ws) post)(hav:∀ x∈avs,x.only (av (cE 1000000 ws))=true∧x.cn=true)
  (h:∀ r os',post r os'→∃ ws',os'=cE 1000000 ws'∧r=.tuple []∧bh Tryz.prog iG false K (aA rest ((au ts (cE 1000000 ws')).aP dst (.tuple [])))):bh Tryz.prog iG false K (.call f avs a1 a2 dst rest (au ts (cE 1000000 ws))):=by
 refine .bT false [] (cE 1000000 ws) avs post rfl hc ⟨fun m y hy =>?_,fun m m' _ _ h=>h⟩ (Az avs hav) ?_ ?_
 ·rw[aj.mj (ρ:=bD []) (fun n=>rfl)];refine ⟨hy,?_⟩;simp only[cE,ak] at hy;split at hy
  ·cases hy;exact ⟨oT _ _,rfl⟩
  ·cases hy
 ·intro r os' hp;obtain ⟨ws',rfl,rfl,_⟩:=h r os' hp;refine ⟨fun m y hy =>?_,fun m m' _ _ h=>h,fun m hm=>by rw[dA.1 hm];exact dA.2 rfl,fun m a b=>by rw[dA.1 a] at b;simp[cE,av,ak] at b,rfl,fun h=>by cases h⟩;simp only[cE,ak] at hy;split at hy
  ·cases hy;exact ⟨oT _ _,rfl,fun h=>by cases h⟩
  ·cases hy
 ·intro r os' hp;obtain ⟨ws',rfl,rfl,hw⟩:=h r os' hp;rw[uB,ale];exact hw
theorem kT(ws:List Int)(n:Nat)(f:FuncId)(caps:List I)(hcl:I.bU caps=true)(L:List Int):∀ x∈.view 1000000 [] 1 0 n::(L.map enc++[.func f caps]),x.only (av (cE 1000000 ws))=true∧x.cn=true:=by
 intro x hx;simp only[zx8,zy6,zx2,List.not_mem_nil,or_false] at hx;rcases hx with rfl | ⟨y,_,rfl⟩ | rfl
 ·exact ⟨dA.2 rfl,rfl⟩
 ·exact ⟨bK _ _,dU _⟩
 ·exact ⟨kc _ _ (by simpa[I.bj] using hcl),rfl⟩
structure O8 where
 p:List Int
 u:List Int
 v:List Int
 q:List Int
theorem OO(p u v q:List Int)(a m b n:Nat)(f:FuncId)(caps:List I)(hcl:I.bU caps=true)(ha:p.length=a)(hm:a+u.length=m)(hb:m+v.length=b)(hu:0<u.length)(hv:0<v.length)(hn:b≤n)(hN:n≤1000) :
  cH Tryz.prog 213 [.view 1000000 [] 1 0 n,enc (a:Int),enc (m:Int),enc (b:Int),.func f caps] (cE 1000000 (p++u++v++q)) (zc (p++v++u++q)):=by
 refine cH.bu Tryz.func213 Ry Ts VA (zz0 rfl) (zz0 rfl) n8 (fun hwf W0 D0 E1 =>?_);simp only[B1,LA,bl,zz4,Nat.reduceAdd];clear hwf;have w1:=iR (x:=m) (y:=a) (by omega) (by omega);have w2:=iR (x:=b) (y:=m) (by omega) (by omega);refine .az (by decide +kernel) fun K hK =>?_;simp only[HP,ab,simprocAttr]
 try simp only[w1,simprocAttr]
 refine .done (hK _ ?_);clear hK K;refine .az (by decide +kernel) fun K hK =>?_;simp only[HQ,ab,simprocAttr]
 try simp only[w2,simprocAttr]
 refine .done (hK _ ?_);clear hK K;refine J.seq (J.block (J.loop (fun s:O8=>au [(0,.view 1000000 [] 1 0 n),(2,.int .i64 m),(4,.func f caps),(10,.int .i64 s.u.length),(11,.int .i64 s.v.length)] (cE 1000000 (s.p++s.u++s.v++s.q))) (fun s=>0<s.u.length∧0<s.v.length∧s.p.length+s.u.length=m∧m+s.v.length≤b∧s.p++s.v++s.u++s.q=p++v++u++q) (fun s=>s.u.length+s.v.length) ⟨p,u,v,q⟩ ⟨hu,hv,by simp only;omega,by simp only;omega,rfl⟩ ?_ ?_))
 ·have e1:m-a=u.length:=by omega
  have e2:b-m=v.length:=by omega
  simp only[e1,e2];refine aF.cK ?_ (fun n=>rfl);simp[aY,aZ]
 rintro ⟨p1,u1,v1,q1⟩ ⟨g1,g2,g3,g4,g5⟩;simp only at g1 g2 g3 g4 g5 ⊢;refine J.seq (J.seq ?_);refine .b6 (by decide +kernel) fun K hK =>?_;simp only[HR,ab,simprocAttr];refine .done (hK _ ?_);clear hK K;try simp only[aG]
 refine J.bX ?_;simp only[aq,ab,simprocAttr];refine ⟨fun h =>?_,fun h =>?_⟩
 ·have hne:u1.length≠v1.length:=fun e=>by rw[e] at h;simp at h
  refine J.skip ?_;try simp only[aG,simprocAttr]
  refine J.block (J.seq ?_);refine .b6 (by decide +kernel) fun K hK =>?_;simp only[HS,ab,simprocAttr];refine .done (hK _ ?_);clear hK K;try simp only[aG]
  refine J.bX ?_;simp only[aq,ab,simprocAttr];refine ⟨fun h =>?_,fun h =>?_⟩
  ·have hgt:v1.length<u1.length:=by simp at h;omega
   have w3:=iR (x:=m) (y:=u1.length) (by omega) (by omega);have w4:=iR (x:=u1.length) (y:=v1.length) (by omega) (by omega);have hs:u1=u1.take v1.length++u1.drop v1.length:=(zx1 _ _).symm;have ht:(u1.take v1.length).length=v1.length:=by rw[zy8];omega
   have ae:(u1.drop v1.length).length=u1.length-v1.length:=by rw[zy9]
   have hc:=vi p1 (u1.take v1.length) (u1.drop v1.length) v1 q1 (m-u1.length) m n v1.length (.func f caps) (by omega) (by omega) (by omega) (by omega) (by omega) hN;rw[zz5 p1,←hs] at hc;refine .az (by decide +kernel) fun K hK =>?_;simp only[HT,ab,simprocAttr]
   try simp only[w3,simprocAttr]
   refine bh.lA hc (kT _ n f caps hcl [_,_,_]) ?_;rintro r os' ⟨rfl,rfl⟩;refine ⟨_,rfl,rfl,?_⟩
   try simp only[ab,simprocAttr]
   refine .done (hK _ ?_);clear hK K;refine .b6 (by decide +kernel) fun K hK =>?_;simp only[HU,ab,simprocAttr]
   try simp only[w4,simprocAttr]
   refine .done (hK _ ?_);clear hK K;try simp only[aG,cj]
   refine ⟨⟨p1++v1,u1.drop v1.length,u1.take v1.length,q1⟩,⟨by simp only;omega,by simp only;omega,by simp only[zz7];omega,by simp only;omega,?_⟩,by simp only;omega,?_⟩
   ·simp only;rw[←g5]
    conv=>rhs;rw[hs]
    simp only[zz5]
   ·simp only[ae,ht];refine aF.cK ?_ (fun n=>rfl);simp[aY,aZ]
  ·have hlt:u1.length<v1.length:=by simp at h;omega
   have w3:=iR (x:=m) (y:=u1.length) (by omega) (by omega);have w4:=iR (x:=v1.length) (y:=u1.length) (by omega) (by omega);have w5:=lF m v1.length (by omega);have w6:=iR (x:=m+v1.length) (y:=u1.length) (by omega) (by omega);have hs:v1=v1.take (v1.length-u1.length)++v1.drop (v1.length-u1.length):=(zx1 _ _).symm;have ht:(v1.take (v1.length-u1.length)).length=v1.length-u1.length:=by rw[zy8];omega
   have ae:(v1.drop (v1.length-u1.length)).length=u1.length:=by rw[zy9];omega
   have hc:=vi p1 u1 (v1.take (v1.length-u1.length)) (v1.drop (v1.length-u1.length)) q1 (m-u1.length) (m+v1.length-u1.length) n u1.length (.func f caps) (by omega) (by omega) (by omega) (by omega) (by omega) hN;rw[zz5 (p1++u1),←hs] at hc;refine .az (by decide +kernel) fun K hK =>?_;simp only[HV,ab,simprocAttr]
   try simp only[w3,w5,w6,simprocAttr]
   refine bh.lA hc (kT _ n f caps hcl [_,_,_]) ?_;rintro r os' ⟨rfl,rfl⟩;refine ⟨_,rfl,rfl,?_⟩
   try simp only[ab,simprocAttr]
   refine .done (hK _ ?_);clear hK K;refine .b6 (by decide +kernel) fun K hK =>?_;simp only[HW,ab,simprocAttr]
   try simp only[w4,simprocAttr]
   refine .done (hK _ ?_);clear hK K;try simp only[aG,cj]
   refine ⟨⟨p1,v1.drop (v1.length-u1.length),v1.take (v1.length-u1.length),u1++q1⟩,⟨by simp only;omega,by simp only;omega,by simp only;omega,by simp only;omega,?_⟩,by simp only;omega,?_⟩
   ·simp only;rw[←g5]
    conv=>rhs;rw[hs]
    simp only[zz5]
   ·simp only[ae,ht];rw[←zz5 _ u1 q1];refine aF.cK ?_ (fun n=>rfl);simp[aY,aZ]
 ·have he:u1.length=v1.length:=by simp at h;omega
  refine J.exit ?_;try simp only[aG,cj,simprocAttr]
  have w3:=iR (x:=m) (y:=u1.length) (by omega) (by omega);have hc:=vi p1 u1 [] v1 q1 (m-u1.length) m n u1.length (.func f caps) (by omega) (by omega) (by simp;omega) rfl (by omega) hN;simp only[zx5] at hc;refine .b6 (by decide +kernel) fun K hK =>?_;simp only[HX,ab,simprocAttr]
  try simp only[w3,simprocAttr]
  refine bh.lA hc (kT _ n f caps hcl [_,_,_]) ?_;rintro r os' ⟨rfl,rfl⟩;refine ⟨_,rfl,rfl,?_⟩
  try simp only[ab,simprocAttr]
  refine .done (hK _ ?_);clear hK K;rw[lx];exact nX rfl g5 ⟨rfl,rfl⟩
theorem uN{el:List ar}{s:List Int}(h:dw el s){i j:Nat}(hij:i<j)(hj:j<s.length):dN el (s.getD i 0) (s.getD j 0):=by
 rw[zz2,zz2,zy0 (by omega),zy0 hj];exact List.pairwise_iff_getElem.1 h i j (by omega) hj hij
theorem qF{el:List ar}{s:List Int}(h:dw el s){i j:Nat}(hij:i≤j)(hj:j<s.length){x:Int}(hx:dN el (s.getD j 0) x):dN el (s.getD i 0) x:=by
 rcases Nat.lt_or_ge i j with h1 | h1
 ·exact yc (uN h h1 hj) hx
 ·have:i=j:=by omega
  rw[this];exact hx
theorem qE{el:List ar}{s:List Int}(h:dw el s){i j:Nat}(hij:i≤j)(hj:j<s.length){x:Int}(hx:dN el x (s.getD i 0)):dN el x (s.getD j 0):=by
 rcases Nat.lt_or_ge i j with h1 | h1
 ·exact yc hx (uN h h1 hj)
 ·have:i=j:=by omega
  rw[←this];exact hx
theorem tQ{s:List Int}{k:Nat}{x:Int}(h:x∈s.take k):∃ i,i<k∧i<s.length∧s.getD i 0=x:=by
 obtain ⟨i,hi,rfl⟩:=List.getElem_of_mem h;rw[zy8] at hi;exact ⟨i,by omega,by omega,by rw[zz2,zy0 (by omega),List.getElem_take];rfl⟩
theorem qe{s:List Int}{k:Nat}{x:Int}(h:x∈s.drop k):∃ i,k≤i∧i<s.length∧s.getD i 0=x:=by
 obtain ⟨i,hi,rfl⟩:=List.getElem_of_mem h;rw[zy9] at hi;exact ⟨k+i,by omega,by omega,by rw[zz2,zy0 (by omega),List.getElem_drop];rfl⟩
def sd(el:List ar)(l r:List Int)(k i:Nat):Prop:=∀ x∈l.take i++r.take (k-i),∀ y∈l.drop i++r.drop (k-i),dN el x y
theorem We{el:List ar}{l r:List Int}{k i lo hi:Nat}(hl:dw el l)(hr:dw el r)(h1:lo≤i)(h2:i≤hi)(hlo:lo=0∨lo+r.length=k)(hhi:hi=l.length∨hi=k)(hil:hi≤l.length)(hik:hi≤k)(hlr:k≤lo+r.length)
  (g1:∀ j,lo≤j→j<i→dN el (l.getD j 0) (r.getD (k-1-j) 0)) (g2:∀ j,i≤j→j<hi→dN el (r.getD (k-1-j) 0) (l.getD j 0)):sd el l r k i:=by
 intro x hx y hy;rcases zy6.1 hx with hx | hx
 ·obtain ⟨a,ha1,ha2,rfl⟩:=tQ hx;rcases zy6.1 hy with hy | hy
  ·obtain ⟨b,hb1,hb2,rfl⟩:=qe hy;exact uN hl (by omega) hb2
  ·obtain ⟨b,hb1,hb2,rfl⟩:=qe hy;by_cases hli:lo<i
   ·have:=g1 (i-1) (by omega) (by omega);have e:k-1-(i-1)=k-i:=by omega
    rw[e] at this;refine qF hl (j:=i-1) (by omega) (by omega) ?_;exact qE hr (i:=k-i) (by omega) hb2 this
   ·omega
 ·obtain ⟨a,ha1,ha2,rfl⟩:=tQ hx;rcases zy6.1 hy with hy | hy
  ·obtain ⟨b,hb1,hb2,rfl⟩:=qe hy;by_cases hih:i<hi
   ·have:=g2 i (zz8 _) hih;refine qF hr (j:=k-1-i) (by omega) (by omega) ?_;exact qE hl (i:=i) (by omega) hb2 this
   ·omega
  ·obtain ⟨b,hb1,hb2,rfl⟩:=qe hy;exact uN hr (by omega) hb2
theorem aly{el:List ar}{l r s1 s2:List Int}{k i:Nat}(hc:sd el l r k i)(h1:s1.Perm (l.take i++r.take (k-i)))(h2:s2.Perm (l.drop i++r.drop (k-i)))(k1:dw el s1)(k2:dw el s2):(s1++s2).Perm (l++r)∧dw el (s1++s2):=by
 refine ⟨(h1.append h2).trans ?_,List.pairwise_append.2 ⟨k1,k2,fun x hx y hy=>hc x (h1.mem_iff.1 hx) y (h2.mem_iff.1 hy)⟩⟩;have e:l.take i++r.take (k-i)++(l.drop i++r.drop (k-i))=l.take i++(r.take (k-i)++l.drop i)++r.drop (k-i):=by simp only[zz5]
 rw[e];refine (((List.perm_append_comm (l₁:=r.take (k-i)) (l₂:=l.drop i)).append_left _).append_right _).trans ?_;have e2:l.take i++(l.drop i++r.take (k-i))++r.drop (k-i)=(l.take i++l.drop i)++(r.take (k-i)++r.drop (k-i)):=by simp only[zz5]
 rw[e2,zx1,zx1]
theorem MZ{el:List ar}{s:List Int}(h:dw el s)(k:Nat):dw el (s.take k):=h.sublist (List.take_sublist _ _)
theorem MY{el:List ar}{s:List Int}(h:dw el s)(k:Nat):dw el (s.drop k):=h.sublist (List.drop_sublist _ _)
theorem xJ{p l r q:List Int}{a i:Nat}(ha:p.length=a)(hi:i<l.length):(p++l++r++q).getD (a+i) 0=l.getD i 0:=by
 subst ha;rw[zz2,zz2,zz5,zz5,zw0 (by omega),Nat.add_sub_cancel_left,zx0 hi]
theorem xK{p l r q:List Int}{m i:Nat}(hm:p.length+l.length=m)(hi:i<r.length):(p++l++r++q).getD (m+i) 0=r.getD i 0:=by
 subst hm;rw[zz2,zz2,zz5 (p++l),zw0 (by rw[zz7];omega),zz7,Nat.add_sub_cancel_left,zx0 hi]
theorem oV(x:Nat):Int.fdiv (x:Int) (2^min (Int.toNat 1) IntKind.u64.bits)=((x / 2:Nat):Int):=by
 have:min (Int.toNat 1) IntKind.u64.bits=1:=rfl;rw[this]
 show Int.fdiv (x:Int) 2=_
 rw[Int.fdiv_eq_ediv_of_nonneg _ (by decide)];rfl
theorem nR{x:Nat}(h:x<9223372036854775807):IntKind.u64.wrap (x:Int)=(x:Int):=by
 simp only[IntKind.wrap,IntKind.bits,IntKind.signed];simp;omega
theorem oU:((0:Int)≤1)=True:=by simp
theorem J.amb{c:cO}{Q:Exit→af→Prop}{A:af}{x:aR}{σ:Type}(T:σ→af)(C:σ→Prop)(h1:J c x (aG (fun B=>∃ s,C s∧Abs.aF B (T s)) fun _ _=>False) A)(h2:∀ s B,C s→Abs.aF B (T s)→Q .normal B):J c x Q A :=
 h1.mono fun e B hq=>by
  cases e <;>simp only[aG] at hq <;>first
   |(obtain ⟨s,k1,k2⟩:=hq;exact h2 s B k1 k2)
   |exact hq.elim
theorem alW{p r q:List Int}{x:Int}{a j:Nat}(ha:p.length=a)(hj:j<r.length):kM (ed p r q x j) (a+j) (a+j+1)=ed p r q x (j+1):=by
 have e1:ed p r q x (j+1)=(p++r.take j)++r[j]::x::(r.drop (j+1)++q):=by
  simp only[ed];rw[zy2 hj];simp only[zz5,zy1,zy7]
 have e2:ed p r q x j=(p++r.take j)++x::r[j]::(r.drop (j+1)++q):=by
  simp only[ed];rw[zv3 hj];simp only[zz5,zy1]
 rw[e1,e2];exact alX (by rw[zz7,zy8];omega) rfl
theorem ahS(p r q:List Int)(x:Int):ed p r q x 0=p++[x]++r++q:=by simp[ed]
theorem ahV(p r q:List Int)(x:Int):ed p r q x r.length=p++r++[x]++q:=by simp[ed]
theorem OI(el:List ar)(ae:mJ el)(hel:el.length≤60)(p l r q:List Int)(a m b n:Nat)(hl0:0<l.length)(hr0:0<r.length)(ha:p.length=a)(hm:a+l.length=m)(hb:m+r.length=b)(hn:b≤n)(hnl:n≤(p++l++r++q).length)(hn1:n≤1000)(hsl:dw el l)(hsr:dw el r)(hlr:∀ x∈l,∀ y∈r,x<y)(hin:∀ x∈l++r,jJ el x)(hl1:l.length=1) :
  cH Tryz.prog 204 [.view 1000000 [] 1 0 n,enc (a:Int),enc (m:Int),enc (b:Int),.func 138 [.ref (enc el)]] (cE 1000000 (p++l++r++q)) (ni el p (l++r) q):=by
 have hlen:(p++l++r++q).length=p.length+l.length+r.length+q.length:=by simp only[zz7]
 have nE:=fun i (hi:i<l.length)=>xJ (p:=p) (l:=l) (r:=r) (q:=q) (i:=i) ha hi;have gr:=fun i (hi:i<r.length)=>xK (p:=p) (l:=l) (r:=r) (q:=q) (m:=m) (i:=i) (by omega) hi;have ml:=fun i (hi:i<l.length)=>(show l.getD i 0∈l by rw[zz2,zy0 hi];exact zx6 _)
 have mr:=fun i (hi:i<r.length)=>(show r.getD i 0∈r by rw[zz2,zy0 hi];exact zx6 _)
 refine cH.bu Tryz.func204 vN vP vY (zz0 rfl) (zz0 rfl) n8 (fun hwf W0 D0 E1 =>?_);simp only[sN,ur,bl,zz4,Nat.reduceAdd];clear hwf;have fm:=iR (x:=m) (y:=a) (by omega) (by omega);refine J.seq (J.seq ?_);obtain ⟨x,rfl⟩:=List.length_eq_one_iff.1 hl1;obtain ⟨ws,hws⟩:∃ ws,ws=p++[x]++r++q:=⟨_,rfl⟩
 rw[←hws] at hnl hlen gr nE ⊢;have gx:ws.getD a 0=x:=by have:=nE 0 hl0;simpa using this
 have hxr:=hlr x (by simp);have hxS:=hin x (by simp);have hrS:=fun y (hy:y∈r)=>hin y (by simp[hy]);have h1:((m-a:Nat):Int)=1:=by omega
 refine .b6 (by decide +kernel) fun K hK =>?_;simp only[tl,ab,Nat.reduceEqDiff,reduceIte]
 try simp only[fm,h1,Int.reduceBEq]
 refine .done (hK _ ?_);clear hK K;try simp only[aG]
 refine J.bX ?_
 try simp only[aq,ab,Nat.reduceEqDiff,reduceIte]
 refine ⟨fun _ =>?_,fun h =>?_⟩
 rotate_left
 ·simp at h
 refine .az (by decide +kernel) fun K hK =>?_;simp only[Hn,ab,Nat.reduceEqDiff,reduceIte];refine .done (hK _ ?_);clear hK K;refine .az (by decide +kernel) fun K hK =>?_;simp only[Hr,ab,Nat.reduceEqDiff,reduceIte];refine .done (hK _ ?_);clear hK K;refine J.seq (J.block (J.loop (fun s:Nat×Nat=>au [(0,.view 1000000 [] 1 0 n),(1,.int .i64 a),(2,.int .i64 m),(3,.int .i64 b),(4,.func 138 [.ref (enc el)]),(10,.int .i64 ((m+s.1:Nat):Int)),(11,.int .i64 ((m+s.2:Nat):Int))] (cE 1000000 ws))
  (fun s=>s.1≤s.2∧s.2≤r.length∧(∀ j,j<s.1→dN el (r.getD j 0) x)∧∀ j,s.2≤j→j<r.length→dN el x (r.getD j 0)) (fun s=>s.2-s.1) (0,r.length) ⟨zv1 _,zz8 _,fun j hj=>by omega,fun j h1 h2=>by simp only at h1;omega⟩ ?_ ?_))
 ·have e1:m+0=m:=rfl;simp only[e1,hb];refine aF.cK ?_ (fun n=>rfl);simp[aY,aZ]
 rintro ⟨i,j⟩ ⟨g1,g2,g3,g4⟩;simp only at g1 g2 g3 g4 ⊢;by_cases hij:i<j
 ·have hc:decide (((m+i:Nat):Int)<((m+j:Nat):Int))=true:=by simp;omega
  have w1:=lF (m+i) (m+j) (by omega);have w2:=nR (x:=m+i+(m+j)) (by omega);obtain ⟨c,hcd⟩:∃ c,c=(i+j) / 2:=⟨_,rfl⟩
  have hci:i≤c∧c<j:=by omega
  have w3:(m+i+(m+j)) / 2=m+c:=by omega
  have w4:=nR (x:=m+c) (by omega);have w5:=uX (n:=m+c) (by omega);have w6:=fc (i:=m+c) (by omega);have v1:=jL (n:=n) (i:=m+c) (by omega);have v2:=jL (n:=n) (i:=a) (by omega);have l1:=gT (xs:=ws) (i:=m+c) (by omega);have l2:=gT (xs:=ws) (i:=a) (by omega);rw[gr c (by omega)] at l1;rw[gx] at l2;have hrc:=mr c (by omega);have hcmp:=sh el ae hel (r.getD c 0) x (hrS _ hrc) hxS;have hlt:=tN (l:=el) (hxr _ hrc);simp only[cE];cases hdc:decide (gw el (r.getD c 0)-gw el x<0) with
  |true =>
   have hd1:dN el (r.getD c 0) x:=hlt.2 (by have:=of_decide_eq_true hdc;omega);have R:=u8 @hc (u8 @w1 (u8 @w2 (u8 @w3 (u8 @w4 (u8 @w5 (u8 @w6 (u8 @oV (u8 @oU (u8 @v1 (u8 @v2 (u8 @l1 (u8 @l2 (u8 @hdc (u8 @dn (u8 @ec (u8 @aN @ab))))))))))))))))
   repeat' ((first |(with_reducible refine .guard (fun hb =>?_) (fun hb =>?_) <;>try simp only[hb])|refine J.aI (by decide +kernel) rfl fun K hK =>?_|refine .flat _ (hcmp) rfl ?_|(refine .ay [0,1,2,3,4,10,11,12,13,14,15,16,17,18,19,20,21,22,23,24,28,33,50,58,80,85,103,110,140,151,171,185,199,213] hK ?_;clear hK K)|(with_reducible refine .done (hK _ ?_);clear hK K)|refine J.of rfl ?_|(with_reducible refine aq.aH (fun h =>?_) (fun h =>?_) <;>try simp only[h])) <;>try simp only[aK,R,zy1,Nat.reduceEqDiff,reduceIte,Nat.reduceBEq])
   all_goals clear R
   refine ⟨(c+1,j),⟨by simp only;omega,g2,fun k hk =>?_,g4⟩,by simp only;omega,?_⟩
   ·simp only at hk;exact qF hsr (j:=c) (by omega) (by omega) hd1
   ·refine aF.cK ?_ (fun n=>rfl);simp[aY,aZ];omega
  |false =>
   have hd1:dN el x (r.getD c 0):=tM (hxr _ hrc) (by have:=of_decide_eq_false hdc;omega);have R:=u8 @hc (u8 @w1 (u8 @w2 (u8 @w3 (u8 @w4 (u8 @w5 (u8 @w6 (u8 @oV (u8 @oU (u8 @v1 (u8 @v2 (u8 @l1 (u8 @l2 (u8 @hdc (u8 @dn (u8 @ec (u8 @aN @ab))))))))))))))))
   repeat' ((first |(with_reducible refine .guard (fun hb =>?_) (fun hb =>?_) <;>try simp only[hb])|refine J.aI (by decide +kernel) rfl fun K hK =>?_|refine .flat _ (hcmp) rfl ?_|(refine .ay [0,1,2,3,4,10,11,12,13,14,15,16,17,18,19,20,21,22,23,24,28,33,50,58,80,85,103,110,140,151,171,185,199,213] hK ?_;clear hK K)|(with_reducible refine .done (hK _ ?_);clear hK K)|refine J.of rfl ?_|(with_reducible refine aq.aH (fun h =>?_) (fun h =>?_) <;>try simp only[h])) <;>try simp only[aK,R,zy1,Nat.reduceEqDiff,reduceIte,Nat.reduceBEq])
   all_goals clear R
   refine ⟨(i,c),⟨by simp only;omega,by simp only;omega,g3,fun k hk hk2 =>?_⟩,by simp only;omega,?_⟩
   ·simp only at hk;exact qE hsr (i:=c) (by omega) hk2 hd1
   ·refine aF.cK ?_ (fun n=>rfl);simp[aY,aZ]
 ·have hc:decide (((m+i:Nat):Int)<((m+j:Nat):Int))=false:=by simp;omega
  have he:j=i:=by omega
  subst he;refine J.seq (J.seq ?_);refine .b6 (by decide +kernel) fun K hK =>?_;simp only[Hw,ab,Nat.reduceEqDiff,reduceIte]
  try simp only[hc]
  refine .done (hK _ ?_);clear hK K;try simp only[aG]
  refine J.bX ?_;simp only[aq,ab,Nat.reduceEqDiff,reduceIte];refine ⟨fun h =>?_,fun h =>?_⟩
  ·cases h
  refine J.exit ?_;try simp only[aG,cj,reduceIte]
  refine J.seq (J.seq ?_);refine .b6 (by decide +kernel) fun K hK =>?_;simp only[HA,ab,Nat.reduceEqDiff,reduceIte];refine .done (hK _ ?_);clear hK K;try simp only[aG]
  have hi0:=ahS p r q x;rw[hws,←hi0];refine J.block (J.loop (fun k:Nat=>au [(0,.view 1000000 [] 1 0 n),(10,.int .i64 ((m+j:Nat):Int)),(13,.int .i64 ((a+k:Nat):Int))] (cE 1000000 (ed p r q x k))) (fun k=>k≤j) (fun k=>j-k) 0 (zv1 _) ?_ (fun k hk =>?_))
  ·refine aF.cK ?_ (fun n=>rfl);simp[aY,aZ]
  have ww:IntKind.i64.wrap (((m+j:Nat):Int)-1)=((a+j:Nat):Int):=by rw[dI _ (by omega) (by omega)];simp at hm;omega
  have hil:(ed p r q x k).length=p.length+r.length+1+q.length:=xZ (by omega);by_cases hkj:k<j
  ·have hc2:decide (((a+k:Nat):Int)<((a+j:Nat):Int))=true:=by simp;omega
   have hstep:=alW (p:=p) (r:=r) (q:=q) (x:=x) (j:=k) ha (by omega);generalize ed p r q x k=ws at hil hstep ⊢;obtain ⟨i1,hi1e⟩:∃ i1,i1=a+k:=⟨_,rfl⟩
   obtain ⟨j1,hj1e⟩:∃ j1,j1=a+k+1:=⟨_,rfl⟩
   rw[←hj1e,←hi1e] at hstep;have wk:IntKind.i64.wrap ((i1:Int)+1)=(j1:Int):=by rw[dI _ (by omega) (by omega)];omega
   rw[←hi1e] at hc2 ⊢;have hi1:i1<n:=by simp at hm;omega
   have hj1:j1<n:=by simp at hm;omega
   simp only[cE];have v1:=jL (n:=n) (i:=i1) hi1;have v2:=jL (n:=n) (i:=j1) hj1;have l1:=gT (xs:=ws) (i:=i1) (by omega);have l2:=gT (xs:=ws) (i:=j1) (by omega);have s1:=fun (A:af) v u rest=>og (A:=A) (n:=1000000) (xs:=ws) (i:=i1) (by omega) v u rest;obtain ⟨ws2,hws2⟩:∃ ws2,ws2=ws.set i1 (ws.getD j1 0):=⟨_,rfl⟩
   have hw2l:ws2.length=ws.length:=by rw[hws2];simp
   have s2:=fun (A:af) v u rest=>og (A:=A) (n:=1000000) (xs:=ws2) (i:=j1) (by omega) v u rest;have l3:=gT (xs:=ws2) (i:=j1) (by omega);have R:=u8 @ww (u8 @hc2 (u8 @wk (u8 @v1 (u8 @v2 (u8 @l1 (u8 @l2 (u8 @l3 (u8 @s1 (u8 @s2 (u8 @dn (u8 @aN @ab)))))))))))
   repeat' ((first |(with_reducible refine .guard (fun hb =>?_) (fun hb =>?_) <;>try simp only[hb])|refine J.aI (by decide +kernel) rfl fun K hK =>?_|(refine .ay [0,1,2,3,4,10,11,12,13,14,15,16,17,18,19,20,21,22,23,24,28,33,50,58,80,85,103,110,140,151,171,185,199,213] hK ?_;clear hK K)|(with_reducible refine .done (hK _ ?_);clear hK K)|refine J.of rfl ?_|(with_reducible refine aq.aH (fun h =>?_) (fun h =>?_) <;>try simp only[h])) <;>try simp only[aK,R,←hws2,Nat.reduceEqDiff,reduceIte,Nat.reduceBEq])
   all_goals clear R
   refine ⟨k+1,by omega,by omega,?_⟩;rw[←hstep];simp only[kM,←hws2];have e:a+(k+1)=j1:=by omega
   rw[e];refine aF.cK ?_ (fun n =>?_)
   ·simp[aY,aZ]
   ·simp only[ak];split <;>rfl
  ·have hc2:decide (((a+k:Nat):Int)<((a+j:Nat):Int))=false:=by simp;omega
   have hk2:k=j:=by omega
   subst hk2;have R:=u8 @ww (u8 @hc2 (u8 @aN (u8 @fV @ab)))
   repeat' ((first |(with_reducible refine .guard (fun hb =>?_) (fun hb =>?_) <;>try simp only[hb])|refine J.aI (by decide +kernel) rfl fun K hK =>?_|(refine .ay [0,1,2,3,4,10,11,12,13,14,15,16,17,18,19,20,21,22,23,24,28,33,50,58,80,85,103,110,140,151,171,185,199,213] hK ?_;clear hK K)|(with_reducible refine .done (hK _ ?_);clear hK K)|refine J.of rfl ?_|(with_reducible refine aq.aH (fun h =>?_) (fun h =>?_) <;>try simp only[h])) <;>try simp only[aK,R,Nat.reduceEqDiff,reduceIte,Nat.reduceBEq])
   all_goals clear R
   refine nX rfl rfl ⟨rfl,r.take k++x::r.drop k,?_,?_,?_⟩
   ·refine List.perm_middle.trans ?_;rw[zx1];exact .refl _
   ·refine zy hsr (fun y hy =>?_) (fun y hy =>?_)
    ·obtain ⟨i,h1,h2,rfl⟩:=tQ hy;exact g3 i h1
    ·obtain ⟨i,h1,h2,rfl⟩:=qe hy;exact g4 i h1 h2
   ·rfl
theorem OJ(el:List ar)(ae:mJ el)(hel:el.length≤60)(p l r q:List Int)(a m b n:Nat)(hl0:0<l.length)(hr0:0<r.length)(ha:p.length=a)(hm:a+l.length=m)(hb:m+r.length=b)(hn:b≤n)(hnl:n≤(p++l++r++q).length)(hn1:n≤1000)(hsl:dw el l)(hsr:dw el r)(hlr:∀ x∈l,∀ y∈r,x<y)(hin:∀ x∈l++r,jJ el x)(hl1:¬ l.length=1)(hr1:r.length=1) :
  cH Tryz.prog 204 [.view 1000000 [] 1 0 n,enc (a:Int),enc (m:Int),enc (b:Int),.func 138 [.ref (enc el)]] (cE 1000000 (p++l++r++q)) (ni el p (l++r) q):=by
 have hlen:(p++l++r++q).length=p.length+l.length+r.length+q.length:=by simp only[zz7]
 have nE:=fun i (hi:i<l.length)=>xJ (p:=p) (l:=l) (r:=r) (q:=q) (i:=i) ha hi;have gr:=fun i (hi:i<r.length)=>xK (p:=p) (l:=l) (r:=r) (q:=q) (m:=m) (i:=i) (by omega) hi;have ml:=fun i (hi:i<l.length)=>(show l.getD i 0∈l by rw[zz2,zy0 hi];exact zx6 _)
 have mr:=fun i (hi:i<r.length)=>(show r.getD i 0∈r by rw[zz2,zy0 hi];exact zx6 _)
 refine cH.bu Tryz.func204 vN vP vY (zz0 rfl) (zz0 rfl) n8 (fun hwf W0 D0 E1 =>?_);simp only[sN,ur,bl,zz4,Nat.reduceAdd];clear hwf;have fm:=iR (x:=m) (y:=a) (by omega) (by omega);refine J.seq (J.seq ?_);have h1:(((m-a:Nat):Int)==1)=false:=by simp;omega
 obtain ⟨ws,hws⟩:∃ ws,ws=p++l++r++q:=⟨_,rfl⟩
 rw[←hws] at hnl hlen gr nE ⊢;have w0b:=iR (x:=b) (y:=m) (by omega) (by omega);refine .b6 (by decide +kernel) fun K hK =>?_;simp only[tl,ab,Nat.reduceEqDiff,reduceIte]
 try simp only[fm,h1]
 refine .done (hK _ ?_);clear hK K;try simp only[aG]
 refine J.bX ?_
 try simp only[aq,ab,Nat.reduceEqDiff,reduceIte]
 refine ⟨fun h =>?_,fun _ =>?_⟩
 ·simp at h
 refine J.skip ?_;try simp only[aG]
 refine J.seq (J.seq ?_);obtain ⟨x,rfl⟩:=List.length_eq_one_iff.1 hr1;have gx:ws.getD m 0=x:=by have:=gr 0 hr0;simpa using this
 have hlx:∀ y∈l,y<x:=fun y hy=>hlr y hy x (by simp);have hxS:=hin x (by simp);have hlS:=fun y (hy:y∈l)=>hin y (by simp[hy]);have h2:((b-m:Nat):Int)=1:=by omega
 refine .b6 (by decide +kernel) fun K hK =>?_;simp only[xu,ab,Nat.reduceEqDiff,reduceIte]
 try simp only[w0b,h2,Int.reduceBEq]
 refine .done (hK _ ?_);clear hK K;try simp only[aG]
 refine J.bX ?_
 try simp only[aq,ab,Nat.reduceEqDiff,reduceIte]
 refine ⟨fun _ =>?_,fun h =>?_⟩
 rotate_left
 ·simp at h
 refine .az (by decide +kernel) fun K hK =>?_;simp only[Ho,ab,Nat.reduceEqDiff,reduceIte];refine .done (hK _ ?_);clear hK K;refine .az (by decide +kernel) fun K hK =>?_;simp only[Hp,ab,Nat.reduceEqDiff,reduceIte];refine .done (hK _ ?_);clear hK K;refine J.seq (J.block (J.loop (fun s:Nat×Nat=>au [(0,.view 1000000 [] 1 0 n),(1,.int .i64 a),(2,.int .i64 m),(3,.int .i64 b),(4,.func 138 [.ref (enc el)]),(14,.int .i64 ((a+s.1:Nat):Int)),(15,.int .i64 ((a+s.2:Nat):Int))] (cE 1000000 ws))
  (fun s=>s.1≤s.2∧s.2≤l.length∧(∀ j,j<s.1→dN el (l.getD j 0) x)∧∀ j,s.2≤j→j<l.length→dN el x (l.getD j 0)) (fun s=>s.2-s.1) (0,l.length) ⟨zv1 _,zz8 _,fun j hj=>by omega,fun j h1 h2=>by simp only at h1;omega⟩ ?_ ?_))
 ·have e1:a+0=a:=rfl;simp only[e1,hm];refine aF.cK ?_ (fun n=>rfl);simp[aY,aZ]
 rintro ⟨i,j⟩ ⟨g1,g2,g3,g4⟩;simp only at g1 g2 g3 g4 ⊢;by_cases hij:i<j
 ·have hc:decide (((a+i:Nat):Int)<((a+j:Nat):Int))=true:=by simp;omega
  have w1:=lF (a+i) (a+j) (by omega);have w2:=nR (x:=a+i+(a+j)) (by omega);obtain ⟨c,hcd⟩:∃ c,c=(i+j) / 2:=⟨_,rfl⟩
  have hci:i≤c∧c<j:=by omega
  have w3:(a+i+(a+j)) / 2=a+c:=by omega
  have w4:=nR (x:=a+c) (by omega);have w5:=uX (n:=a+c) (by omega);have w6:=fc (i:=a+c) (by omega);have v1:=jL (n:=n) (i:=a+c) (by omega);have v2:=jL (n:=n) (i:=m) (by omega);have l1:=gT (xs:=ws) (i:=a+c) (by omega);have l2:=gT (xs:=ws) (i:=m) (by omega);rw[nE c (by omega)] at l1;rw[gx] at l2;have hrc:=ml c (by omega);have hcmp:=sh el ae hel x (l.getD c 0) hxS (hlS _ hrc);have hlt:=tN (l:=el) (hlx _ hrc);simp only[cE];cases hdc:decide (gw el x-gw el (l.getD c 0)<0) with
  |true =>
   have hd1:dN el x (l.getD c 0):=hlt.2 (by have:=of_decide_eq_true hdc;omega);have R:=u8 @hc (u8 @w1 (u8 @w2 (u8 @w3 (u8 @w4 (u8 @w5 (u8 @w6 (u8 @oV (u8 @oU (u8 @v1 (u8 @v2 (u8 @l1 (u8 @l2 (u8 @hdc (u8 @dn (u8 @ec (u8 @aN @ab))))))))))))))))
   repeat' ((first |(with_reducible refine .guard (fun hb =>?_) (fun hb =>?_) <;>try simp only[hb])|refine J.aI (by decide +kernel) rfl fun K hK =>?_|refine .flat _ (hcmp) rfl ?_|(refine .ay [0,1,2,3,4,10,11,12,13,14,15,16,17,18,19,20,21,22,23,24,28,33,50,58,80,85,103,110,140,151,171,185,199,213] hK ?_;clear hK K)|(with_reducible refine .done (hK _ ?_);clear hK K)|refine J.of rfl ?_|(with_reducible refine aq.aH (fun h =>?_) (fun h =>?_) <;>try simp only[h])) <;>try simp only[aK,R,zy1,Nat.reduceEqDiff,reduceIte,Nat.reduceBEq])
   all_goals clear R
   refine ⟨(i,c),⟨by simp only;omega,by simp only;omega,g3,fun k hk hk2 =>?_⟩,by simp only;omega,?_⟩
   ·simp only at hk;exact qE hsl (i:=c) (by omega) hk2 hd1
   ·refine aF.cK ?_ (fun n=>rfl);simp[aY,aZ]
  |false =>
   have hd1:dN el (l.getD c 0) x:=tM (hlx _ hrc) (by have:=of_decide_eq_false hdc;omega);have R:=u8 @hc (u8 @w1 (u8 @w2 (u8 @w3 (u8 @w4 (u8 @w5 (u8 @w6 (u8 @oV (u8 @oU (u8 @v1 (u8 @v2 (u8 @l1 (u8 @l2 (u8 @hdc (u8 @dn (u8 @ec (u8 @aN @ab))))))))))))))))
   repeat' ((first |(with_reducible refine .guard (fun hb =>?_) (fun hb =>?_) <;>try simp only[hb])|refine J.aI (by decide +kernel) rfl fun K hK =>?_|refine .flat _ (hcmp) rfl ?_|(refine .ay [0,1,2,3,4,10,11,12,13,14,15,16,17,18,19,20,21,22,23,24,28,33,50,58,80,85,103,110,140,151,171,185,199,213] hK ?_;clear hK K)|(with_reducible refine .done (hK _ ?_);clear hK K)|refine J.of rfl ?_|(with_reducible refine aq.aH (fun h =>?_) (fun h =>?_) <;>try simp only[h])) <;>try simp only[aK,R,zy1,Nat.reduceEqDiff,reduceIte,Nat.reduceBEq])
   all_goals clear R
   refine ⟨(c+1,j),⟨by simp only;omega,g2,fun k hk =>?_,g4⟩,by simp only;omega,?_⟩
   ·simp only at hk;exact qF hsl (j:=c) (by omega) (by omega) hd1
   ·refine aF.cK ?_ (fun n=>rfl);simp[aY,aZ];omega
 ·have hc:decide (((a+i:Nat):Int)<((a+j:Nat):Int))=false:=by simp;omega
  have he:j=i:=by omega
  subst he;refine J.seq (J.seq ?_);refine .b6 (by decide +kernel) fun K hK =>?_;simp only[Hq,ab,Nat.reduceEqDiff,reduceIte]
  try simp only[hc]
  refine .done (hK _ ?_);clear hK K;try simp only[aG]
  refine J.bX ?_;simp only[aq,ab,Nat.reduceEqDiff,reduceIte];refine ⟨fun h =>?_,fun h =>?_⟩
  ·cases h
  refine J.exit ?_;try simp only[aG,cj,reduceIte]
  refine J.seq (J.seq ?_);refine .b6 (by decide +kernel) fun K hK =>?_;simp only[Hs,ab,Nat.reduceEqDiff,reduceIte];refine .done (hK _ ?_);clear hK K;try simp only[aG]
  have hi0:=ahV p l q x;rw[hws,←hi0];refine J.block (J.loop (fun k:Nat=>au [(0,.view 1000000 [] 1 0 n),(14,.int .i64 ((a+j:Nat):Int)),(17,.int .i64 ((a+k:Nat):Int))] (cE 1000000 (ed p l q x k))) (fun k=>j≤k∧k≤l.length) (fun k=>k-j) l.length ⟨g2,zz8 _⟩ ?_ (fun k hk =>?_))
  ·rw[hm];refine aF.cK ?_ (fun n=>rfl);simp[aY,aZ]
  have hil:(ed p l q x k).length=p.length+l.length+1+q.length:=xZ (by omega);by_cases hkj:j<k
  ·have hc2:decide (((a+j:Nat):Int)<((a+k:Nat):Int))=true:=by simp;omega
   obtain ⟨k',rfl⟩:∃ k',k=k'+1:=⟨k-1,by omega⟩
   have hstep:=I7 (p:=p) (t:=l) (rest:=q) (x:=x) (c:=k') ha (by omega);generalize ed p l q x (k'+1)=ws at hil hstep ⊢;obtain ⟨i1,hi1e⟩:∃ i1,i1=a+(k'+1):=⟨_,rfl⟩
   obtain ⟨j1,hj1e⟩:∃ j1,j1=a+k':=⟨_,rfl⟩
   have hij:a+k'+1=i1:=by omega
   rw[hij,←hj1e] at hstep;have wk:IntKind.i64.wrap ((i1:Int)-1)=(j1:Int):=by rw[dI _ (by omega) (by omega)];omega
   rw[←hi1e] at hc2 ⊢;have hi1:i1<n:=by omega
   have hj1:j1<n:=by omega
   simp only[cE];have v1:=jL (n:=n) (i:=i1) hi1;have v2:=jL (n:=n) (i:=j1) hj1;have l1:=gT (xs:=ws) (i:=i1) (by omega);have l2:=gT (xs:=ws) (i:=j1) (by omega);have s1:=fun (A:af) v u rest=>og (A:=A) (n:=1000000) (xs:=ws) (i:=i1) (by omega) v u rest;obtain ⟨ws2,hws2⟩:∃ ws2,ws2=ws.set i1 (ws.getD j1 0):=⟨_,rfl⟩
   have hw2l:ws2.length=ws.length:=by rw[hws2];simp
   have s2:=fun (A:af) v u rest=>og (A:=A) (n:=1000000) (xs:=ws2) (i:=j1) (by omega) v u rest;have l3:=gT (xs:=ws2) (i:=j1) (by omega);have R:=u8 @hc2 (u8 @wk (u8 @v1 (u8 @v2 (u8 @l1 (u8 @l2 (u8 @l3 (u8 @s1 (u8 @s2 (u8 @dn (u8 @aN @ab))))))))))
   repeat' ((first |(with_reducible refine .guard (fun hb =>?_) (fun hb =>?_) <;>try simp only[hb])|refine J.aI (by decide +kernel) rfl fun K hK =>?_|(refine .ay [0,1,2,3,4,10,11,12,13,14,15,16,17,18,19,20,21,22,23,24,28,33,50,58,80,85,103,110,140,151,171,185,199,213] hK ?_;clear hK K)|(with_reducible refine .done (hK _ ?_);clear hK K)|refine J.of rfl ?_|(with_reducible refine aq.aH (fun h =>?_) (fun h =>?_) <;>try simp only[h])) <;>try simp only[aK,R,←hws2,Nat.reduceEqDiff,reduceIte,Nat.reduceBEq])
   all_goals clear R
   refine ⟨k',by omega,by omega,?_⟩;rw[←hstep];simp only[kM,←hws2,←hj1e];refine aF.cK ?_ (fun n =>?_)
   ·simp[aY,aZ]
   ·simp only[ak];split <;>rfl
  ·have hc2:decide (((a+j:Nat):Int)<((a+k:Nat):Int))=false:=by simp;omega
   have hk2:k=j:=by omega
   subst hk2;have R:=u8 @hc2 (u8 @aN (u8 @fV @ab))
   repeat' ((first |(with_reducible refine .guard (fun hb =>?_) (fun hb =>?_) <;>try simp only[hb])|refine J.aI (by decide +kernel) rfl fun K hK =>?_|(refine .ay [0,1,2,3,4,10,11,12,13,14,15,16,17,18,19,20,21,22,23,24,28,33,50,58,80,85,103,110,140,151,171,185,199,213] hK ?_;clear hK K)|(with_reducible refine .done (hK _ ?_);clear hK K)|refine J.of rfl ?_|(with_reducible refine aq.aH (fun h =>?_) (fun h =>?_) <;>try simp only[h])) <;>try simp only[aK,R,Nat.reduceEqDiff,reduceIte,Nat.reduceBEq])
   all_goals clear R
   refine nX rfl rfl ⟨rfl,l.take k++x::l.drop k,?_,?_,?_⟩
   ·refine List.perm_middle.trans ?_;rw[zx1];exact List.perm_append_comm (l₁:=[x])
   ·refine zy hsl (fun y hy =>?_) (fun y hy =>?_)
    ·obtain ⟨i,h1,h2,rfl⟩:=tQ hy;exact g3 i h1
    ·obtain ⟨i,h1,h2,rfl⟩:=qe hy;exact g4 i h1 h2
   ·rfl
theorem OK(el:List ar)(ae:mJ el)(hel:el.length≤60)(N:Nat)(ih:∀ (p l r q:List Int) (a m b n:Nat),l.length+r.length≤N→0<l.length→0<r.length→p.length=a→a+l.length=m→m+r.length=b→b≤n→n≤(p++l++r++q).length→n≤1000→dw el l→dw el r→(∀ x∈l,∀ y∈r,x<y)→(∀ x∈l++r,jJ el x) →
  cH Tryz.prog 204 [.view 1000000 [] 1 0 n,enc (a:Int),enc (m:Int),enc (b:Int),.func 138 [.ref (enc el)]] (cE 1000000 (p++l++r++q)) (ni el p (l++r) q)) (p l r q:List Int) (a m b n:Nat) (hl0:0<l.length) (hr0:0<r.length) (ha:p.length=a) (hm:a+l.length=m) (hb:m+r.length=b) (hn:b≤n) (hnl:n≤(p++l++r++q).length) (hn1:n≤1000) (hsl:dw el l) (hsr:dw el r) (hlr:∀ x∈l,∀ y∈r,x<y) (hin:∀ x∈l++r,jJ el x) (hN:l.length+r.length≤N+1) (hl1:¬ l.length=1) (hr1:¬ r.length=1) :
  cH Tryz.prog 204 [.view 1000000 [] 1 0 n,enc (a:Int),enc (m:Int),enc (b:Int),.func 138 [.ref (enc el)]] (cE 1000000 (p++l++r++q)) (ni el p (l++r) q):=by
 have hlen:(p++l++r++q).length=p.length+l.length+r.length+q.length:=by simp only[zz7]
 have nE:=fun i (hi:i<l.length)=>xJ (p:=p) (l:=l) (r:=r) (q:=q) (i:=i) ha hi;have gr:=fun i (hi:i<r.length)=>xK (p:=p) (l:=l) (r:=r) (q:=q) (m:=m) (i:=i) (by omega) hi;have ml:=fun i (hi:i<l.length)=>(show l.getD i 0∈l by rw[zz2,zy0 hi];exact zx6 _)
 have mr:=fun i (hi:i<r.length)=>(show r.getD i 0∈r by rw[zz2,zy0 hi];exact zx6 _)
 refine cH.bu Tryz.func204 vN vP vY (zz0 rfl) (zz0 rfl) n8 (fun hwf W0 D0 E1 =>?_);simp only[sN,ur,bl,zz4,Nat.reduceAdd];clear hwf;have fm:=iR (x:=m) (y:=a) (by omega) (by omega);refine J.seq (J.seq ?_);have h1:(((m-a:Nat):Int)==1)=false:=by simp;omega
 obtain ⟨ws,hws⟩:∃ ws,ws=p++l++r++q:=⟨_,rfl⟩
 rw[←hws] at hnl hlen gr nE ⊢;have w0b:=iR (x:=b) (y:=m) (by omega) (by omega);refine .b6 (by decide +kernel) fun K hK =>?_;simp only[tl,ab,Nat.reduceEqDiff,reduceIte]
 try simp only[fm,h1]
 refine .done (hK _ ?_);clear hK K;try simp only[aG]
 refine J.bX ?_
 try simp only[aq,ab,Nat.reduceEqDiff,reduceIte]
 refine ⟨fun h =>?_,fun _ =>?_⟩
 ·simp at h
 refine J.skip ?_;try simp only[aG]
 refine J.seq (J.seq ?_);have h2:(((b-m:Nat):Int)==1)=false:=by simp;omega
 refine .b6 (by decide +kernel) fun K hK =>?_;simp only[xu,ab,Nat.reduceEqDiff,reduceIte]
 try simp only[w0b,h2]
 refine .done (hK _ ?_);clear hK K;try simp only[aG]
 refine J.bX ?_
 try simp only[aq,ab,Nat.reduceEqDiff,reduceIte]
 refine ⟨fun h =>?_,fun _ =>?_⟩
 ·simp at h
 refine J.skip ?_;try simp only[aG]
 obtain ⟨k,hk⟩:∃ k,k=(l.length+r.length) / 2:=⟨_,rfl⟩
 have w1:=lF a b (by omega);have w2:=nR (x:=a+b) (by omega);have w3:(a+b) / 2=a+k:=by omega
 have w4:=nR (x:=a+k) (by omega);have w5:=uX (n:=a+k) (by omega);have w6:=lF (a+k) m (by omega);refine .az (by decide +kernel) fun K hK =>?_;simp only[Ht,ab,Nat.reduceEqDiff,reduceIte]
 try simp only[w1,w2,w3,w5,oV,oU,ab,Nat.reduceEqDiff,reduceIte]
 refine .done (hK _ ?_);clear hK K;refine .az (by decide +kernel) fun K hK =>?_;simp only[Hu,ab,Nat.reduceEqDiff,reduceIte]
 try simp only[w6]
 refine .done (hK _ ?_);clear hK K;refine .az (by decide +kernel) fun K hK =>?_;simp only[Hv,ab];refine .done (hK _ ?_);clear hK K;obtain ⟨lo,hi,q1,q2,q3,q4,q5,q6,q7⟩:∃ lo hi,(if a+k<m then lo+r.length=k∧hi=k else lo=0∧hi=l.length)∧lo≤hi∧hi≤l.length∧hi≤k∧k≤lo+r.length∧(lo=0∨lo+r.length=k)∧(hi=l.length∨hi=k):=by
  by_cases h:a+k<m
  ·exact ⟨k-r.length,k,by rw[if_pos h];omega,by omega,by omega,by omega,by omega,by omega,by omega⟩
  ·exact ⟨0,l.length,by rw[if_neg h];omega,by omega,by omega,by omega,by omega,by omega,by omega⟩
 refine J.seq (J.oj (au [(0,.view 1000000 [] 1 0 n),(1,.int .i64 a),(2,.int .i64 m),(3,.int .i64 b),(4,.func 138 [.ref (enc el)]),(18,.int .i64 ((a+k:Nat):Int)),(19,.int .i64 ((a+k+m:Nat):Int)),(20,.int .i64 ((a+lo:Nat):Int)),(21,.int .i64 ((a+hi:Nat):Int))] (cE 1000000 ws)) ?_ fun B hB=>J.sub hB ?_)
 ·by_cases h:a+k<m
  ·rw[if_pos h] at q1;have hc:decide (((a+k:Nat):Int)<(m:Int))=true:=by simp;omega
   have w7:=iR (x:=a+k+m) (y:=b) (by omega) (by omega);have e1:a+k+m-b=a+lo:=by omega
   have R:=u8 @hc (u8 @w7 (u8 @e1 (u8 @aN @ab)))
   repeat' ((first |(with_reducible refine .guard (fun hb =>?_) (fun hb =>?_) <;>try simp only[hb])|refine J.aI (by decide +kernel) rfl fun K hK =>?_|(refine .ay [0,1,2,3,4,10,11,12,13,14,15,16,17,18,19,20,21,22,23,24,28,33,50,58,80,85,103,110,140,151,171,185,199,213] hK ?_;clear hK K)|(with_reducible refine .done (hK _ ?_);clear hK K)|refine J.of rfl ?_|(with_reducible refine aq.aH (fun h =>?_) (fun h =>?_) <;>try simp only[h])) <;>try simp only[aK,R,Nat.reduceEqDiff,reduceIte,Nat.reduceBEq])
   all_goals clear R
   rw[q1.2];refine aF.cK ?_ (fun n=>rfl);simp[aY,aZ]
  ·rw[if_neg h] at q1;have hc:decide (((a+k:Nat):Int)<(m:Int))=false:=by simp;omega
   have R:=u8 @hc (u8 @aN @ab)
   repeat' ((first |(with_reducible refine .guard (fun hb =>?_) (fun hb =>?_) <;>try simp only[hb])|refine J.aI (by decide +kernel) rfl fun K hK =>?_|(refine .ay [0,1,2,3,4,10,11,12,13,14,15,16,17,18,19,20,21,22,23,24,28,33,50,58,80,85,103,110,140,151,171,185,199,213] hK ?_;clear hK K)|(with_reducible refine .done (hK _ ?_);clear hK K)|refine J.of rfl ?_|(with_reducible refine aq.aH (fun h =>?_) (fun h =>?_) <;>try simp only[h])) <;>try simp only[aK,R,Nat.reduceEqDiff,reduceIte,Nat.reduceBEq])
   all_goals clear R
   rw[q1.2,q1.1,hm];refine aF.cK ?_ (fun n=>rfl);simp[aY,aZ]
 clear q1 w1 w2 w3 w4 w5 w6 hl1 hr1 fm w0b;have hcrF:∀ i,lo≤i→i≤hi→(∀ j,lo≤j→j<i→dN el (l.getD j 0) (r.getD (k-1-j) 0))→(∀ j,i≤j→j<hi→dN el (r.getD (k-1-j) 0) (l.getD j 0))→sd el l r k i:=fun i a1 a2 a3 a4=>We hsl hsr a1 a2 q6 q7 q3 q4 q5 a3 a4;have hk2:2*k≤l.length+r.length:=by omega
 have hk3:1≤k:=by omega
 clear q6 q7 hk;have w8:IntKind.i64.wrap (((a+k+m:Nat):Int)-1)=((a+k+m-1:Nat):Int):=by rw[dI _ (by omega) (by omega)];omega
 refine .az (by decide +kernel) fun K hK =>?_;simp only[Hx,ab,Nat.reduceEqDiff,reduceIte]
 try simp only[w8]
 refine .done (hK _ ?_);clear hK K;refine J.seq (J.block (J.loop (fun s:Nat×Nat=>au [(0,.view 1000000 [] 1 0 n),(1,.int .i64 a),(2,.int .i64 m),(3,.int .i64 b),(4,.func 138 [.ref (enc el)]),(18,.int .i64 ((a+k:Nat):Int)),(19,.int .i64 ((a+k+m:Nat):Int)),(22,.int .i64 ((a+k+m-1:Nat):Int)),(20,.int .i64 ((a+s.1:Nat):Int)),(21,.int .i64 ((a+s.2:Nat):Int))] (cE 1000000 ws))
  (fun s=>lo≤s.1∧s.1≤s.2∧s.2≤hi∧(∀ j,lo≤j→j<s.1→dN el (l.getD j 0) (r.getD (k-1-j) 0))∧∀ j,s.2≤j→j<hi→dN el (r.getD (k-1-j) 0) (l.getD j 0)) (fun s=>s.2-s.1) (lo,hi) ⟨zz8 _,q2,zz8 _,fun j h1 h2=>by simp only at h2;omega,fun j h1 h2=>by simp only at h1;omega⟩ ?_ ?_))
 ·refine aF.cK ?_ (fun n=>rfl);simp[aY,aZ]
 rintro ⟨i,j⟩ ⟨gj,g1,g2,g3,g4⟩;simp only at gj g1 g2 g3 g4 ⊢;by_cases hij:i<j
 ·have hc:decide (((a+i:Nat):Int)<((a+j:Nat):Int))=true:=by simp;omega
  have w1:=lF (a+i) (a+j) (by omega);have w2:=nR (x:=a+i+(a+j)) (by omega);obtain ⟨c,hcd⟩:∃ c,c=(i+j) / 2:=⟨_,rfl⟩
  have hci:i≤c∧c<j:=by omega
  have w3:(a+i+(a+j)) / 2=a+c:=by omega
  have w4:=nR (x:=a+c) (by omega);have w5:=uX (n:=a+c) (by omega);have w6:=fc (i:=a+c) (by omega);have w9:=iR (x:=a+k+m-1) (y:=a+c) (by omega) (by omega);have e1:a+k+m-1-(a+c)=m+(k-1-c):=by omega
  have v1:=jL (n:=n) (i:=a+c) (by omega);have v2:=jL (n:=n) (i:=m+(k-1-c)) (by omega);have l1:=gT (xs:=ws) (i:=a+c) (by omega);have l2:=gT (xs:=ws) (i:=m+(k-1-c)) (by omega);rw[nE c (by omega)] at l1;rw[gr (k-1-c) (by omega)] at l2;have hlc:=ml c (by omega);have hrc:=mr (k-1-c) (by omega);have hcmp:=sh el ae hel (r.getD (k-1-c) 0) (l.getD c 0) (hin _ (by simp only[zy6];exact .inr hrc)) (hin _ (by simp only[zy6];exact .inl hlc));have hlt:=tN (l:=el) (hlr _ hlc _ hrc);simp only[cE];cases hdc:decide (gw el (r.getD (k-1-c) 0)-gw el (l.getD c 0)<0) with
  |true =>
   have hd1:dN el (r.getD (k-1-c) 0) (l.getD c 0):=hlt.2 (by have:=of_decide_eq_true hdc;omega);have R:=u8 @hc (u8 @w1 (u8 @w2 (u8 @w3 (u8 @w4 (u8 @w5 (u8 @w6 (u8 @w9 (u8 @e1 (u8 @oV (u8 @oU (u8 @v1 (u8 @v2 (u8 @l1 (u8 @l2 (u8 @hdc (u8 @dn (u8 @ec (u8 @aN @ab))))))))))))))))))
   repeat' ((first |(with_reducible refine .guard (fun hb =>?_) (fun hb =>?_) <;>try simp only[hb])|refine J.aI (by decide +kernel) rfl fun K hK =>?_|refine .flat _ (hcmp) rfl ?_|(refine .ay [0,1,2,3,4,10,11,12,13,14,15,16,17,18,19,20,21,22,23,24,28,33,50,58,80,85,103,110,140,151,171,185,199,213] hK ?_;clear hK K)|(with_reducible refine .done (hK _ ?_);clear hK K)|refine J.of rfl ?_|(with_reducible refine aq.aH (fun h =>?_) (fun h =>?_) <;>try simp only[h])) <;>try simp only[aK,R,zy1,Nat.reduceEqDiff,reduceIte,Nat.reduceBEq])
   all_goals clear R
   refine ⟨(i,c),⟨gj,by simp only;omega,by simp only;omega,g3,fun t ht ht2 =>?_⟩,by simp only;omega,?_⟩
   ·simp only at ht;exact qF hsr (j:=k-1-c) (by omega) (by omega) (qE hsl (i:=c) (by omega) (by omega) hd1)
   ·refine aF.cK ?_ (fun n=>rfl);simp[aY,aZ]
  |false =>
   have hd1:dN el (l.getD c 0) (r.getD (k-1-c) 0):=tM (hlr _ hlc _ hrc) (by have:=of_decide_eq_false hdc;omega);have R:=u8 @hc (u8 @w1 (u8 @w2 (u8 @w3 (u8 @w4 (u8 @w5 (u8 @w6 (u8 @w9 (u8 @e1 (u8 @oV (u8 @oU (u8 @v1 (u8 @v2 (u8 @l1 (u8 @l2 (u8 @hdc (u8 @dn (u8 @ec (u8 @aN @ab))))))))))))))))))
   repeat' ((first |(with_reducible refine .guard (fun hb =>?_) (fun hb =>?_) <;>try simp only[hb])|refine J.aI (by decide +kernel) rfl fun K hK =>?_|refine .flat _ (hcmp) rfl ?_|(refine .ay [0,1,2,3,4,10,11,12,13,14,15,16,17,18,19,20,21,22,23,24,28,33,50,58,80,85,103,110,140,151,171,185,199,213] hK ?_;clear hK K)|(with_reducible refine .done (hK _ ?_);clear hK K)|refine J.of rfl ?_|(with_reducible refine aq.aH (fun h =>?_) (fun h =>?_) <;>try simp only[h])) <;>try simp only[aK,R,zy1,Nat.reduceEqDiff,reduceIte,Nat.reduceBEq])
   all_goals clear R
   refine ⟨(c+1,j),⟨by simp only;omega,by simp only;omega,g2,fun t ht ht2 =>?_,g4⟩,by simp only;omega,?_⟩
   ·simp only at ht2;exact qF hsl (j:=c) (by omega) (by omega) (qE hsr (i:=k-1-c) (by omega) (by omega) hd1)
   ·refine aF.cK ?_ (fun n=>rfl);simp[aY,aZ];omega
 have hc:decide (((a+i:Nat):Int)<((a+j:Nat):Int))=false:=by simp;omega
 have he:j=i:=by omega
 subst he;have hcr:sd el l r k j:=hcrF _ gj g2 g3 g4;refine J.seq (J.seq ?_);refine .b6 (by decide +kernel) fun K hK =>?_;simp only[Hy,ab,Nat.reduceEqDiff,reduceIte]
 try simp only[hc]
 refine .done (hK _ ?_);clear hK K;try simp only[aG]
 refine J.bX ?_;simp only[aq,ab,Nat.reduceEqDiff,reduceIte];refine ⟨fun h =>?_,fun h =>?_⟩
 ·cases h
 refine J.exit ?_;try simp only[aG,cj,reduceIte]
 have w10:=iR (x:=a+k+m) (y:=a+j) (by omega) (by omega);have e2:a+k+m-(a+j)=m+(k-j):=by omega
 refine .az (by decide +kernel) fun K hK =>?_;simp only[Hz,ab,Nat.reduceEqDiff,reduceIte]
 try simp only[w10,e2]
 refine .done (hK _ ?_);clear hK K
 -- the four parts
 have hl12:l.take j++l.drop j=l:=zx1 _ _;have hr12:r.take (k-j)++r.drop (k-j)=r:=zx1 _ _;obtain ⟨l1,hl1e⟩:∃ l1,l1=l.take j:=⟨_,rfl⟩
 obtain ⟨l2,hl2e⟩:∃ l2,l2=l.drop j:=⟨_,rfl⟩
 obtain ⟨r1,hr1e⟩:∃ r1,r1=r.take (k-j):=⟨_,rfl⟩
 obtain ⟨dP,hr2e⟩:∃ dP,dP=r.drop (k-j):=⟨_,rfl⟩
 have ll1:l1.length=j:=by rw[hl1e,zy8];omega
 have ll2:l2.length=l.length-j:=by rw[hl2e,zy9]
 have lr1:r1.length=k-j:=by rw[hr1e,zy8];omega
 have lr2:dP.length=r.length-(k-j):=by rw[hr2e,zy9]
 have sl1:dw el l1:=hl1e▸MZ hsl _;have sl2:dw el l2:=hl2e▸MY hsl _;have sr1:dw el r1:=hr1e▸MZ hsr _;have sr2:dw el dP:=hr2e▸MY hsr _;have ml1:∀ x∈l1,x∈l:=fun x hx=>List.mem_of_mem_take (hl1e▸hx);have ml2:∀ x∈l2,x∈l:=fun x hx=>List.mem_of_mem_drop (hl2e▸hx);have mr1:∀ x∈r1,x∈r:=fun x hx=>List.mem_of_mem_take (hr1e▸hx);have mr2:∀ x∈dP,x∈r:=fun x hx=>List.mem_of_mem_drop (hr2e▸hx);rw[←hl1e,←hl2e] at hl12;rw[←hr1e,←hr2e] at hr12;have hws4:ws=(p++l1)++l2++r1++(dP++q):=by rw[hws,←hl12,←hr12];simp only[zz5]
 have e3:((a+j:Nat):Int)<m↔j<l.length:=by omega
 -- the parts change places
 refine J.seq (J.oj (au [(0,.view 1000000 [] 1 0 n),(1,.int .i64 a),(3,.int .i64 b),(4,.func 138 [.ref (enc el)]),(18,.int .i64 ((a+k:Nat):Int)),(20,.int .i64 ((a+j:Nat):Int)),(24,.int .i64 ((m+(k-j):Nat):Int))] (cE 1000000 (p++l1++r1++(l2++dP++q)))) ?_ fun B hB=>J.sub hB ?_)
 ·by_cases h1:j<l.length
  ·have hc1:decide (((a+j:Nat):Int)<(m:Int))=true:=by simp;omega
   by_cases h2:j<k
   ·have hc2:decide ((m:Int)<((m+(k-j):Nat):Int))=true:=by simp;omega
    have hrot:=OO (p++l1) l2 r1 (dP++q) (a+j) m (m+(k-j)) n 138 [.ref (enc el)] (by simp[I.bU,I.bj,ec]) (by rw[zz7];omega) (by omega) (by omega) (by omega) (by omega) (by omega) hn1;rw[←hws4] at hrot;have R:=u8 @hc1 (u8 @hc2 (u8 @aN @ab))
    repeat' ((first |(with_reducible refine .guard (fun hb =>?_) (fun hb =>?_) <;>try simp only[hb])|refine J.aI (by decide +kernel) rfl fun K hK =>?_|(refine .ay [0,1,2,3,4,10,11,12,13,14,15,16,17,18,19,20,21,22,23,24,28,33,50,58,80,85,103,110,140,151,171,185,199,213] hK ?_;clear hK K)|(with_reducible refine .done (hK _ ?_);clear hK K)|refine J.of rfl ?_|(with_reducible refine aq.aH (fun h =>?_) (fun h =>?_) <;>try simp only[h])) <;>try simp only[aK,R,Nat.reduceEqDiff,reduceIte,Nat.reduceBEq])
    all_goals clear R
    refine bh.lA hrot (kT _ n 138 [.ref (enc el)] (by simp[I.bU,I.bj,ec]) [_,_,_]) ?_;rintro fk os' ⟨rfl,rfl⟩;refine ⟨_,rfl,rfl,?_⟩
    try simp only[ab]
    refine .done (hK _ ?_);clear hK K;have e5:p++l1++r1++l2++(dP++q)=p++l1++r1++(l2++dP++q):=by simp only[zz5]
    rw[e5];refine aF.cK ?_ (fun n=>rfl);simp[aY,aZ]
   ·have hc2:decide ((m:Int)<((m+(k-j):Nat):Int))=false:=by simp;omega
    have hn0:r1=[]:=zv4.1 (by omega);have e5:ws=p++l1++r1++(l2++dP++q):=by rw[hws4,hn0];simp only[zz5,zx5]
    rw[e5];have R:=u8 @hc1 (u8 @hc2 (u8 @aN @ab))
    repeat' ((first |(with_reducible refine .guard (fun hb =>?_) (fun hb =>?_) <;>try simp only[hb])|refine J.aI (by decide +kernel) rfl fun K hK =>?_|(refine .ay [0,1,2,3,4,10,11,12,13,14,15,16,17,18,19,20,21,22,23,24,28,33,50,58,80,85,103,110,140,151,171,185,199,213] hK ?_;clear hK K)|(with_reducible refine .done (hK _ ?_);clear hK K)|refine J.of rfl ?_|(with_reducible refine aq.aH (fun h =>?_) (fun h =>?_) <;>try simp only[h])) <;>try simp only[aK,R,Nat.reduceEqDiff,reduceIte,Nat.reduceBEq])
    all_goals clear R
    refine aF.cK ?_ (fun n=>rfl);simp[aY,aZ]
  ·have hc1:decide (((a+j:Nat):Int)<(m:Int))=false:=by simp;omega
   have hn0:l2=[]:=zv4.1 (by omega);have e5:ws=p++l1++r1++(l2++dP++q):=by rw[hws4,hn0];simp only[zz5,zx5,zy7]
   rw[e5];have R:=u8 @hc1 (u8 @aN @ab)
   repeat' ((first |(with_reducible refine .guard (fun hb =>?_) (fun hb =>?_) <;>try simp only[hb])|refine J.aI (by decide +kernel) rfl fun K hK =>?_|(refine .ay [0,1,2,3,4,10,11,12,13,14,15,16,17,18,19,20,21,22,23,24,28,33,50,58,80,85,103,110,140,151,171,185,199,213] hK ?_;clear hK K)|(with_reducible refine .done (hK _ ?_);clear hK K)|refine J.of rfl ?_|(with_reducible refine aq.aH (fun h =>?_) (fun h =>?_) <;>try simp only[h])) <;>try simp only[aK,R,Nat.reduceEqDiff,reduceIte,Nat.reduceBEq])
   all_goals clear R
   refine aF.cK ?_ (fun n=>rfl);simp[aY,aZ]
 -- the lower half
 refine J.seq (J.amb (fun s1:List Int=>au [(0,.view 1000000 [] 1 0 n),(3,.int .i64 b),(4,.func 138 [.ref (enc el)]),(18,.int .i64 ((a+k:Nat):Int)),(24,.int .i64 ((m+(k-j):Nat):Int))] (cE 1000000 (p++s1++l2++dP++q))) (fun s1=>s1.Perm (l1++r1)∧dw el s1) ?_ fun s1 B hC hB=>J.sub hB ?_)
 ·by_cases h1:0<j
  ·have hc1:decide ((a:Int)<((a+j:Nat):Int))=true:=by simp;omega
   by_cases h2:j<k
   ·have hc2:decide (((a+j:Nat):Int)<((a+k:Nat):Int))=true:=by simp;omega
    have hrec:=ih p l1 r1 (l2++dP++q) a (a+j) (a+k) n (by omega) (by omega) (by omega) ha (by omega) (by omega) (by omega) (by simp only[zz7];omega) hn1 sl1 sr1 (fun x hx y hy=>hlr x (ml1 x hx) y (mr1 y hy)) (fun x hx=>hin x (by
     rcases zy6.1 hx with h | h
     ·exact zy6.2 (.inl (ml1 x h))
     ·exact zy6.2 (.inr (mr1 x h))))
    have R:=u8 @hc1 (u8 @hc2 (u8 @aN @ab))
    repeat' ((first |(with_reducible refine .guard (fun hb =>?_) (fun hb =>?_) <;>try simp only[hb])|refine J.aI (by decide +kernel) rfl fun K hK =>?_|(refine .ay [0,1,2,3,4,10,11,12,13,14,15,16,17,18,19,20,21,22,23,24,28,33,50,58,80,85,103,110,140,151,171,185,199,213] hK ?_;clear hK K)|(with_reducible refine .done (hK _ ?_);clear hK K)|refine J.of rfl ?_|(with_reducible refine aq.aH (fun h =>?_) (fun h =>?_) <;>try simp only[h])) <;>try simp only[aK,R,Nat.reduceEqDiff,reduceIte,Nat.reduceBEq])
    all_goals clear R
    refine bh.lA hrec (kT _ n 138 [.ref (enc el)] (by simp[I.bU,I.bj,ec]) [_,_,_]) ?_;rintro fk os' ⟨rfl,s1,k1,k2,rfl⟩;refine ⟨_,rfl,rfl,?_⟩
    try simp only[ab]
    refine .done (hK _ ?_);clear hK K;refine ⟨s1,⟨k1,k2⟩,?_⟩;have e5:p++s1++(l2++dP++q)=p++s1++l2++dP++q:=by simp only[zz5]
    rw[e5];refine aF.cK ?_ (fun n=>rfl);simp[aY,aZ]
   ·have hc2:decide (((a+j:Nat):Int)<((a+k:Nat):Int))=false:=by simp;omega
    have hn0:r1=[]:=zv4.1 (by omega);have R:=u8 @hc1 (u8 @hc2 (u8 @aN @ab))
    repeat' ((first |(with_reducible refine .guard (fun hb =>?_) (fun hb =>?_) <;>try simp only[hb])|refine J.aI (by decide +kernel) rfl fun K hK =>?_|(refine .ay [0,1,2,3,4,10,11,12,13,14,15,16,17,18,19,20,21,22,23,24,28,33,50,58,80,85,103,110,140,151,171,185,199,213] hK ?_;clear hK K)|(with_reducible refine .done (hK _ ?_);clear hK K)|refine J.of rfl ?_|(with_reducible refine aq.aH (fun h =>?_) (fun h =>?_) <;>try simp only[h])) <;>try simp only[aK,R,Nat.reduceEqDiff,reduceIte,Nat.reduceBEq])
    all_goals clear R
    refine ⟨l1++r1,⟨.refl _,by rw[hn0,zx5];exact sl1⟩,?_⟩;have e5:p++l1++r1++(l2++dP++q)=p++(l1++r1)++l2++dP++q:=by simp only[zz5]
    rw[e5];refine aF.cK ?_ (fun n=>rfl);simp[aY,aZ]
  ·have hc1:decide ((a:Int)<((a+j:Nat):Int))=false:=by simp;omega
   have hn0:l1=[]:=zv4.1 (by omega);have R:=u8 @hc1 (u8 @aN @ab)
   repeat' ((first |(with_reducible refine .guard (fun hb =>?_) (fun hb =>?_) <;>try simp only[hb])|refine J.aI (by decide +kernel) rfl fun K hK =>?_|(refine .ay [0,1,2,3,4,10,11,12,13,14,15,16,17,18,19,20,21,22,23,24,28,33,50,58,80,85,103,110,140,151,171,185,199,213] hK ?_;clear hK K)|(with_reducible refine .done (hK _ ?_);clear hK K)|refine J.of rfl ?_|(with_reducible refine aq.aH (fun h =>?_) (fun h =>?_) <;>try simp only[h])) <;>try simp only[aK,R,Nat.reduceEqDiff,reduceIte,Nat.reduceBEq])
   all_goals clear R
   refine ⟨l1++r1,⟨.refl _,by rw[hn0,zy7];exact sr1⟩,?_⟩;have e5:p++l1++r1++(l2++dP++q)=p++(l1++r1)++l2++dP++q:=by simp only[zz5]
   rw[e5];refine aF.cK ?_ (fun n=>rfl);simp[aY,aZ]
 -- the upper half
 obtain ⟨k1,k2⟩:=hC;have ls1:s1.length=k:=by rw[k1.length_eq,zz7];omega
 have done:∀ s2,s2.Perm (l2++dP)→dw el s2→∀ ts ws',ws'=p++s1++s2++q→kR [] (ni el p (l++r) q) (au ts (cE 1000000 ws')):=fun s2 k3 k4 ts ws' he=>by
  obtain ⟨j1,j2⟩:=aly hcr (hl1e▸hr1e▸k1) (hl2e▸hr2e▸k3) k2 k4;exact nX rfl (he.trans (by simp only[zz5])) ⟨rfl,s1++s2,j1,j2,rfl⟩
 by_cases h1:j<l.length
 ·have hc1:decide (((a+k:Nat):Int)<((m+(k-j):Nat):Int))=true:=by simp;omega
  by_cases h2:k-j<r.length
  ·have hc2:decide (((m+(k-j):Nat):Int)<(b:Int))=true:=by simp;omega
   have hrec:=ih (p++s1) l2 dP q (a+k) (m+(k-j)) b n (by omega) (by omega) (by omega) (by rw[zz7];omega) (by omega) (by omega) hn (by simp only[zz7];omega) hn1 sl2 sr2 (fun x hx y hy=>hlr x (ml2 x hx) y (mr2 y hy)) (fun x hx=>hin x (by
    rcases zy6.1 hx with h | h
    ·exact zy6.2 (.inl (ml2 x h))
    ·exact zy6.2 (.inr (mr2 x h))))
   have R:=u8 @hc1 (u8 @hc2 (u8 @aN @ab))
   repeat' ((first |(with_reducible refine .guard (fun hb =>?_) (fun hb =>?_) <;>try simp only[hb])|refine J.aI (by decide +kernel) rfl fun K hK =>?_|(refine .ay [0,1,2,3,4,10,11,12,13,14,15,16,17,18,19,20,21,22,23,24,28,33,50,58,80,85,103,110,140,151,171,185,199,213] hK ?_;clear hK K)|(with_reducible refine .done (hK _ ?_);clear hK K)|refine J.of rfl ?_|(with_reducible refine aq.aH (fun h =>?_) (fun h =>?_) <;>try simp only[h])) <;>try simp only[aK,R,Nat.reduceEqDiff,reduceIte,Nat.reduceBEq])
   all_goals clear R
   refine bh.lA hrec (kT _ n 138 [.ref (enc el)] (by simp[I.bU,I.bj,ec]) [_,_,_]) ?_;rintro fk os' ⟨rfl,s2,k3,k4,rfl⟩;refine ⟨_,rfl,rfl,?_⟩
   try simp only[ab]
   refine .done (hK _ ?_);clear hK K;rw[lx];exact done s2 k3 k4 _ _ rfl
  ·have hc2:decide (((m+(k-j):Nat):Int)<(b:Int))=false:=by simp;omega
   have hn0:dP=[]:=zv4.1 (by omega);have R:=u8 @hc1 (u8 @hc2 (u8 @aN @ab))
   repeat' ((first |(with_reducible refine .guard (fun hb =>?_) (fun hb =>?_) <;>try simp only[hb])|refine J.aI (by decide +kernel) rfl fun K hK =>?_|(refine .ay [0,1,2,3,4,10,11,12,13,14,15,16,17,18,19,20,21,22,23,24,28,33,50,58,80,85,103,110,140,151,171,185,199,213] hK ?_;clear hK K)|(with_reducible refine .done (hK _ ?_);clear hK K)|refine J.of rfl ?_|(with_reducible refine aq.aH (fun h =>?_) (fun h =>?_) <;>try simp only[h])) <;>try simp only[aK,R,Nat.reduceEqDiff,reduceIte,Nat.reduceBEq])
   all_goals clear R
   rw[lx];exact done (l2++dP) (.refl _) (by rw[hn0,zx5];exact sl2) _ (p++s1++l2++dP++q) (by simp only[zz5])
 ·have hc1:decide (((a+k:Nat):Int)<((m+(k-j):Nat):Int))=false:=by simp;omega
  have hn0:l2=[]:=zv4.1 (by omega);have R:=u8 @hc1 (u8 @aN @ab)
  repeat' ((first |(with_reducible refine .guard (fun hb =>?_) (fun hb =>?_) <;>try simp only[hb])|refine J.aI (by decide +kernel) rfl fun K hK =>?_|(refine .ay [0,1,2,3,4,10,11,12,13,14,15,16,17,18,19,20,21,22,23,24,28,33,50,58,80,85,103,110,140,151,171,185,199,213] hK ?_;clear hK K)|(with_reducible refine .done (hK _ ?_);clear hK K)|refine J.of rfl ?_|(with_reducible refine aq.aH (fun h =>?_) (fun h =>?_) <;>try simp only[h])) <;>try simp only[aK,R,Nat.reduceEqDiff,reduceIte,Nat.reduceBEq])
  all_goals clear R
  rw[lx];exact done (l2++dP) (.refl _) (by rw[hn0,zy7];exact sr2) _ (p++s1++l2++dP++q) (by simp only[zz5])
theorem zZ(el:List ar)(ae:mJ el)(hel:el.length≤60):∀ (N:Nat) (p l r q:List Int) (a m b n:Nat),l.length+r.length≤N→0<l.length→0<r.length→p.length=a→a+l.length=m→m+r.length=b→b≤n→n≤(p++l++r++q).length→n≤1000→dw el l→dw el r→(∀ x∈l,∀ y∈r,x<y)→(∀ x∈l++r,jJ el x) →
  cH Tryz.prog 204 [.view 1000000 [] 1 0 n,enc (a:Int),enc (m:Int),enc (b:Int),.func 138 [.ref (enc el)]] (cE 1000000 (p++l++r++q)) (ni el p (l++r) q):=by
 intro N
 induction N with
 |zero=>intro p l r q a m b n h1 h2;omega
 |succ N ih =>
  intro p l r q a m b n hN hl0 hr0 ha hm hb hn hnl hn1 hsl hsr hlr hin;by_cases hl1:l.length=1
  ·exact OI el ae hel p l r q a m b n hl0 hr0 ha hm hb hn hnl hn1 hsl hsr hlr hin hl1
  by_cases hr1:r.length=1
  ·exact OJ el ae hel p l r q a m b n hl0 hr0 ha hm hb hn hnl hn1 hsl hsr hlr hin hl1 hr1
  ·exact OK el ae hel N ih p l r q a m b n hl0 hr0 ha hm hb hn hnl hn1 hsl hsr hlr hin hN hl1 hr1
def dH(ws:List Int)(bs t:Nat):List Int:=(ws.drop (t*bs)).take bs
theorem CV(ws:List Int)(bs u:Nat):dH ws (2*bs) u=dH ws bs (2*u)++dH ws bs (2*u+1):=by
 simp only[dH];rw[show 2*bs=bs+bs by omega,List.take_add,List.drop_drop];have e1:u*(bs+bs)=2*u*bs:=by rw[Nat.mul_add,show 2*u=u+u by omega,zu1]
 have e2:2*u*bs+bs=(2*u+1)*bs:=by rw[zu1];omega
 rw[e1,e2]
def mD(el:List ar)(bs:Nat)(o d:List Int):Prop:=o.length=d.length∧∀ t,(dH d bs t).Perm (dH o bs t)∧dw el (dH d bs t)
theorem Ak(el:List ar)(bs:Nat):mD el bs [] []:=⟨rfl,fun t=>by simp[dH,dw]⟩
theorem CU{o b:List Int}{bs t t':Nat}(ho:o.length=t*bs)(hb:b.length≤bs):dH (o++b) bs t'=if t'<t then dH o bs t' else if t'=t then b else []:=by
 simp only[dH];by_cases h1:t'<t
 ·rw[if_pos h1];have h2:(t'+1)*bs≤t*bs:=Nat.mul_le_mul_right _ h1;rw[zu1,Nat.one_mul] at h2;rw[List.drop_append_of_le_length (by omega),zw6 (by rw[zy9];omega)]
 ·rw[if_neg h1];by_cases h2:t'=t
  ·subst h2;rw[if_pos rfl,←ho,List.drop_left,zw8 hb]
  ·rw[if_neg h2];have h3:(t+1)*bs≤t'*bs:=Nat.mul_le_mul_right _ (by omega);rw[zu1,Nat.one_mul] at h3;rw[zv2 (by rw[zz7];omega)];exact List.take_nil
theorem sx{el:List ar}{bs t:Nat}{o d b b':List Int}(h:mD el bs o d)(ho:o.length=t*bs)(hp:b'.Perm b)(hs:dw el b')(hl:b.length≤bs):mD el bs (o++b) (d++b'):=by
 refine ⟨by rw[zz7,zz7,h.1,hp.length_eq],fun t' =>?_⟩;rw[CU (by rw[←h.1];exact ho) (by rw[hp.length_eq];exact hl),CU ho hl];split
 ·exact h.2 t'
 ·split
  ·exact ⟨hp,hs⟩
  ·exact ⟨.refl _,List.Pairwise.nil⟩
theorem Pa{el:List ar}{bs:Nat}{o d:List Int}(h:mD el bs o d)(hn:o.length≤bs):d.Perm o∧dw el d:=by
 have:=h.2 0;simp only[dH,Nat.zero_mul,List.drop_zero] at this;rw[zw8 (by rw[←h.1];exact hn),zw8 hn] at this;exact this
theorem Ua{xs:List Int}(hx:xs.Pairwise (· < ·))(bs u:Nat):∀ x∈dH xs bs (2*u),∀ y∈dH xs bs (2*u+1),x<y:=by
 have h:(dH xs (2*bs) u).Pairwise (· < ·):=(hx.sublist (List.drop_sublist _ _)).sublist (List.take_sublist _ _);rw[CV,List.pairwise_append] at h;exact h.2.2
theorem vT{xs:List Int}{bs t:Nat}{x:Int}(h:x∈dH xs bs t):x∈xs:=List.mem_of_mem_drop (List.mem_of_mem_take h)
theorem Nn(xs:List Int)(bs t:Nat):xs.take ((t+1)*bs)=xs.take (t*bs)++dH xs bs t:=by
 rw[zu1,Nat.one_mul,List.take_add];rfl
theorem qV(xs:List Int)(bs t:Nat):xs.drop (t*bs)=dH xs bs t++xs.drop ((t+1)*bs):=by
 simp only[dH];rw[zu1,Nat.one_mul,←List.drop_drop,zx1]
theorem qU{xs:List Int}{bs t:Nat}(h:(t+1)*bs≤xs.length):(dH xs bs t).length=bs:=by
 rw[zu1,Nat.one_mul] at h;simp only[dH,zy8,zy9];omega
theorem amf{x:Nat}(h:x<1000000):IntKind.i64.wrap (2*(x:Int))=((2*x:Nat):Int):=by rw[dI _ (by omega) (by omega)];omega
theorem amg{x:Nat}(h:x<1000000):IntKind.i64.wrap ((x:Int)*2)=((2*x:Nat):Int):=by rw[dI _ (by omega) (by omega)];omega
theorem Jl{i n:Nat}(h:i≤n):decide ((i:Int)≤(n:Int))=true:=by simp;omega
theorem JL{i n:Nat}(h:¬ i≤n):decide ((i:Int)≤(n:Int))=false:=by simp;omega
structure Pb where
 bs:Nat
 d:List Int
theorem Oq(el:List ar)(ae:mJ el)(hel:el.length≤60)(xs q:List Int)(hx:xs.Pairwise (· < ·))(hS:∀ x∈xs,jJ el x)(hn:xs.length≤60) :
  cH Tryz.prog 171 [.view 1000000 [] 1 0 xs.length,enc (xs.length:Int),.func 138 [.ref (enc el)]] (cE 1000000 (xs++q)) (ni el [] xs q):=by
 refine cH.bu Tryz.func171 CI CQ C4 (zz0 rfl) (zz0 rfl) n8 (fun hwf W0 D0 E1 =>?_);simp only[vJ,yU,bl,zz4,Nat.reduceAdd];clear hwf;have hcl:I.bU [.ref (enc el)]=true:=by simp[I.bU,I.bj,ec]
 refine .az (by decide +kernel) fun K hK =>?_;simp only[xi,ab,simprocAttr];refine .done (hK _ ?_);clear hK K;refine .az (by decide +kernel) fun K hK =>?_;simp only[xj,ab,simprocAttr];refine .done (hK _ ?_);clear hK K
 -- blocks of twenty
 refine J.seq (J.block (J.loop (fun s:Nat×List Int=>au [(0,.view 1000000 [] 1 0 xs.length),(1,.int .i64 xs.length),(2,.func 138 [.ref (enc el)]),(6,.int .i64 20),(7,.int .i64 ((s.1*20:Nat):Int)),(8,.int .i64 (((s.1+1)*20:Nat):Int))] (cE 1000000 (s.2++xs.drop (s.1*20)++q)))
  (fun s=>s.1*20≤xs.length∧mD el 20 (xs.take (s.1*20)) s.2) (fun s=>xs.length-s.1*20) (0,[]) ⟨zv1 _,Ak el 20⟩ ?_ ?_))
 ·refine aF.cK ?_ (fun n=>rfl);simp[aY,aZ]
 rintro ⟨t,d⟩ ⟨g1,g2⟩;simp only at g1 g2 ⊢;have ht:(xs.take (t*20)).length=t*20:=by rw[zy8];omega
 have hdl:d.length=t*20:=by rw[←g2.1,ht]
 by_cases hb:(t+1)*20≤xs.length
 ·have hc:=Jl hb;have w1:IntKind.i64.wrap ((((t+1)*20:Nat):Int)+20)=(((t+1+1)*20:Nat):Int):=by rw[dI _ (by omega) (by omega)];omega
  have hcl2:=qU hb;have hins:=zY el ae hel d (dH xs 20 t) (xs.drop ((t+1)*20)++q) (t*20) ((t+1)*20) xs.length hdl (by omega) hb (by simp only[zz7,zy9];omega) (by omega) ((hx.sublist (List.drop_sublist _ _)).sublist (List.take_sublist _ _)) (fun x hx=>hS x (vT hx));have e1:d++dH xs 20 t++(xs.drop ((t+1)*20)++q)=d++xs.drop (t*20)++q:=by rw[qV xs 20 t];simp only[zz5]
  rw[e1] at hins;have R:=u8 @hc (u8 @aN @ab)
  repeat' ((first |(with_reducible refine .guard (fun hb =>?_) (fun hb =>?_) <;>try simp only[hb])|refine J.aI (by decide +kernel) rfl fun K hK =>?_|(refine .ay [0,1,2,6,7,8,9,13,30,35,54] hK ?_;clear hK K)|(with_reducible refine .done (hK _ ?_);clear hK K)|refine J.of rfl ?_|(with_reducible refine aq.aH (fun h =>?_) (fun h =>?_) <;>try simp only[h])) <;>try simp only[aK,R,simprocAttr])
  all_goals clear R
  refine bh.lA hins (kT _ xs.length 138 [.ref (enc el)] hcl [_,_]) ?_;rintro fk os' ⟨rfl,s',k1,k2,rfl⟩;refine ⟨_,rfl,rfl,?_⟩
  try simp only[ab,simprocAttr]
  refine .done (hK _ ?_);clear hK K;have R:=u8 @w1 (u8 @aN @ab)
  repeat' ((first |(with_reducible refine .guard (fun hb =>?_) (fun hb =>?_) <;>try simp only[hb])|refine J.aI (by decide +kernel) rfl fun K hK =>?_|(refine .ay [0,1,2,6,7,8,9,13,30,35,54] hK ?_;clear hK K)|(with_reducible refine .done (hK _ ?_);clear hK K)|refine J.of rfl ?_|(with_reducible refine aq.aH (fun h =>?_) (fun h =>?_) <;>try simp only[h])) <;>try simp only[aK,R,simprocAttr])
  all_goals clear R
  refine ⟨(t+1,d++s'),⟨hb,?_⟩,by simp only;omega,?_⟩
  ·simp only;rw[Nn];exact sx g2 ht k1 k2 (by omega)
  ·simp only[←zz5];refine aF.cK ?_ (fun n=>rfl);simp[aY,aZ]
 have hc:=JL hb;refine J.seq (J.seq ?_);refine .b6 (by decide +kernel) fun K hK =>?_;simp only[Gy,ab,simprocAttr]
 try simp only[hc,simprocAttr]
 refine .done (hK _ ?_);clear hK K;try simp only[aG]
 refine J.bX ?_;simp only[aq,ab,simprocAttr];refine ⟨fun h =>?_,fun h =>?_⟩
 ·cases h
 refine J.exit ?_;try simp only[aG,cj,simprocAttr]
 -- what is left
 have hins:=zY el ae hel d (xs.drop (t*20)) q (t*20) xs.length xs.length hdl (by rw[zy9];omega) (zz8 _) (by simp only[zz7,zy9];omega) (by omega) (hx.sublist (List.drop_sublist _ _)) (fun x hx=>hS x (List.mem_of_mem_drop hx));refine .az (by decide +kernel) fun K hK =>?_;simp only[Gz,ab,simprocAttr];refine bh.lA hins (kT _ xs.length 138 [.ref (enc el)] hcl [_,_]) ?_;rintro fk os' ⟨rfl,s',k1,k2,rfl⟩;refine ⟨_,rfl,rfl,?_⟩
 try simp only[ab,simprocAttr]
 refine .done (hK _ ?_);clear hK K;have hSB:mD el 20 xs (d++s'):=by
  have:=sx g2 ht k1 k2 (by rw[zy9];omega)
  rwa [zx1] at this
 clear k1 k2 hins g2 ht hdl hb hc g1;generalize d++s'=d0 at hSB ⊢
 -- blocks are merged
 refine J.block (J.loop (fun s:Pb=>au [(0,.view 1000000 [] 1 0 xs.length),(1,.int .i64 xs.length),(2,.func 138 [.ref (enc el)]),(6,.int .i64 s.bs)] (cE 1000000 (s.d++q))) (fun s=>20≤s.bs∧s.bs≤120∧mD el s.bs xs s.d) (fun s=>200-s.bs) ⟨20,d0⟩ ⟨zz8 _,(by show 20≤120;omega),hSB⟩ ?_ ?_)
 ·refine aF.cK ?_ (fun n=>rfl);simp[aY,aZ]
 rintro ⟨bs,d1⟩ ⟨g1,g2,g3⟩;simp only at g1 g2 g3 ⊢;have hdl:=g3.1;by_cases hb:bs<xs.length
 case neg =>
  have hc:=ga hb;refine J.seq (J.seq ?_);refine .b6 (by decide +kernel) fun K hK =>?_;simp only[xk,ab,simprocAttr]
  try simp only[hc,simprocAttr]
  refine .done (hK _ ?_);clear hK K;try simp only[aG]
  refine J.bX ?_;simp only[aq,ab,simprocAttr];refine ⟨fun h =>?_,fun h =>?_⟩
  ·cases h
  refine J.exit ?_;try simp only[aG,cj,simprocAttr]
  rw[lx];obtain ⟨k1,k2⟩:=Pa g3 (by omega);exact nX rfl rfl ⟨rfl,d1,k1,k2,rfl⟩
 have hc:=fT hb;have w1:=amf (x:=bs) (by omega);refine J.seq (J.seq ?_);refine .b6 (by decide +kernel) fun K hK =>?_;simp only[xk,ab,simprocAttr]
 try simp only[hc,simprocAttr]
 refine .done (hK _ ?_);clear hK K;try simp only[aG]
 refine J.bX ?_;simp only[aq,ab,simprocAttr];refine ⟨fun h =>?_,fun h =>?_⟩
 rotate_left
 ·cases h
 refine J.skip ?_;try simp only[aG,simprocAttr]
 refine J.block (J.seq ?_);refine .b6 (by decide +kernel) fun K hK =>?_;simp only[GA,ab,simprocAttr]
 try simp only[w1,simprocAttr]
 refine .done (hK _ ?_);clear hK K;try simp only[aG]
 refine J.seq (J.block (J.loop (fun s:Nat×List Int=>au [(0,.view 1000000 [] 1 0 xs.length),(1,.int .i64 xs.length),(2,.func 138 [.ref (enc el)]),(6,.int .i64 bs),(7,.int .i64 ((s.1*(2*bs):Nat):Int)),(8,.int .i64 (((s.1+1)*(2*bs):Nat):Int))] (cE 1000000 (s.2++d1.drop (s.1*(2*bs))++q)))
  (fun s=>s.1*(2*bs)≤xs.length∧mD el (2*bs) (xs.take (s.1*(2*bs))) s.2) (fun s=>xs.length-s.1*(2*bs)) (0,[]) ⟨by simp,by simp only[Nat.zero_mul,List.take_zero];exact Ak el _⟩ ?_ ?_))
 ·simp only[Nat.zero_mul,zz4,Nat.one_mul,List.drop_zero,zy7];refine aF.cK ?_ (fun n=>rfl);simp[aY,aZ]
 rintro ⟨u,e⟩ ⟨q1,q2⟩;simp only at q1 q2 ⊢;obtain ⟨A,hA⟩:∃ A,A=u*(2*bs):=⟨_,rfl⟩
 have hA1:(u+1)*(2*bs)=A+2*bs:=by rw[hA,zu1];omega
 have hA2:2*u*bs=A:=by rw[hA,Nat.mul_comm 2 u,Nat.mul_assoc]
 have hA3:(2*u+1)*bs=A+bs:=by rw[zu1,hA2];omega
 have hA4:(2*u+1+1)*bs=A+2*bs:=by rw[zu1,hA3];omega
 have ht:(xs.take A).length=A:=by rw[zy8,hA];omega
 have hel2:e.length=A:=by rw[←q2.1,←hA,ht]
 obtain ⟨kl1,kl2⟩:=g3.2 (2*u);obtain ⟨kr1,kr2⟩:=g3.2 (2*u+1);have hlt2:=Ua hx bs u;have hd2:d1.drop A=dH d1 bs (2*u)++d1.drop (A+bs):=by
  have:=qV d1 bs (2*u)
  rwa [hA2,hA3] at this
 have hd3:d1.drop (A+bs)=dH d1 bs (2*u+1)++d1.drop (A+2*bs):=by
  have:=qV d1 bs (2*u+1)
  rwa [hA3,hA4] at this
 have hlr:∀ x∈dH d1 bs (2*u),∀ y∈dH d1 bs (2*u+1),x<y:=fun x h1 y h2=>hlt2 x (kl1.mem_iff.1 h1) y (kr1.mem_iff.1 h2);have hin:∀ x∈dH d1 bs (2*u)++dH d1 bs (2*u+1),jJ el x:=fun x h1=>by
  rcases zy6.1 h1 with h1 | h1
  ·exact hS x (vT (kl1.mem_iff.1 h1))
  ·exact hS x (vT (kr1.mem_iff.1 h1))
 rw[hA1];rw[←hA] at q1 q2 ⊢;by_cases hb2:A+2*bs≤xs.length
 ·have hc2:=Jl hb2;have w2:=lF A bs (by omega);have w3:IntKind.i64.wrap (((A+2*bs:Nat):Int)+((2*bs:Nat):Int))=((A+2*bs+2*bs:Nat):Int):=lF _ _ (by omega);have ll:(dH d1 bs (2*u)).length=bs:=qU (by rw[hA3];omega);have lr:(dH d1 bs (2*u+1)).length=bs:=qU (by rw[hA4];omega);have hm:=zZ el ae hel _ e (dH d1 bs (2*u)) (dH d1 bs (2*u+1)) (d1.drop (A+2*bs)++q) A (A+bs) (A+2*bs) xs.length (zz8 _) (by omega) (by omega) hel2 (by omega) (by omega) hb2 (by simp only[zz7,zy9];omega) (by omega) kl2 kr2 hlr hin;have e1:e++dH d1 bs (2*u)++dH d1 bs (2*u+1)++(d1.drop (A+2*bs)++q)=e++d1.drop A++q:=by rw[hd2,hd3];simp only[zz5]
  rw[e1] at hm;have R:=u8 @hc2 (u8 @w2 (u8 @aN @ab))
  repeat' ((first |(with_reducible refine .guard (fun hb =>?_) (fun hb =>?_) <;>try simp only[hb])|refine J.aI (by decide +kernel) rfl fun K hK =>?_|(refine .ay [0,1,2,6,7,8,9,13,30,35,54] hK ?_;clear hK K)|(with_reducible refine .done (hK _ ?_);clear hK K)|refine J.of rfl ?_|(with_reducible refine aq.aH (fun h =>?_) (fun h =>?_) <;>try simp only[h])) <;>try simp only[aK,R,simprocAttr])
  all_goals clear R
  refine bh.lA hm (kT _ xs.length 138 [.ref (enc el)] hcl [_,_,_]) ?_;rintro fk os' ⟨rfl,s',k1,k2,rfl⟩;refine ⟨_,rfl,rfl,?_⟩
  try simp only[ab,simprocAttr]
  refine .done (hK _ ?_);clear hK K;try simp only[aG]
  have R:=u8 @w1 (u8 @w3 (u8 @aN @ab))
  repeat' ((first |(with_reducible refine .guard (fun hb =>?_) (fun hb =>?_) <;>try simp only[hb])|refine J.aI (by decide +kernel) rfl fun K hK =>?_|(refine .ay [0,1,2,6,7,8,9,13,30,35,54] hK ?_;clear hK K)|(with_reducible refine .done (hK _ ?_);clear hK K)|refine J.of rfl ?_|(with_reducible refine aq.aH (fun h =>?_) (fun h =>?_) <;>try simp only[h])) <;>try simp only[aK,R,simprocAttr])
  all_goals clear R
  refine ⟨(u+1,e++s'),⟨by simp only;omega,?_⟩,by simp only;omega,?_⟩
  ·simp only;rw[Nn,←hA];refine sx q2 (ht.trans hA) (k1.trans ?_) k2 (by rw[qU (by omega)];omega);rw[CV];exact kl1.append kr1
  ·have e2:(u+1+1)*(2*bs)=A+2*bs+2*bs:=by rw[zu1,hA1];omega
   simp only[hA1,e2,←zz5];refine aF.cK ?_ (fun n=>rfl);simp[aY,aZ]
 have hc2:=JL hb2;refine J.seq (J.seq ?_);refine .b6 (by decide +kernel) fun K hK =>?_;simp only[GB,ab,simprocAttr]
 try simp only[hc2,simprocAttr]
 refine .done (hK _ ?_);clear hK K;try simp only[aG]
 refine J.bX ?_;simp only[aq,ab,simprocAttr];refine ⟨fun h =>?_,fun h =>?_⟩
 ·cases h
 refine J.exit ?_;try simp only[aG,cj,simprocAttr]
 have w2:=lF A bs (by omega);have w4:=amg (x:=bs) (by omega);have a6:∀ s',s'.Perm (xs.drop A)→dw el s'→mD el (2*bs) xs (e++s'):=fun s' k1 k2=>by
  have:=sx q2 (ht.trans hA) k1 k2 (by rw[zy9];omega)
  rwa [zx1] at this
 have hx1:xs.drop A=dH xs bs (2*u)++xs.drop (A+bs):=by
  have:=qV xs bs (2*u)
  rwa [hA2,hA3] at this
 have hx2:xs.drop (A+bs)=dH xs bs (2*u+1)++xs.drop (A+2*bs):=by
  have:=qV xs bs (2*u+1)
  rwa [hA3,hA4] at this
 by_cases hb3:A+bs<xs.length
 ·have hc3:=fT hb3;have ll:(dH d1 bs (2*u)).length=bs:=qU (by rw[hA3];omega);have hdn:d1.drop (A+2*bs)=[]:=zv2 (by omega);have hxn:xs.drop (A+2*bs)=[]:=zv2 (by omega);have lr:(dH d1 bs (2*u+1)).length=xs.length-(A+bs):=by
   have:=congrArg List.length hd3;rw[hdn,zx5,zy9] at this;omega
  have hm:=zZ el ae hel _ e (dH d1 bs (2*u)) (dH d1 bs (2*u+1)) q A (A+bs) xs.length xs.length (zz8 _) (by omega) (by omega) hel2 (by omega) (by omega) (zz8 _) (by simp only[zz7];omega) (by omega) kl2 kr2 hlr hin;have e1:e++dH d1 bs (2*u)++dH d1 bs (2*u+1)++q=e++d1.drop A++q:=by rw[hd2,hd3,hdn];simp only[zz5,zx5]
  rw[e1] at hm;have R:=u8 @hc3 (u8 @w2 (u8 @aN @ab))
  repeat' ((first |(with_reducible refine .guard (fun hb =>?_) (fun hb =>?_) <;>try simp only[hb])|refine J.aI (by decide +kernel) rfl fun K hK =>?_|(refine .ay [0,1,2,6,7,8,9,13,30,35,54] hK ?_;clear hK K)|(with_reducible refine .done (hK _ ?_);clear hK K)|refine J.of rfl ?_|(with_reducible refine aq.aH (fun h =>?_) (fun h =>?_) <;>try simp only[h])) <;>try simp only[aK,R,simprocAttr])
  all_goals clear R
  refine bh.lA hm (kT _ xs.length 138 [.ref (enc el)] hcl [_,_,_]) ?_;rintro fk os' ⟨rfl,s',k1,k2,rfl⟩;refine ⟨_,rfl,rfl,?_⟩
  try simp only[ab,simprocAttr]
  refine .done (hK _ ?_);clear hK K;try simp only[aG]
  have R:=u8 @w4 (u8 @aN @ab)
  repeat' ((first |(with_reducible refine .guard (fun hb =>?_) (fun hb =>?_) <;>try simp only[hb])|refine J.aI (by decide +kernel) rfl fun K hK =>?_|(refine .ay [0,1,2,6,7,8,9,13,30,35,54] hK ?_;clear hK K)|(with_reducible refine .done (hK _ ?_);clear hK K)|refine J.of rfl ?_|(with_reducible refine aq.aH (fun h =>?_) (fun h =>?_) <;>try simp only[h])) <;>try simp only[aK,R,simprocAttr])
  all_goals clear R
  refine ⟨⟨2*bs,e++s'⟩,⟨by simp only;omega,by simp only;omega,a6 s' (k1.trans ?_) k2⟩,by simp only;omega,?_⟩
  ·rw[hx1,hx2,hxn,zx5];exact kl1.append kr1
  ·refine aF.cK ?_ (fun n=>rfl);simp[aY,aZ]
 ·have hc3:=ga hb3;have hdn:d1.drop (A+bs)=[]:=zv2 (by omega);have hxn:xs.drop (A+bs)=[]:=zv2 (by omega);rw[hdn,zx5] at hd2;rw[hxn,zx5] at hx1;have R:=u8 @hc3 (u8 @w2 (u8 @w4 (u8 @aN @ab)))
  repeat' ((first |(with_reducible refine .guard (fun hb =>?_) (fun hb =>?_) <;>try simp only[hb])|refine J.aI (by decide +kernel) rfl fun K hK =>?_|(refine .ay [0,1,2,6,7,8,9,13,30,35,54] hK ?_;clear hK K)|(with_reducible refine .done (hK _ ?_);clear hK K)|refine J.of rfl ?_|(with_reducible refine aq.aH (fun h =>?_) (fun h =>?_) <;>try simp only[h])) <;>try simp only[aK,R,simprocAttr])
  all_goals clear R
  refine ⟨⟨2*bs,e++d1.drop A⟩,⟨by simp only;omega,by simp only;omega,a6 _ (by rw[hd2,hx1];exact kl1) (by rw[hd2];exact kl2)⟩,by simp only;omega,?_⟩;refine aF.cK ?_ (fun n=>rfl);simp[aY,aZ]
theorem N5(el:List ar)(ae:mJ el)(hel:el.length≤60)(xs q:List Int)(hx:xs.Pairwise (· < ·))(hS:∀ x∈xs,jJ el x)(hn:xs.length≤60) :
  cH Tryz.prog 137 [.view 1000000 [] 1 0 xs.length,.func 138 [.ref (enc el)]] (cE 1000000 (xs++q)) (ni el [] xs q):=by
 refine cH.bu Tryz.func137 CG CP C3 (zz0 rfl) (zz0 rfl) n8 (fun hwf W0 D0 E1 =>?_);simp only[vI,yT,bl,zz4];clear hwf;refine .b6 (by decide +kernel) fun K hK =>?_;simp only[Fh,ab,simprocAttr]
 try simp only[dn,ab,simprocAttr]
 refine bh.lA (Oq el ae hel xs q hx hS hn) (kT _ xs.length 138 [.ref (enc el)] (by simp[I.bU,I.bj,ec]) [_]) ?_;rintro fk os' ⟨rfl,s',k1,k2,rfl⟩;refine ⟨_,rfl,rfl,?_⟩
 try simp only[ab,simprocAttr]
 refine .done (hK _ ?_);clear hK K;rw[lx];exact nX rfl rfl ⟨rfl,s',k1,k2,rfl⟩
def jy(l:List ar)(day:Int)(xs:List Int):List (Nat×aj):=[(1000008,.box (.own 1000080 xs.length)),(1000080,.c5 3 xs),(1000003,.box (enc l)),(1000004,.box (enc day))]
theorem alJ(l:List ar)(day:Int)(xs ys:List Int):fE (jy l day xs) (jy l day ys):=by
 refine ⟨fun n=>by simp only[jy,av,ak];(repeat' split) <;>rfl,fun n x h =>?_,fun n h =>?_⟩
 ·simp only[jy,ak] at h
  repeat' split at h
  all_goals first | (cases h;done) | (simp only[t7] at h;subst h;exact ⟨by simp[jy,av,ak,aj.only,bK,I.only],rfl⟩)
 ·simp only[jy,av,ak] at h
  repeat' split at h
  all_goals first | omega | (simp at h;done)
def nP(l:List ar)(day:Int)(i:Nat):Bool:=decide ((ah l i).kind≠0)&&decide ((ah l i).day≤day)
def lT(l:List ar)(day known:Int)(k:Nat):List Nat:=((gF l known).take k).filter (nP l day)
theorem XA{l:List ar}{day known:Int}{k:Nat}(hk:k<(gF l known).length):lT l day known (k+1)=lT l day known k++(if nP l day ((gF l known).getD k 0) then [(gF l known).getD k 0] else []):=by
 have e:(gF l known).getD k 0=(gF l known)[k]:=by rw[zz2,zy0 hk];rfl
 simp only[lT];rw[zy2 hk,List.filter_append,e];simp only[zw1,zv5]
theorem Xy(l:List ar)(day known:Int):lT l day known (gF l known).length=iZ l day known:=by
 simp only[lT,List.take_length];rfl
theorem Xz(l:List ar)(day known:Int)(k:Nat):(lT l day known k).length≤l.length:=by
 have h1:=zv8 (nP l day) ((gF l known).take k);have h2:((gF l known).take k).length≤(gF l known).length:=by rw[zy8];omega
 have h3:(gF l known).length≤l.length:=by
  have:=zv8 (fun i=>(gE l known).getD i false) (List.range l.length)
  rwa [List.length_range] at this
 exact zu0 h1 (zu0 h2 h3)
theorem alI:(∀ (A:af) n b m k m' k' rest,dj A none n [] b (.own m k) rest (some (.own m' k'))=aA rest (A.aO n (.box (.own m k)))) :=
 fun _ _ _ m k m' k' _=>by rw[ee (s:=none) (v:=.own m k) (old:=.own m' k') rfl rfl rfl,gp]
theorem Ni:(∀ n k,fL n k (.own n k)=.view n [] 1 0 k)∧(∀ n k m p,fL n k (.ptr m p)=.ptr m p)∧(∀ n k z,fL n k (.nils z)=.nils z)∧(∀ {α:Type} [Enc α] n k (x:α),fL n k (enc x)=enc x)∧(∀ n k i (x:Int),fL n k (.int i x)=.int i x)∧(∀ n k f xs,fL n k (.func f xs)=.func f xs)∧(∀ n k ks vs,fL n k (.cM ks vs)=.cM ks vs)∧(∀ n k b,fL n k (.bool b)=.bool b) ∧
  (∀ n,fK n (.own n 0)=.nils 1)∧(∀ n m p,fK n (.ptr m p)=.ptr m p)∧(∀ n z,fK n (.nils z)=.nils z)∧(∀ {α:Type} [Enc α] n (x:α),fK n (enc x)=enc x)∧(∀ n i (x:Int),fK n (.int i x)=.int i x)∧(∀ n f xs,fK n (.func f xs)=.func f xs)∧(∀ n ks vs,fK n (.cM ks vs)=.cM ks vs)∧(∀ n b,fK n (.bool b)=.bool b) ∧
  (∀ f v,iQ f (.box v)=.box (f v))∧(∀ f T xs,iQ f (.c5 T xs)=.c5 T xs)∧(∀ f ks vs,iQ f (.cC ks vs)=.cC ks vs) :=
 ⟨fun _ _=>by simp[fL],fun _ _ _ _=>rfl,fun _ _ _=>rfl,fun _ _ x=>r6 (bK _ x),fun _ _ _ _=>rfl,fun _ _ _ _=>rfl,fun _ _ _ _=>rfl,fun _ _ _=>rfl,fun _=>by simp[fK],fun _ _ _=>rfl,fun _ _=>rfl,fun _ x=>zE (bK _ x),fun _ _ _=>rfl,fun _ _ _=>rfl,fun _ _ _=>rfl,fun _ _=>rfl,fun _ _=>rfl,fun _ _ _=>rfl,fun _ _ _=>rfl⟩
theorem sq(l:List ar)(day known:Int)(hok:dE l=true):aB Tryz.prog 88 [enc l,enc day,enc known] (rN l day known):=by
 have hl:=qo hok;have ae:mJ l:=fun i hi=>ajQ (uh hok hi);refine aB.bu Tryz.func88 R1 TV V3 (zz0 rfl) (fun hwf W0 D0 E1 =>?_);simp only[Cu,L5,bl,zz4,Nat.reduceAdd];clear hwf;refine .az (by decide +kernel) fun K hK =>?_;simp only[It,ab,simprocAttr];refine .done (hK _ ?_);clear hK K;refine .az (by decide +kernel) fun K hK =>?_;simp only[Iu,ab,simprocAttr];refine .done (hK _ ?_);clear hK K;refine J.seq (J.seq ?_);refine .b6 (by decide +kernel) fun K hK =>?_;simp only[IA,ab,simprocAttr]
 try simp only[cA,aN,ab,simprocAttr]
 refine .lead _ (NM l known hl) ?_
 try simp only[ab,simprocAttr]
 refine .done (hK _ ?_);clear hK K;try simp only[aG]
 refine J.sub (aF.Pt 8 80 3 1 [] _ rfl rfl rfl (B:=au [(3,.ptr 3 []),(4,.ptr 4 []),(8,.ptr 8 []),(9,.nils 1),(17,.func 146 [.ref (enc l),.ref (enc (gE l known))])] [(8,.box (.own 80 0)),(80,.c5 3 []),(3,.box (enc l)),(4,.box (enc day))]) ?_) ?_
 ·simp only[gp];refine aF.cq ?_ ?_ ?_ ?_ <;>simp[aY,b7,bY,bE,av,aZ,cZ,I.only,I.bZ,aj.only,bK,fY]
 refine J.block (J.ly (osb0:=jy l day []) (tsR:=[(3,.ptr 1000003 []),(4,.ptr 1000004 []),(8,.ptr 1000008 [])]) (ρ:=[(1999999,999999),(1000003,3),(1000004,4),(1000008,8),(1000080,80)])
  (fun k os=>os=jy l day (cw (lT l day known k)))
  (fun _ _=>False)
  rfl (zz0 rfl) (by simp only[ab,simprocAttr]) (by simp[I.bU,I.bj,ec]) CH (N9 l (gE l known) hl (Nc l known)) (fun _=>rfl) rfl rfl rfl (fun o=>⟨?_,?_⟩) ?_ ?_ ?_ ?_ ?_ ?_ ?_)
 ·intro n x hx;simp only[dK,jy,ak] at hx
  repeat' split at hx
  all_goals first | (cases hx;done) | (subst_vars;simp only[t7] at hx;subst hx;simp[dK,jy,av,bD,ak,aj.aQ,I.aQ,ky,aj.only,I.only,bK,aj.eR,fY])
 ·intro a b ha hb;simp only[dK,jy,av,ak] at ha hb
  repeat' split at ha
  all_goals first | (simp at ha;done) | skip
  all_goals (repeat' split at hb)
  all_goals first | (simp at hb;done) | (subst_vars;simp[bD])
 ·simp[nh,aZ,I.aQ,bD,I.only,jy,av,ak]
 ·rintro k os rfl;exact alJ ..
 ·rintro e os h;exact h.elim
 ·simp[jy,lT,cw]
 ·rintro k osb hk rfl W1 D1 E1 tE o1 o2;have hk':k<(gF l known).length:=hk;have hdl:=Xz l day known k;have hsu:=XA (day:=day) hk';generalize lT l day known k=dk at hsu hdl ⊢;obtain ⟨i,hi⟩:∃ i,i=(gF l known).getD k 0:=⟨_,rfl⟩
  have hil:i<l.length:=by
   rw[hi,zz2,zy0 hk'];exact Nd (zx6 hk')
  have hit:((jz (fun i=>(gE l known).getD i false) l.length).getD k 0)=i:=hi.symm;rw[←hi] at hsu;have he:=jh hil;simp only[hit,rQ,dK,jy];have R:=u8 @aN @ab
  repeat' ((first |(with_reducible refine .guard (fun hb =>?_) (fun hb =>?_) <;>try simp only[hb])|refine J.aI (by decide +kernel) rfl fun K hK =>?_|(refine .ay [0,1,2,3,4,6,7,8,9,10,11,12,14,17,18,33,45,46,47,48,64] hK ?_;clear hK K)|(with_reducible refine .done (hK _ ?_);clear hK K)|refine J.of rfl ?_|(with_reducible refine aq.aH (fun h =>?_) (fun h =>?_) <;>try simp only[h])) <;>try simp only[aK,R,simprocAttr])
  all_goals clear R
  refine ⟨by simp[],?_⟩;have hap:=fun (A:af) d rest=>vx (A:=A) (d:=d) (e:=3) (bytes:=8) (n:=1000080) (l:=(cw dk).length) (xs:=cw dk) (y:=(i:Int)) (rest:=rest) rfl (by simp[cw,maxLen];omega) (by simp[cw];omega);rcases h1:((ah l i).kind != 0) <;>rcases h2:decide ((ah l i).day≤day)
  all_goals
   have R:=u8 @h1 (u8 @h2 (u8 @he (u8 @hap (u8 @cA (u8 @alI (u8 @dT (u8 @bB (u8 @aN @ab))))))))
   repeat' ((first |(with_reducible refine .guard (fun hb =>?_) (fun hb =>?_) <;>try simp only[hb])|refine J.aI (by decide +kernel) rfl fun K hK =>?_|(refine .ay [0,1,2,3,4,6,7,8,9,10,11,12,14,17,18,33,45,46,47,48,64] hK ?_;clear hK K)|(with_reducible refine .done (hK _ ?_);clear hK K)|refine J.of rfl ?_|(with_reducible refine aq.aH (fun h =>?_) (fun h =>?_) <;>try simp only[h])) <;>try simp only[aK,R,simprocAttr])
   all_goals clear R
  all_goals
   have hdue:nP l day i=(((ah l i).kind != 0)&&decide ((ah l i).day≤day)):=by simp only[nP,bne,ne_eq,decide_not];rfl
   rw[h1,h2] at hdue;rw[hdue] at hsu;refine ⟨_,?_,rfl⟩;rw[hsu];intro n x hx;simp only[dK,ak,if_true,zz6,zw3,Bool.and_true,Bool.and_false,if_false,zx5] at hx
   (repeat' split at hx) <;>first
    |(cases hx;done)
    |(subst_vars;simp only[t7] at hx;subst hx;simp[dK,av,au,ak,aj.only,I.only,bK,aj.eR,cw])
 ·rintro os rfl;have eN:lT l day known (jz (fun i=>(gE l known).getD i false) l.length).length=iZ l day known:=Xy l day known;simp only[eN,jy,dL,zz9,zx3,bD,aj.aQ,I.aQ,ky,aG,cj,reduceIte,Nat.reduceEqDiff,zy1,zy7];refine J.sub (B:=au [(3,.ptr 3 []),(8,.ptr 8 []),(9,.nils 1)] [(8,.box (.own 80 (lS l day known).length)),(80,.c5 3 (lS l day known)),(3,.box (enc l))]) ?_ ?_
  ·refine aF.cq ?_ ?_ ?_ ?_ <;>simp[*,aY,b7,bY,bE,av,aZ,cZ,I.only,aj.only,bK,fY,lS]
  have hlen:(lS l day known).length≤60:=by simp only[lS,cw,zy3];exact zu0 (sV l day known) hl
  have hris:=Xx l day known;have hin:=Xw (l:=l) (day:=day) (known:=known);have heq:=fun s=>akh (l:=l) (day:=day) (known:=known) (s:=s);generalize lS l day known=xs at hlen hris hin heq ⊢;by_cases hx0:xs=[]
  ·subst hx0;have ho0:qt l day known=[]:=(heq [] (List.Perm.refl _) List.Pairwise.nil).symm;refine J.sub (aF.Ns (n:=80) (T:=3) rfl (B:=au [(3,.ptr 3 []),(8,.ptr 8 []),(9,.nils 1)] [(8,.box (.nils 1)),(3,.box (enc l))]) ?_) ?_
   ·simp only[zz9,zx3,Ni,List.length_nil];refine aF.cq ?_ ?_ ?_ ?_ <;>simp[aY,b7,bY,bE,av,aZ,cZ,I.only,aj.only,bK]
   refine .az (by decide +kernel) fun K hK =>?_;simp only[xz,ab,simprocAttr]
   try simp only[qg,kW,ab,simprocAttr]
   refine .flat _ (N6 l) rfl ?_
   try simp only[ab,simprocAttr]
   refine .done (hK _ ?_);clear hK K;refine .az (by decide +kernel) fun K hK =>?_;simp only[xA,ab,simprocAttr]
   try simp only[dT,ab,simprocAttr]
   refine .done (hK _ ?_);clear hK K;refine .az (by decide +kernel) fun K hK =>?_;simp only[xB,ab,simprocAttr];refine .lead _ zQ ?_
   try simp only[ab,simprocAttr]
   refine .done (hK _ ?_);clear hK K;refine J.seq (J.seq ?_);refine .b6 (by decide +kernel) fun K hK =>?_;simp only[xC,ab,simprocAttr]
   try simp only[cA,dn,bB,dT,ab,simprocAttr]
   refine .done (hK _ ?_);clear hK K;try simp only[aG]
   have hF:=Ab l day known hok (W0:=W0) (D0:=D0) (E1:=E1);rw[ho0] at hF;refine J.sub (aF.oI [8] 45 (x:=.nils 1) (y:=enc ([]:List Int)) rfl (by rfl) ?_ ?_ ?_ ?_ ?_) hF
   ·simp[cJ,bE,aj.only,I.only,I.bZ,bK]
   ·simp[aY,fF,aZ,I.only,I.bZ,kY]
   ·simp[b7,cJ,ak]
   ·simp[bY,av,ak,I.only,I.bZ,bK,kY]
   ·simp[bE,av,ak,aj.only,I.only,I.bZ,bK]
  ·refine J.Nr (n:=80) rfl hx0 (by omega) (ui (by simp[nV,I.only])) ?_ (fun q =>?_)
   ·intro m y hy hm;simp only[ak] at hy
    repeat' split at hy
    all_goals first | (cases hy;done) | (exact absurd (by assumption) hm) | (simp only[t7] at hy;subst hy;first | exact .inl rfl | exact .inr (by simp[aj.only,bK]))
   simp only[zz9,zx3,Ni];refine .az (by decide +kernel) fun K hK =>?_;simp only[xz,ab,simprocAttr]
   try simp only[cA,qg,kW,ab,simprocAttr]
   refine .bT true [(1000000,80)] (cE 1000000 (xs++List.replicate q 0)) [.view 1000000 [] 1 0 xs.length,.func 138 [.ref (enc l)]] _ rfl (N5 l ae hl xs _ hris hin hlen) ?_ ?_ ?_ ?_
   ·refine ⟨fun m y hy =>?_,fun m m' h h' _=>by rw[dA.1 h,dA.1 h']⟩;simp only[cE,ak] at hy;split at hy
    ·rename_i hm;cases hy;subst hm;exact ⟨by simp only[bD,if_true,ak,aj.aQ,I.aQ,hE],oT _ _,rfl⟩
    ·cases hy
   ·refine ⟨.inl ⟨by simp[I.aQ,bD],dA.2 rfl,rfl⟩,.inr ?_,trivial⟩;simp[a6,bV,cD,au,cJ,kb,cE,bD,ak,ec,mG]
   ·rintro fk os' ⟨rfl,s',k1,k2,rfl⟩;refine ⟨fun m y hy =>?_,fun m m' h h' _=>by rw[dA.1 h,dA.1 h'],fun m hm=>by rw[dA.1 hm];exact dA.2 rfl,fun m a b=>by rw[dA.1 a] at b;simp[cE,av,ak] at b,rfl,fun _=>rfl⟩;simp only[cE,ak] at hy;split at hy
    ·cases hy;exact ⟨oT _ _,rfl,fun _=>aiE _⟩
    ·cases hy
   ·rintro fk os' ⟨rfl,s',k1,k2,rfl⟩;have hs':=heq s' k1 k2;have hsl:xs.length=s'.length:=k1.length_eq.symm
    try simp only[cE,dL,zz9,zx3,aj.aQ,I.aQ,hE,bD,reduceIte,zy1,zy7,I.cR,ab,simprocAttr]
    refine .done (hK _ ?_);clear hK K;refine .az (by decide +kernel) fun K hK =>?_;simp only[xA,ab,simprocAttr]
    try simp only[dT,ab,simprocAttr]
    refine .done (hK _ ?_);clear hK K;refine .az (by decide +kernel) fun K hK =>?_;simp only[xB,ab,simprocAttr];refine .lead _ zQ ?_
    try simp only[ab,simprocAttr]
    refine .done (hK _ ?_);clear hK K;refine J.seq (J.seq ?_);refine .b6 (by decide +kernel) fun K hK =>?_;simp only[xC,ab,simprocAttr]
    try simp only[cA,dn,ab,simprocAttr]
    refine .done (hK _ ?_);clear hK K;try simp only[aG]
    have hF:=Ab l day known hok (W0:=W0) (D0:=D0) (E1:=E1);rw[←hs'] at hF;refine J.sub (aF.oI [80,8] 45 (x:=.view 80 [] 1 0 xs.length) (y:=enc s') rfl ?_ ?_ ?_ ?_ ?_ ?_) hF
    ·have:ak (fR [80,8] [(43,aj.box (I.agg ([I.raw (Value.map none)].set 0 (I.mref 41)))),(41,aj.cC [] []),(80,aj.box (I.agg ((s'++List.replicate q 0).map enc))),(80,aj.box (I.agg ((xs++List.replicate q 0).map enc))),(8,aj.box (I.view 80 [] 1 0 xs.length)),(80,aj.c5 3 xs),(3,aj.box (enc l))]) 80=some (.box (.agg ((s'++List.replicate q 0).map enc))):=by
      rw[ma];simp[ak]
     try simp only[this,ab,simprocAttr]
     exact wI hsl.symm
    ·simp[cJ,bE,aj.only,I.only,I.bZ,bK]
    ·simp[aY,fF,aZ,I.only,I.bZ,kY,hsl]
    ·simp[b7,cJ,ak]
    ·simp[bY,av,ak,I.only,I.bZ,bK,kY]
    ·simp[bE,av,ak,aj.only,I.only,I.bZ,bK]
 ·rintro e os h;exact h.elim
theorem NT(n:Int):aB Tryz.prog 126 [enc n] (enc (!bP 0 100000 n)):=by
 refine aB.bu Tryz.func126 QG Sy UH (zz0 rfl) (fun hwf W0 D0 E1 =>?_);simp only[A7,KI,bl];have R:=u8 @aN @ab
 repeat' ((first |(with_reducible refine .guard (fun hb =>?_) (fun hb =>?_) <;>try simp only[hb])|refine J.aI (by decide +kernel) rfl fun K hK =>?_|refine .flat _ (vc _) rfl ?_|(refine .ay [0,2] hK ?_;clear hK K)|(with_reducible refine .done (hK _ ?_);clear hK K)|refine J.of rfl ?_|(with_reducible refine aq.aH (fun h =>?_) (fun h =>?_) <;>try simp only[h])) <;>try simp only[aK,R,simprocAttr])
 all_goals clear R
abbrev kp:=bL 2 Int
def ea(a b:Int):kp:=⟨[a,b],rfl⟩
def dY(l:List ar)(ns:List kp)(bC:List Int):Int:=if dE l then (if ns.all (fun n=>bP 1 (n.g 1) (n.g 0)) then (if bC.any (fun d => !bP 0 100000 d) then 6 else 0) else 1) else 41
theorem M6{A:af}{n:Nat}{b:I}{x:kp}{u v:Int}{rest:List aC} : dj A (some 2) n [] b (enc x) rest (some (.agg [.int .i64 u,.int .i64 v]))=aA rest (A.aO n (.box (enc x))):=by
 have:=ee (A:=A) (n:=n) (p:=[]) (b:=b) (v:=enc x) (old:=.agg [.int .i64 u,.int .i64 v]) (rest:=rest) (s:=some 2) (dU _) (by rw[fZ];rfl) (eQ x);rw[this,gp]
theorem Js :
  (∀ (x:kp) y,jf (0:Int) 2 (je 2 1 (x.l.map enc) y)=y)∧(∀ (x:kp) y,jf (1:Int) 2 (je 2 1 (x.l.map enc) y)=y)∧(∀ x:kp,(x.l.map (enc (α:=Int)))[0]?=some (I.int .i64 (x.g 0)))∧(∀ x:kp,(x.l.map (enc (α:=Int)))[1]?=some (I.int .i64 (x.g 1))) ∧
  (∀ x:kp,(enc x:I).dv=some (x.l.map enc))∧(∀ x:kp,b8 (some 2) (enc x)=true)∧((0:Int).toNat=0)∧((1:Int).toNat=1) :=
 ⟨fun x y=>xU 1 x (by decide) rfl,fun x y=>xU 1 x (by decide) rfl,fun x=>tv x (by decide),fun x=>tv x (by decide),fun _=>rfl,fun x=>by rw[fZ];rfl,rfl,rfl⟩
theorem px(l:List ar)(ns:List kp)(bC:List Int):aB Tryz.prog 67 [enc l,enc ns,enc bC] (enc (dY l ns bC)):=by
 refine aB.bu Tryz.func67 RP TJ VR (zz0 rfl) (fun hwf W0 D0 E1 =>?_);simp only[Ci,LS,bl,zz4,Nat.reduceAdd];have hnl:ns.length≤maxLen:=((lE ns).1 hwf.2.1).1;simp only[maxLen] at hnl;have hF64:=OW l;simp only[dY];rcases hok:dE l
 ·rw[hok,if_neg (by decide)] at hF64;have R:=u8 @hok (u8 @bB (u8 @aN @ab))
  repeat' ((first |(with_reducible refine .guard (fun hb =>?_) (fun hb =>?_) <;>try simp only[hb])|refine J.aI (by decide +kernel) rfl fun K hK =>?_|refine .flat _ (hF64) rfl ?_|(refine .ay [0,1,2,6,7,9,13,15,16,17,18,26,29] hK ?_;clear hK K)|(with_reducible refine .done (hK _ ?_);clear hK K)|refine J.of rfl ?_|(with_reducible refine aq.aH (fun h =>?_) (fun h =>?_) <;>try simp only[h])) <;>try simp only[aK,R,simprocAttr])
  all_goals clear R
 rw[hok,if_pos rfl] at hF64;have R:=u8 @hok (u8 @bB (u8 @aN @ab))
 repeat' ((first |(with_reducible refine .guard (fun hb =>?_) (fun hb =>?_) <;>try simp only[hb])|refine J.aI (by decide +kernel) rfl fun K hK =>?_|refine .flat _ (hF64) rfl ?_|(refine .ay [0,1,2,6,7,9,13,15,16,17,18,26,29] hK ?_;clear hK K)|(with_reducible refine .done (hK _ ?_);clear hK K)|refine J.of rfl ?_|(with_reducible refine aq.aH (fun h =>?_) (fun h =>?_) <;>try simp only[h])) <;>try simp only[aK,R,simprocAttr])
 all_goals clear R
 refine J.loop (fun i:Nat=>au [(2,enc bC),(15,enc ns),(16,.int .i64 ns.length),(17,.int .i64 i)] []) (fun i=>i≤ns.length∧∀ k,(h:k<ns.length)→k<i→bP 1 ((ns[k]).g 1) ((ns[k]).g 0)=true) (fun i=>ns.length-i) 0 ⟨zv1 _,fun k _ hk=>by omega⟩ ?_ (fun i hi =>?_)
 ·refine aF.cq ?_ ?_ ?_ ?_ <;>simp[aY,b7,bY,bE,aZ,I.only,bK]
 obtain ⟨hi1,hi2⟩:=hi;by_cases hlt:i<ns.length
 ·have hc:=fT hlt;have he:=fun A=>eL (A:=A) 2 hlt rfl;have hw:=fc (i:=i) (by omega);obtain ⟨x,hx⟩:∃ x,x=ns[i]:=⟨_,rfl⟩
  rw[←hx] at he;rcases hp:bP 1 (x.g 1) (x.g 0)
  ·have hall:(ns.all fun n=>bP 1 (n.g 1) (n.g 0))=false:=by
    rw[List.all_eq_false];exact ⟨x,hx▸zx6 hlt,by rw[hp];decide⟩
   have R:=u8 @hc (u8 @he (u8 @hp (u8 @hall (u8 @M6 (u8 @Js (u8 @bB @ab))))))
   repeat' ((first |(with_reducible refine .guard (fun hb =>?_) (fun hb =>?_) <;>try simp only[hb])|refine J.aI (by decide +kernel) rfl fun K hK =>?_|refine .flat _ (mB _ _ _) rfl ?_|(refine .ay [0,1,2,6,7,9,13,15,16,17,18,26,29] hK ?_;clear hK K)|(with_reducible refine .done (hK _ ?_);clear hK K)|refine J.of rfl ?_|(with_reducible refine aq.aH (fun h =>?_) (fun h =>?_) <;>try simp only[h])) <;>try simp only[aK,R,simprocAttr])
   all_goals clear R
  ·have R:=u8 @hc (u8 @he (u8 @hp (u8 @hw (u8 @M6 (u8 @Js (u8 @bB @ab))))))
   repeat' ((first |(with_reducible refine .guard (fun hb =>?_) (fun hb =>?_) <;>try simp only[hb])|refine J.aI (by decide +kernel) rfl fun K hK =>?_|refine .flat _ (mB _ _ _) rfl ?_|(refine .ay [0,1,2,6,7,9,13,15,16,17,18,26,29] hK ?_;clear hK K)|(with_reducible refine .done (hK _ ?_);clear hK K)|refine J.of rfl ?_|(with_reducible refine aq.aH (fun h =>?_) (fun h =>?_) <;>try simp only[h])) <;>try simp only[aK,R,simprocAttr])
   all_goals clear R
   refine ⟨i+1,⟨by omega,fun k hk hki =>?_⟩,by omega,?_⟩
   ·by_cases e:k=i
    ·subst e;rw[←hx];exact hp
    ·exact hi2 k hk (by omega)
   ·refine aF.cq ?_ ?_ ?_ ?_ <;>simp[aY,b7,bY,bE,aZ,bK,I.only]
 ·have hc:=ga hlt;have hall:(ns.all fun n=>bP 1 (n.g 1) (n.g 0))=true:=by
   rw[zx9];intro x hx;obtain ⟨k,hk,rfl⟩:=List.getElem_of_mem hx;exact hi2 k hk (by omega)
  have hF:=vb bC 126 [] rfl (fun d => !bP 0 100000 d) (fun x _=>NT x);rcases ae:bC.any fun d => !bP 0 100000 d
  all_goals
   rw[ae] at hF;have R:=u8 @hc (u8 @hall (u8 @ae (u8 @bB (u8 @aN @ab))))
   repeat' ((first |(with_reducible refine .guard (fun hb =>?_) (fun hb =>?_) <;>try simp only[hb])|refine J.aI (by decide +kernel) rfl fun K hK =>?_|refine .flat _ (hF) rfl ?_|(refine .ay [0,1,2,6,7,9,13,15,16,17,18,26,29] hK ?_;clear hK K)|(with_reducible refine .done (hK _ ?_);clear hK K)|refine J.of rfl ?_|(with_reducible refine aq.aH (fun h =>?_) (fun h =>?_) <;>try simp only[h])) <;>try simp only[aK,R,simprocAttr])
   all_goals clear R
def dg(l:List ar)(day known:Int):List ao:=(iM eE l (fH l day known)).1
def amc(l:List ar)(day known:Int):List Int:=dX (cw (iM eE l (fH l day known)).2)
theorem uq(l:List ar)(day known:Int):rN l day known=.tuple [fu (dg l day known),enc (amc l day known)]:=rfl
theorem oK{l:List ar}(hok:dE l=true)(day known:Int):((dg l day known).map (·.no)).Nodup∧(dg l day known).length≤60∧∀ b∈dg l day known,b.bA.length≤60:=by
 have h:=uo l (fH l day known) _ (zz8 _);rw[Kh] at h;have h2:(fH l day known).length≤60:=by rw[yK];exact zu0 (sV l day known) (qo hok)
 exact ⟨h.1,by simp only[dg];omega,fun b hb=>by have:=h.2.2.1 b hb;omega⟩
theorem rD(bs:List ao)(no:Int):gz (.i .i64) .nilp (.int .i64 no) (dc bs) (bs.map fun b=>.ref (enc (⟨b⟩:eh)))=match cI bs no with
  |some b=>some (.ref (enc (⟨b⟩:eh)),true)
  |none=>some (.nilp,false):=by
 have h1:=tt (bs:=bs) (no:=no);have h2:=x8 pU .nilp no (bs.map (·.no)) (bs.map fun b=>.ref (enc (⟨b⟩:eh)));rw[fY] at h2;unfold dc;rw[h2];cases h:(bs.map (·.no)).findIdx? fun x=>decide (no=x) with
 |none=>rw[h] at h1;simp only at h1;rw[h1]
 |some i =>
  rw[h] at h1;obtain ⟨hi,g1,g2⟩:=h1;rw[g1];simp[hi]
theorem Ul(bs:List ao):I.bU (bs.map fun b=>.ref (enc (⟨b⟩:eh)))=true:=by
 induction bs with
 |nil=>rfl
 |cons b bs ih=>simp only[zz9,I.bU,I.bj,ec,ih,zw3]
theorem Uf(bs:List ao):(I.cM (dc bs) (bs.map fun b=>.ref (enc (⟨b⟩:eh)))).bj=true:=by
 simp only[I.bj,Ul,Bool.and_true];exact iW _
theorem iE:(∀ bs,(fu bs).bj=true)∧(∀ aD A bs,a6 aD A (fu bs)=some (fu bs))∧(∀ bs,(fu bs).cn=true)∧(∀ bs,b8 none (fu bs)=true)∧(∀ p bs,(fu bs).only p=true)∧(∀ x:eh,(enc x:I).bj=true)∧(∀ bs,mX (fu bs)=some (fu bs)) ∧
  (∀ A bs,lX A 0 0 (fu bs)=some (.ref (.cM (dc bs) (bs.map fun b=>.ref (enc (⟨b⟩:eh))))))∧(∀ x:eh,mX (.ref (enc x))=some (.ref (enc x))) :=
 have h:∀ bs,(I.agg [.cM (dc bs) (bs.map fun b=>.ref (enc (⟨b⟩:eh)))]).bj=true:=fun bs=>by simp only[I.bj,I.bU,Bool.and_true];exact Uf bs
 ⟨fun bs=>by simp only[fu,I.bj];exact h bs,fun aD A bs=>by simp only[fu,a6,h bs,if_true],fun _=>rfl,fun _=>rfl,fun p bs=>kc p _ (by simp only[fu,I.bj];exact h bs),fun x=>ec x,fun _=>rfl,
  fun A bs=>by simp[fu,lX,I.dv,q0,pX,dB,I.sizes],fun _=>rfl⟩
theorem Nu:(∀ k n,(I.int k n).cn=true)∧(∀ b,(I.bool b).cn=true):=⟨fun _ _=>rfl,fun _=>rfl⟩
theorem lP{l:List ar}{ns:List kp}{bC:List Int}(h:dY l ns bC=0):dE l=true:=by
 simp only[dY] at h;split at h
 ·assumption
 ·cases h
theorem nS{a:Int}(h:a=0):(a != 0)=false:=by simp[h]
theorem mc{a:Int}(h:¬ a=0):(a != 0)=true:=by simp[h]
theorem qT(a b:Int):iB 1 (some [.int .i64 a,.int .i64 b])=some (enc [a,b]):=nw (ys:=[a,b]) 1 rfl
theorem qK(l:List ar)(known:Int)(hok:dE l=true):aB Tryz.prog 68 [enc l,enc known] (fu (dg l 100000 known)):=by
 refine aB.bu Tryz.func68 RQ TK VS (zz0 rfl) (fun hwf W0 D0 E1 =>?_);simp only[Cj,LU,bl,zz4];have hF:=sq l 100000 known hok;rw[uq] at hF;have R:=u8 @iE (u8 @aN @ab)
 repeat' ((first |(with_reducible refine .guard (fun hb =>?_) (fun hb =>?_) <;>try simp only[hb])|refine J.aI (by decide +kernel) rfl fun K hK =>?_|refine .lead _ (hF) ?_|(refine .ay [0,1,4,5] hK ?_;clear hK K)|(with_reducible refine .done (hK _ ?_);clear hK K)|refine J.of rfl ?_|(with_reducible refine aq.aH (fun h =>?_) (fun h =>?_) <;>try simp only[h])) <;>try simp only[aK,R,simprocAttr])
 all_goals clear R
theorem O4(b:ao):aB Tryz.prog 89 [.ref (enc (⟨b⟩:eh))] (enc (!decide (0≤b.cu))):=by
 refine aB.bu Tryz.func89 R2 TW V4 (zz0 rfl) (fun hwf W0 D0 E1 =>?_);simp only[Cv,L6,bl];have R:=u8 @iE (u8 @aN @ab)
 repeat' ((first |(with_reducible refine .guard (fun hb =>?_) (fun hb =>?_) <;>try simp only[hb])|refine J.aI (by decide +kernel) rfl fun K hK =>?_|refine .flat _ (jA _) rfl ?_|(refine .ay [0,2] hK ?_;clear hK K)|(with_reducible refine .done (hK _ ?_);clear hK K)|refine J.of rfl ?_|(with_reducible refine aq.aH (fun h =>?_) (fun h =>?_) <;>try simp only[h])) <;>try simp only[aK,R,simprocAttr])
 all_goals clear R
def jB(l:List ar)(day known:Int):List Int×Int:=if dY l [] [day,known]=0 then (dX (((dg l day known).filter fun b => !decide (0≤b.cu)).map (·.no)),0) else ([],dY l [] [day,known])
theorem z6(l:List ar)(day known:Int):aB Tryz.prog 26 [enc l,enc day,enc known] (.tuple [enc (jB l day known).1,enc (jB l day known).2]):=by
 refine aB.bu Tryz.func26 RB Tv VD (zz0 rfl) (fun hwf W0 D0 E1 =>?_);simp only[B5,LD,bl,zz4,Nat.reduceAdd];clear hwf;have hC:=px l [] [day,known];simp only[jB];generalize hc:dY l [] [day,known]=e at hC ⊢;by_cases he:e=0
 ·have hn:=nS he;subst he;have hok:=lP hc;have hF:=sq l day known hok;rw[uq] at hF;have hb:=oK hok day known;have hN:=sm (dg l day known) hb.2.1 89 [] rfl (fun b => !decide (0≤b.cu)) (fun b _=>O4 b);have R:=u8 @hn (u8 @qT (u8 @iE (u8 @kW (u8 @aN @ab))))
  repeat' ((first |(with_reducible refine .guard (fun hb =>?_) (fun hb =>?_) <;>try simp only[hb])|refine J.aI (by decide +kernel) rfl fun K hK =>?_|refine .flat _ (hC) rfl ?_|refine .lead _ (hF) ?_|refine .lead _ (hN) ?_|(refine .ay [0,1,2,6,7,8,9,17] hK ?_;clear hK K)|(with_reducible refine .done (hK _ ?_);clear hK K)|refine J.of rfl ?_|(with_reducible refine aq.aH (fun h =>?_) (fun h =>?_) <;>try simp only[h])) <;>try simp only[aK,R,simprocAttr])
  all_goals clear R
  all_goals rfl
 ·have hn:=mc he;have R:=u8 @hn (u8 @he (u8 @qT (u8 @aN @ab)))
  repeat' ((first |(with_reducible refine .guard (fun hb =>?_) (fun hb =>?_) <;>try simp only[hb])|refine J.aI (by decide +kernel) rfl fun K hK =>?_|refine .flat _ (hC) rfl ?_|(refine .ay [0,1,2,6,7,8,9,17] hK ?_;clear hK K)|(with_reducible refine .done (hK _ ?_);clear hK K)|refine J.of rfl ?_|(with_reducible refine aq.aH (fun h =>?_) (fun h =>?_) <;>try simp only[h])) <;>try simp only[aK,R,simprocAttr])
  all_goals clear R
  all_goals rfl
def nG(l:List ar)(no day known:Int):Int×Int:=if dY l [ea no 9999] [day,known]=0 then (match cI (dg l day known) no with
 |none=>(0,42)
 |some b=>if 0≤b.cu then (0,0) else (b.bx,0)) else (0,dY l [ea no 9999] [day,known])
theorem AL(a b:Int):iB 2 (some [.agg [.int .i64 a,.int .i64 b]])=some (enc [ea a b]):=nw (ys:=[ea a b]) 2 rfl
theorem AM(a b c d:Int):iB 2 (some [.agg [.int .i64 a,.int .i64 b],.agg [.int .i64 c,.int .i64 d]])=some (enc [ea a b,ea c d]):=nw (ys:=[ea a b,ea c d]) 2 rfl
theorem ez:(type_of% @aN)∧(type_of% @fM)∧(type_of% @iE)∧(type_of% @kW)∧(type_of% @dT)∧(type_of% @cA)∧(type_of% @bB)∧(type_of% @qT)∧(type_of% @AL)∧(type_of% @AM)∧(type_of% @AK)∧(type_of% @Nu)∧(type_of% @ab):=⟨@aN,@fM,@iE,@kW,@dT,@cA,@bB,@qT,@AL,@AM,@AK,@Nu,@ab⟩
theorem z7(l:List ar)(no day known:Int):aB Tryz.prog 27 [enc l,enc no,enc day,enc known] (.tuple [enc (nG l no day known).1,enc (nG l no day known).2]):=by
 refine aB.bu Tryz.func27 RC Tw VE (zz0 rfl) (fun hwf W0 D0 E1 =>?_);simp only[B6,LF,bl,zz4,Nat.reduceAdd];clear hwf;have hC:=px l [ea no 9999] [day,known];simp only[nG];generalize hc:dY l [ea no 9999] [day,known]=e at hC ⊢;by_cases he:e=0
 ·have hn:=nS he;subst he;have hok:=lP hc;have hF:=sq l day known hok;rw[uq] at hF;have hk:=rD (dg l day known) no;cases hg:cI (dg l day known) no with
  |none =>
   rw[hg] at hk;have R:=u8 @hn (u8 @hk ez)
   repeat' ((first |(with_reducible refine .guard (fun hb =>?_) (fun hb =>?_) <;>try simp only[hb])|refine J.aI (by decide +kernel) rfl fun K hK =>?_|refine .flat _ (hC) rfl ?_|refine .lead _ (hF) ?_|(refine .ay [0,1,2,3,8,9,10,11,13,23,38,41] hK ?_;clear hK K)|(with_reducible refine .done (hK _ ?_);clear hK K)|refine J.of rfl ?_|(with_reducible refine aq.aH (fun h =>?_) (fun h =>?_) <;>try simp only[h])) <;>try simp only[aK,R,simprocAttr])
   all_goals clear R
  |some b =>
   rw[hg] at hk;rcases ae:decide (0≤b.cu)
   all_goals
    have R:=u8 @hn (u8 @hk (u8 @ae ez))
    repeat' ((first |(with_reducible refine .guard (fun hb =>?_) (fun hb =>?_) <;>try simp only[hb])|refine J.aI (by decide +kernel) rfl fun K hK =>?_|refine .flat _ (hC) rfl ?_|refine .lead _ (hF) ?_|refine .flat _ (jA _) rfl ?_|(refine .ay [0,1,2,3,8,9,10,11,13,23,38,41] hK ?_;clear hK K)|(with_reducible refine .done (hK _ ?_);clear hK K)|refine J.of rfl ?_|(with_reducible refine aq.aH (fun h =>?_) (fun h =>?_) <;>try simp only[h])) <;>try simp only[aK,R,simprocAttr])
    all_goals clear R
    simp only[decide_eq_true_eq,decide_eq_false_iff_not] at ae;simp[ae]
 ·have hn:=mc he;have R:=u8 @hn (u8 @he ez)
  repeat' ((first |(with_reducible refine .guard (fun hb =>?_) (fun hb =>?_) <;>try simp only[hb])|refine J.aI (by decide +kernel) rfl fun K hK =>?_|refine .flat _ (hC) rfl ?_|(refine .ay [0,1,2,3,8,9,10,11,13,23,38,41] hK ?_;clear hK K)|(with_reducible refine .done (hK _ ?_);clear hK K)|refine J.of rfl ?_|(with_reducible refine aq.aH (fun h =>?_) (fun h =>?_) <;>try simp only[h])) <;>try simp only[aK,R,simprocAttr])
  all_goals clear R
  all_goals rfl
theorem O5(b:ao)(o s:Int):aB Tryz.prog 91 [.ref (enc (⟨b⟩:eh)),.ref (enc o),.ref (enc s)] (enc (!decide (0≤b.cu)&&(b.bx==o&&b.cd==s))):=by
 refine aB.bu Tryz.func91 R4 TY V6 (zz0 rfl) (fun hwf W0 D0 E1 =>?_);simp only[Cx,L8,bl,zz4,Nat.reduceAdd];have R:=ez
 repeat' ((first |(with_reducible refine .guard (fun hb =>?_) (fun hb =>?_) <;>try simp only[hb])|refine J.aI (by decide +kernel) rfl fun K hK =>?_|refine .flat _ (jA _) rfl ?_|(refine .ay [0,1,2,4] hK ?_;clear hK K)|(with_reducible refine .done (hK _ ?_);clear hK K)|refine J.of rfl ?_|(with_reducible refine aq.aH (fun h =>?_) (fun h =>?_) <;>try simp only[h])) <;>try simp only[aK,R,simprocAttr])
 all_goals clear R
 all_goals simp_all
def iX(l:List ar)(o s day known:Int):Int×Int:=if dY l [ea o 99,ea s 9] [day,known]=0 then ((((dg l day known).filter fun b => !decide (0≤b.cu)&&(b.bx==o&&b.cd==s)).length:Int),0) else (0,dY l [ea o 99,ea s 9] [day,known])
theorem z8(l:List ar)(o s day known:Int):aB Tryz.prog 28 [enc l,enc o,enc s,enc day,enc known] (.tuple [enc (iX l o s day known).1,enc (iX l o s day known).2]):=by
 refine aB.bu Tryz.func28 RD Tx VF (zz0 rfl) (fun hwf W0 D0 E1 =>?_);simp only[B7,LG,bl,zz4,Nat.reduceAdd];clear hwf;have hC:=px l [ea o 99,ea s 9] [day,known];simp only[iX];generalize hc:dY l [ea o 99,ea s 9] [day,known]=e at hC ⊢;by_cases he:e=0
 ·have hn:=nS he;subst he;have hok:=lP hc;have hF:=sq l day known hok;rw[uq] at hF;have hb:=oK hok day known;have hN:=sm (dg l day known) hb.2.1 91 [.ref (enc o),.ref (enc s)] rfl (fun b => !decide (0≤b.cu)&&(b.bx==o&&b.cd==s)) (fun b _=>O5 b o s);have R:=u8 @hn (u8 @qg ez)
  repeat' ((first |(with_reducible refine .guard (fun hb =>?_) (fun hb =>?_) <;>try simp only[hb])|refine J.aI (by decide +kernel) rfl fun K hK =>?_|refine .flat _ (hC) rfl ?_|refine .lead _ (hF) ?_|(refine .ay [0,1,2,3,4,6,7,10,11,12,13,26] hK ?_;clear hK K)|(with_reducible refine .done (hK _ ?_);clear hK K)|refine J.of rfl ?_|(with_reducible refine aq.aH (fun h =>?_) (fun h =>?_) <;>try simp only[h])) <;>try simp only[aK,R,simprocAttr])
  all_goals clear R
  refine .gN [6,7] _ rfl hN ?_ ?_ ?_
  ·simp[a6,bV,cD,au,fR,ak,mG,iE,I.bj];exact ⟨rfl,rfl⟩
  ·simp[bE,cJ]
  ·have hlen:(dX (((dg l day known).filter fun b => !decide (0≤b.cu)&&(b.bx==o&&b.cd==s)).map (·.no))).length=((dg l day known).filter fun b => !decide (0≤b.cu)&&(b.bx==o&&b.cd==s)).length:=by simp[dX]
   try simp only[fF,zz9,zx3,hlen,ez,ab,simprocAttr]
   have R:=u8 @hlen ez
   repeat' ((first |(with_reducible refine .guard (fun hb =>?_) (fun hb =>?_) <;>try simp only[hb])|refine J.aI (by decide +kernel) rfl fun K hK =>?_|(refine .ay [0,1,2,3,4,6,7,10,11,12,13,26] hK ?_;clear hK K)|(with_reducible refine .done (hK _ ?_);clear hK K)|refine J.of rfl ?_|(with_reducible refine aq.aH (fun h =>?_) (fun h =>?_) <;>try simp only[h])) <;>try simp only[aK,R,simprocAttr])
   all_goals clear R
 ·have hn:=mc he;have R:=u8 @hn (u8 @he ez)
  repeat' ((first |(with_reducible refine .guard (fun hb =>?_) (fun hb =>?_) <;>try simp only[hb])|refine J.aI (by decide +kernel) rfl fun K hK =>?_|refine .flat _ (hC) rfl ?_|(refine .ay [0,1,2,3,4,6,7,10,11,12,13,26] hK ?_;clear hK K)|(with_reducible refine .done (hK _ ?_);clear hK K)|refine J.of rfl ?_|(with_reducible refine aq.aH (fun h =>?_) (fun h =>?_) <;>try simp only[h])) <;>try simp only[aK,R,simprocAttr])
  all_goals clear R
  all_goals rfl
theorem iJ(m:cP):b8 (some 7) (enc m)=true:=by rw[fZ];rfl
theorem sk(m:cP)(b:ao):aB Tryz.prog 69 [enc m,.ref (enc (⟨b⟩:eh))] (enc (jm m b.bA).1):=by
 refine aB.bu Tryz.func69 RR TL VT (zz0 rfl) (fun hwf W0 D0 E1 =>?_);simp only[Ck,LV,bl,zz4];clear hwf;have hC:=NU m b.bA;have R:=u8 @iJ ez
 repeat' ((first |(with_reducible refine .guard (fun hb =>?_) (fun hb =>?_) <;>try simp only[hb])|refine J.aI (by decide +kernel) rfl fun K hK =>?_|refine .lead _ (hC) ?_|(refine .ay [0,1,2,4,5] hK ?_;clear hK K)|(with_reducible refine .done (hK _ ?_);clear hK K)|refine J.of rfl ?_|(with_reducible refine aq.aH (fun h =>?_) (fun h =>?_) <;>try simp only[h])) <;>try simp only[aK,R,simprocAttr])
 all_goals clear R
theorem NV(l:List Int)(n:Int):aB Tryz.prog 131 [enc l,enc n] (enc (nL (fun x=>n==x) l)):=by
 refine aB.bu Tryz.func131 QJ SB UK (zz0 rfl) (fun hwf W0 D0 E1 =>?_);simp only[Ba,KL,bl,zz4];have hlen:l.length≤maxLen:=((lE l).1 hwf.1).1;simp only[maxLen] at hlen;clear hwf;have R:=u8 @bB @ab
 repeat' ((first |(with_reducible refine .guard (fun hb =>?_) (fun hb =>?_) <;>try simp only[hb])|refine J.aI (by decide +kernel) rfl fun K hK =>?_|(refine .ay [0,1,4,5,7,8,9,16] hK ?_;clear hK K)|(with_reducible refine .done (hK _ ?_);clear hK K)|refine J.of rfl ?_|(with_reducible refine aq.aH (fun h =>?_) (fun h =>?_) <;>try simp only[h])) <;>try simp only[aK,R,simprocAttr])
 all_goals clear R
 refine J.loop (fun i:Nat=>au [(0,enc l),(1,.int .i64 n),(7,.int .i64 l.length),(8,.int .i64 i)] []) (fun i=>i≤l.length∧∀ x∈l.take i,(n==x)=false) (fun i=>l.length-i) 0 ⟨zv1 _,by simp⟩ ?_ (fun i hi =>?_)
 ·refine aF.cq ?_ ?_ ?_ ?_ <;>simp[aY,b7,bY,bE,aZ,I.only,bK]
 obtain ⟨hi1,hi2⟩:=hi;by_cases hlt:i<l.length
 ·have hc:=fT hlt;have he:=fun A=>eL (A:=A) 1 hlt rfl;have hw:=fc (i:=i) (by omega);rcases hp:(n==l[i])
  ·have R:=u8 @hc (u8 @he (u8 @hp (u8 @hw (u8 @kH (u8 @bB @ab)))))
   repeat' ((first |(with_reducible refine .guard (fun hb =>?_) (fun hb =>?_) <;>try simp only[hb])|refine J.aI (by decide +kernel) rfl fun K hK =>?_|(refine .ay [0,1,4,5,7,8,9,16] hK ?_;clear hK K)|(with_reducible refine .done (hK _ ?_);clear hK K)|refine J.of rfl ?_|(with_reducible refine aq.aH (fun h =>?_) (fun h =>?_) <;>try simp only[h])) <;>try simp only[aK,R,simprocAttr])
   all_goals clear R
   refine ⟨i+1,⟨by omega,fun x hm =>?_⟩,by omega,?_⟩
   ·rw[zy2 hlt] at hm;rcases zy6.1 hm with hm | hm
    ·exact hi2 x hm
    ·simp at hm;rw[hm];exact hp
   ·refine aF.cq ?_ ?_ ?_ ?_ <;>simp[aY,b7,bY,bE,aZ,I.only,bK]
  ·have R:=u8 @hc (u8 @he (u8 @hp (u8 @kH (u8 @bB @ab))))
   repeat' ((first |(with_reducible refine .guard (fun hb =>?_) (fun hb =>?_) <;>try simp only[hb])|refine J.aI (by decide +kernel) rfl fun K hK =>?_|(refine .ay [0,1,4,5,7,8,9,16] hK ?_;clear hK K)|(with_reducible refine .done (hK _ ?_);clear hK K)|refine J.of rfl ?_|(with_reducible refine aq.aH (fun h =>?_) (fun h =>?_) <;>try simp only[h])) <;>try simp only[aK,R,simprocAttr])
   all_goals clear R
   simp[nL,td hlt hi2 hp]
 ·have hc:=ga hlt;have hge:i=l.length:=by omega
  have R:=u8 @hc (u8 @bB @ab)
  repeat' ((first |(with_reducible refine .guard (fun hb =>?_) (fun hb =>?_) <;>try simp only[hb])|refine J.aI (by decide +kernel) rfl fun K hK =>?_|(refine .ay [0,1,4,5,7,8,9,16] hK ?_;clear hK K)|(with_reducible refine .done (hK _ ?_);clear hK K)|refine J.of rfl ?_|(with_reducible refine aq.aH (fun h =>?_) (fun h =>?_) <;>try simp only[h])) <;>try simp only[aK,R,simprocAttr])
  all_goals clear R
  subst hge;rw[List.take_length] at hi2;simp[nL,tc hi2]
theorem OY(l:List Int)(n:Int):aB Tryz.prog 74 [enc l,enc n] (enc (decide (n∈l))):=by
 refine aB.bu Tryz.func74 RU TO VW (zz0 rfl) (fun hwf W0 D0 E1 =>?_);simp only[Cn,LY,bl,zz4];clear hwf;have R:=u8 @aN @ab
 repeat' ((first |(with_reducible refine .guard (fun hb =>?_) (fun hb =>?_) <;>try simp only[hb])|refine J.aI (by decide +kernel) rfl fun K hK =>?_|refine .flat _ (NV _ _) rfl ?_|(refine .ay [0,1,4] hK ?_;clear hK K)|(with_reducible refine .done (hK _ ?_);clear hK K)|refine J.of rfl ?_|(with_reducible refine aq.aH (fun h =>?_) (fun h =>?_) <;>try simp only[h])) <;>try simp only[aK,R,simprocAttr])
 all_goals clear R
 rw[IW]
 congr 1
 rw[Bool.eq_iff_iff];simp[List.any_eq_true]
theorem OX(m:cP)(b:ao):aB Tryz.prog 73 [.ref (enc (⟨b⟩:eh)),.ref (enc m)] (enc (decide (0<b.jF) && !decide (b.jF∈(jm m b.bA).1))):=by
 refine aB.bu Tryz.func73 RT TN VV (zz0 rfl) (fun hwf W0 D0 E1 =>?_);simp only[Cm,LX,bl,zz4];clear hwf;have hC:=sk m b;have R:=u8 @iJ ez
 repeat' ((first |(with_reducible refine .guard (fun hb =>?_) (fun hb =>?_) <;>try simp only[hb])|refine J.aI (by decide +kernel) rfl fun K hK =>?_|refine .lead _ (hC) ?_|refine .flat _ (OY _ _) rfl ?_|(refine .ay [0,1,3] hK ?_;clear hK K)|(with_reducible refine .done (hK _ ?_);clear hK K)|refine J.of rfl ?_|(with_reducible refine aq.aH (fun h =>?_) (fun h =>?_) <;>try simp only[h])) <;>try simp only[aK,R,simprocAttr])
 all_goals clear R
 all_goals first | (simp_all;done) | (simp_all;intro h;omega)
def lK(m:cP)(l:List ar)(no known:Int):List Int×Int:=if gR m then (if dY l [ea no 9999] [known]=0 then (match cI (dg l 100000 known) no with
 |none=>([],42)
 |some b=>((jm m b.bA).1,0)) else ([],dY l [ea no 9999] [known])) else ([],13)
theorem lL(a:Int):iB 1 (some [.int .i64 a])=some (enc [a]):=nw (ys:=[a]) 1 rfl
theorem ve(m:cP)(l:List ar)(no known:Int):aB Tryz.prog 14 [enc m,enc l,enc no,enc known] (.tuple [enc (lK m l no known).1,enc (lK m l no known).2]):=by
 refine aB.bu Tryz.func14 QR SI UR (zz0 rfl) (fun hwf W0 D0 E1 =>?_);simp only[Bh,KS,bl,zz4,Nat.reduceAdd];clear hwf;have hM:=vk m;have hC:=px l [ea no 9999] [known];simp only[lK];rcases hm:gR m
 ·rw[hm,if_neg (by decide)] at hM;have R:=u8 @iJ ez
  repeat' ((first |(with_reducible refine .guard (fun hb =>?_) (fun hb =>?_) <;>try simp only[hb])|refine J.aI (by decide +kernel) rfl fun K hK =>?_|refine .flat _ (hM) rfl ?_|(refine .ay [0,1,2,3,4,8,9,10,11,12,16,26,37] hK ?_;clear hK K)|(with_reducible refine .done (hK _ ?_);clear hK K)|refine J.of rfl ?_|(with_reducible refine aq.aH (fun h =>?_) (fun h =>?_) <;>try simp only[h])) <;>try simp only[aK,R,simprocAttr])
  all_goals clear R
  all_goals rfl
 rw[hm,if_pos rfl] at hM;generalize hc:dY l [ea no 9999] [known]=e at hC ⊢;by_cases he:e=0
 ·have hn:=nS he;subst he;have hok:=lP hc;have hF:=qK l known hok;have hk:=rD (dg l 100000 known) no;cases hg:cI (dg l 100000 known) no with
  |none =>
   rw[hg] at hk;have R:=u8 @hn (u8 @hk (u8 @iJ ez))
   repeat' ((first |(with_reducible refine .guard (fun hb =>?_) (fun hb =>?_) <;>try simp only[hb])|refine J.aI (by decide +kernel) rfl fun K hK =>?_|refine .flat _ (hM) rfl ?_|refine .flat _ (hC) rfl ?_|refine .lead _ (hF) ?_|(refine .ay [0,1,2,3,4,8,9,10,11,12,16,26,37] hK ?_;clear hK K)|(with_reducible refine .done (hK _ ?_);clear hK K)|refine J.of rfl ?_|(with_reducible refine aq.aH (fun h =>?_) (fun h =>?_) <;>try simp only[h])) <;>try simp only[aK,R,simprocAttr])
   all_goals clear R
   all_goals rfl
  |some b =>
   rw[hg] at hk;have hB:=sk m b;have R:=u8 @hn (u8 @hk (u8 @iJ ez))
   repeat' ((first |(with_reducible refine .guard (fun hb =>?_) (fun hb =>?_) <;>try simp only[hb])|refine J.aI (by decide +kernel) rfl fun K hK =>?_|refine .flat _ (hM) rfl ?_|refine .flat _ (hC) rfl ?_|refine .lead _ (hF) ?_|refine .lead _ (hB) ?_|(refine .ay [0,1,2,3,4,8,9,10,11,12,16,26,37] hK ?_;clear hK K)|(with_reducible refine .done (hK _ ?_);clear hK K)|refine J.of rfl ?_|(with_reducible refine aq.aH (fun h =>?_) (fun h =>?_) <;>try simp only[h])) <;>try simp only[aK,R,simprocAttr])
   all_goals clear R
 ·have hn:=mc he;have R:=u8 @hn (u8 @he (u8 @iJ ez))
  repeat' ((first |(with_reducible refine .guard (fun hb =>?_) (fun hb =>?_) <;>try simp only[hb])|refine J.aI (by decide +kernel) rfl fun K hK =>?_|refine .flat _ (hM) rfl ?_|refine .flat _ (hC) rfl ?_|(refine .ay [0,1,2,3,4,8,9,10,11,12,16,26,37] hK ?_;clear hK K)|(with_reducible refine .done (hK _ ?_);clear hK K)|refine J.of rfl ?_|(with_reducible refine aq.aH (fun h =>?_) (fun h =>?_) <;>try simp only[h])) <;>try simp only[aK,R,simprocAttr])
  all_goals clear R
  all_goals rfl
def sa(m:cP)(l:List ar)(known:Int):List Int×Int:=if gR m then (if dY l [] [known]=0 then
 (dX (((dg l 100000 known).filter fun b=>decide (0<b.jF) && !decide (b.jF∈(jm m b.bA).1)).map (·.no)),0) else ([],dY l [] [known])) else ([],13)
theorem Oe(m:cP)(l:List ar)(known:Int):aB Tryz.prog 16 [enc m,enc l,enc known] (.tuple [enc (sa m l known).1,enc (sa m l known).2]):=by
 refine aB.bu Tryz.func16 Q1 SU U3 (zz0 rfl) (fun hwf W0 D0 E1 =>?_);simp only[Bt,K3,bl,zz4,Nat.reduceAdd];clear hwf;have hM:=vk m;have hC:=px l [] [known];simp only[sa];rcases hm:gR m
 ·rw[hm,if_neg (by decide)] at hM;have R:=u8 @iJ ez
  repeat' ((first |(with_reducible refine .guard (fun hb =>?_) (fun hb =>?_) <;>try simp only[hb])|refine J.aI (by decide +kernel) rfl fun K hK =>?_|refine .flat _ (hM) rfl ?_|(refine .ay [0,1,2,3,6,7,8,9,13,20] hK ?_;clear hK K)|(with_reducible refine .done (hK _ ?_);clear hK K)|refine J.of rfl ?_|(with_reducible refine aq.aH (fun h =>?_) (fun h =>?_) <;>try simp only[h])) <;>try simp only[aK,R,simprocAttr])
  all_goals clear R
  all_goals rfl
 rw[hm,if_pos rfl] at hM;generalize hc:dY l [] [known]=e at hC ⊢;by_cases he:e=0
 ·have hn:=nS he;subst he;have hok:=lP hc;have hF:=qK l known hok;have hb:=oK hok 100000 known;have hN:=sm (dg l 100000 known) hb.2.1 73 [.ref (enc m)] (by simp[I.eP,I.done,ec]) (fun b=>decide (0<b.jF) && !decide (b.jF∈(jm m b.bA).1)) (fun b _=>OX m b);have R:=u8 @hn (u8 @iJ (u8 @qg ez))
  repeat' ((first |(with_reducible refine .guard (fun hb =>?_) (fun hb =>?_) <;>try simp only[hb])|refine J.aI (by decide +kernel) rfl fun K hK =>?_|refine .flat _ (hM) rfl ?_|refine .flat _ (hC) rfl ?_|refine .lead _ (hF) ?_|(refine .ay [0,1,2,3,6,7,8,9,13,20] hK ?_;clear hK K)|(with_reducible refine .done (hK _ ?_);clear hK K)|refine J.of rfl ?_|(with_reducible refine aq.aH (fun h =>?_) (fun h =>?_) <;>try simp only[h])) <;>try simp only[aK,R,simprocAttr])
  all_goals clear R
  refine .gN [3] _ rfl hN ?_ ?_ ?_
  ·simp[a6,bV,cD,au,fR,ak,mG,iE,ec]
  ·simp[bE,cJ]
  ·try simp only[fF,zz9,zx3,ez,ab,simprocAttr]
   have R:=ez
   repeat' ((first |(with_reducible refine .guard (fun hb =>?_) (fun hb =>?_) <;>try simp only[hb])|refine J.aI (by decide +kernel) rfl fun K hK =>?_|(refine .ay [0,1,2,3,6,7,8,9,13,20] hK ?_;clear hK K)|(with_reducible refine .done (hK _ ?_);clear hK K)|refine J.of rfl ?_|(with_reducible refine aq.aH (fun h =>?_) (fun h =>?_) <;>try simp only[h])) <;>try simp only[aK,R,simprocAttr])
   all_goals clear R
 ·have hn:=mc he;have R:=u8 @hn (u8 @he (u8 @iJ ez))
  repeat' ((first |(with_reducible refine .guard (fun hb =>?_) (fun hb =>?_) <;>try simp only[hb])|refine J.aI (by decide +kernel) rfl fun K hK =>?_|refine .flat _ (hM) rfl ?_|refine .flat _ (hC) rfl ?_|(refine .ay [0,1,2,3,6,7,8,9,13,20] hK ?_;clear hK K)|(with_reducible refine .done (hK _ ?_);clear hK K)|refine J.of rfl ?_|(with_reducible refine aq.aH (fun h =>?_) (fun h =>?_) <;>try simp only[h])) <;>try simp only[aK,R,simprocAttr])
  all_goals clear R
  all_goals rfl
def eX{α:Type}(f:α→Int)(l:List α)(x:α):List α:=(l.takeWhile fun a=>decide (f a≤f x))++x::l.dropWhile fun a=>decide (f a≤f x)
def fw{α:Type}(f:α→Int)(l:List α)(x:α):Bool:=l.any fun a=>decide (f x<f a)
def gL{α:Type}(f:α→Int)(l:List α)(x:α):List α:=if fw f l x then eX f l x else l
section
variable {α:Type} {f:α→Int}
theorem I2{x:α} : ∀ {l:List α},fw f l x=false→eX f l x=l++[x]
 | [],_=>by simp[eX]
 |a::l,h=>by
  simp only[fw,List.any_cons,Bool.or_eq_false_iff,decide_eq_false_iff_not] at h;have ha:f a≤f x:=by omega
  have e:eX f (a::l) x=a::eX f l x:=by simp[eX,ha]
  rw[e,I2 (l:=l) (by simpa[fw] using h.2)];rfl
theorem I4{x:α}(y:α):∀ {l:List α},fw f l x=true→eX f (l++[y]) x=eX f l x++[y]
 | [],h=>by simp[fw] at h
 |a::l,h=>by
  by_cases ha:f a≤f x
  ·have h2:fw f l x=true:=by
    simp only[fw,List.any_cons,Bool.or_eq_true,decide_eq_true_eq] at h;rcases h with h | h
    ·omega
    ·exact h
   have e:∀ m:List α,eX f (a::m) x=a::eX f m x:=fun m=>by simp[eX,ha]
   rw[zy1,e,e,I4 y h2];rfl
  ·simp[eX,ha]
theorem I1{x y:α}(hy:f x<f y):∀ {l:List α},fw f l x=false→eX f (l++[y]) x=l++[x,y]
 | [],_=>by simp[eX,show ¬ f y≤f x by omega]
 |a::l,h=>by
  simp only[fw,List.any_cons,Bool.or_eq_false_iff,decide_eq_false_iff_not] at h;have ha:f a≤f x:=by omega
  have e:∀ m:List α,eX f (a::m) x=a::eX f m x:=fun m=>by simp[eX,ha]
  rw[zy1,e,I1 hy (by simpa[fw] using h.2)];rfl
theorem vv{l:List α}{x:α}{i:Nat}(h:i<l.length):fw f (l.take (i+1)) x=(fw f (l.take i) x||decide (f x<f l[i])):=by
 simp only[fw,zy2 h,List.any_append,List.any_cons,List.any_nil,Bool.or_false]
theorem C2{l:List α}{x:α}{i:Nat}(h:i<l.length):gL f (l.take (i+1)) x=(if (!fw f (l.take i) x&&decide (f x<f l[i]))=true then gL f (l.take i) x++[x] else gL f (l.take i) x)++[l[i]]:=by
 have e:=zy2 h;simp only[gL,vv h];cases ha:fw f (l.take i) x
 ·by_cases hx:f x<f l[i]
  ·simp only[hx,decide_true,Bool.or_true,if_true,Bool.not_false,Bool.and_true,zz6,if_false];rw[e,I1 hx ha];simp
  ·simp only[hx,decide_false,Bool.or_false,Bool.and_false,if_false,zz6];exact e
 ·simp only[Bool.true_or,if_true,Bool.not_true,Bool.false_and,zz6,if_false];rw[e,I4 _ ha]
theorem C0(l:List α)(x:α):(if fw f l x then gL f l x else gL f l x++[x])=eX f l x:=by
 simp only[gL];cases h:fw f l x
 ·simp only[zz6,if_false];exact (I2 h).symm
 ·simp only[if_true]
theorem I0(l:List α)(x:α):(eX f l x).length=l.length+1:=by
 have h:(l.takeWhile fun a=>decide (f a≤f x))++(l.dropWhile fun a=>decide (f a≤f x))=l:=List.takeWhile_append_dropWhile;have h2:=congrArg List.length h;simp only[eX,zz7,zv9] at h2 ⊢;omega
theorem C1(l:List α)(x:α):(gL f l x).length≤l.length+1:=by
 simp only[gL];split
 ·rw[I0];omega
 ·omega
end
theorem Ph(bs:List ao)(b:ao):eO bs b=eX (·.no) bs b:=rfl
def p8(bs:List ao)(no:Int):Int:=match bs.findIdx? fun b=>decide (b.no=no) with
 |some i=>i
 |none=>-1
theorem mC(bs:List ao)(no:Int):aB Tryz.prog 93 [enc bs,enc no] (enc (p8 bs no)):=by
 refine aB.bu Tryz.func93 R6 T0 V8 (zz0 rfl) (fun hwf W0 D0 E1 =>?_);simp only[Cz,Ma,bl,zz4];have hlen:bs.length≤maxLen:=((lE bs).1 hwf.1).1;simp only[maxLen] at hlen;clear hwf;have R:=u8 @bB (u8 @aN @ab)
 repeat' ((first |(with_reducible refine .guard (fun hb =>?_) (fun hb =>?_) <;>try simp only[hb])|refine J.aI (by decide +kernel) rfl fun K hK =>?_|(refine .ay [0,1,4,5,9,18] hK ?_;clear hK K)|(with_reducible refine .done (hK _ ?_);clear hK K)|refine J.of rfl ?_|(with_reducible refine aq.aH (fun h =>?_) (fun h =>?_) <;>try simp only[h])) <;>try simp only[aK,R,simprocAttr])
 all_goals clear R
 refine J.loop (fun i:Nat=>au [(0,enc bs),(1,.int .i64 no),(5,.int .i64 i)] []) (fun i=>i≤bs.length∧∀ x∈bs.take i,decide (x.no=no)=false) (fun i=>bs.length-i) 0 ⟨zv1 _,by simp⟩ ?_ (fun i hi =>?_)
 ·refine aF.cq ?_ ?_ ?_ ?_ <;>simp[aY,b7,bY,bE,aZ,I.only,bK]
 obtain ⟨hi1,hi2⟩:=hi;by_cases hlt:i<bs.length
 ·have hc:=fT hlt;have he:=fun A=>eL (A:=A) 9 hlt rfl;have hw:=fc (i:=i) (by omega);rcases hp:((bs[i]).no==no)
  ·have R:=u8 @hc (u8 @he (u8 @hp (u8 @hw (u8 @bB (u8 @aN (u8 @fA @ab))))))
   repeat' ((first |(with_reducible refine .guard (fun hb =>?_) (fun hb =>?_) <;>try simp only[hb])|refine J.aI (by decide +kernel) rfl fun K hK =>?_|(refine .ay [0,1,4,5,9,18] hK ?_;clear hK K)|(with_reducible refine .done (hK _ ?_);clear hK K)|refine J.of rfl ?_|(with_reducible refine aq.aH (fun h =>?_) (fun h =>?_) <;>try simp only[h])) <;>try simp only[aK,R,simprocAttr])
   all_goals clear R
   refine ⟨i+1,⟨by omega,fun x hm =>?_⟩,by omega,?_⟩
   ·rw[zy2 hlt] at hm;rcases zy6.1 hm with hm | hm
    ·exact hi2 x hm
    ·simp at hm;rw[hm];simpa using hp
   ·refine aF.cq ?_ ?_ ?_ ?_ <;>simp[aY,b7,bY,bE,aZ,I.only,bK]
  ·have R:=u8 @hc (u8 @he (u8 @hp (u8 @bB (u8 @aN (u8 @fA @ab)))))
   repeat' ((first |(with_reducible refine .guard (fun hb =>?_) (fun hb =>?_) <;>try simp only[hb])|refine J.aI (by decide +kernel) rfl fun K hK =>?_|(refine .ay [0,1,4,5,9,18] hK ?_;clear hK K)|(with_reducible refine .done (hK _ ?_);clear hK K)|refine J.of rfl ?_|(with_reducible refine aq.aH (fun h =>?_) (fun h =>?_) <;>try simp only[h])) <;>try simp only[aK,R,simprocAttr])
   all_goals clear R
   have:bs.findIdx? (fun b=>decide (b.no=no))=some i:=td hlt hi2 (by simpa using hp);simp[p8,this]
 ·have hc:=ga hlt;have hge:i=bs.length:=by omega
  subst hge;have R:=u8 @hc (u8 @bB (u8 @aN @ab))
  repeat' ((first |(with_reducible refine .guard (fun hb =>?_) (fun hb =>?_) <;>try simp only[hb])|refine J.aI (by decide +kernel) rfl fun K hK =>?_|(refine .ay [0,1,4,5,9,18] hK ?_;clear hK K)|(with_reducible refine .done (hK _ ?_);clear hK K)|refine J.of rfl ?_|(with_reducible refine aq.aH (fun h =>?_) (fun h =>?_) <;>try simp only[h])) <;>try simp only[aK,R,simprocAttr])
  all_goals clear R
  rw[List.take_length] at hi2;simp[p8,tc hi2]
theorem Oo(bs:List ao)(b:ao)(hn:bs.length≤100):aB Tryz.prog 170 [enc bs,enc b] (enc (eO bs b)):=by
 refine aB.bu Tryz.func170 Rc S5 Ve (zz0 rfl) (fun hwf W0 D0 E1 =>?_);simp only[BE,Le,bl,zz4];clear hwf;rw[Ph];have R:=u8 @bB (u8 @aN @ab)
 repeat' ((first |(with_reducible refine .guard (fun hb =>?_) (fun hb =>?_) <;>try simp only[hb])|refine J.aI (by decide +kernel) rfl fun K hK =>?_|(refine .ay [0,1,3,4,5,6,7,11,25,38] hK ?_;clear hK K)|(with_reducible refine .done (hK _ ?_);clear hK K)|refine J.of rfl ?_|(with_reducible refine aq.aH (fun h =>?_) (fun h =>?_) <;>try simp only[h])) <;>try simp only[aK,R,simprocAttr])
 all_goals clear R
 refine J.loop (fun i:Nat=>au [(0,enc bs),(3,.ptr 3 []),(5,.own 905 (gL (·.no) (bs.take i) b).length),(6,.bool (fw (·.no) (bs.take i) b)),(7,.int .i64 i)] [(3,.box (enc b)),(905,.bR 78 9 ((gL (·.no) (bs.take i) b).map enc))]) (fun i=>i≤bs.length) (fun i=>bs.length-i) 0 (zv1 _) ?_ (fun i hi =>?_)
 ·refine aF.ou 5 905 78 9 9 rfl rfl ?_;simp only[List.take_zero,gL,fw,List.any_nil,zz6,if_false,zx3,List.length_nil];refine aF.cq ?_ ?_ ?_ ?_ <;>simp[aY,b7,bY,bE,av,aZ,cZ,I.only,I.bZ,aj.only,bK]
 have hcl:=C1 (f:=(·.no)) (bs.take i) b;have htl:(bs.take i).length≤100:=by rw[zy8];omega
 by_cases hlt:i<bs.length
 ·have hc:=fT hlt;have he:=fun A=>eL (A:=A) 9 hlt rfl;have hw:=fc (i:=i) (by omega);have hs:=C2 (f:=(·.no)) (x:=b) hlt;have ha:=vv (f:=(·.no)) (x:=b) hlt;generalize gL (·.no) (bs.take i) b=xs at hcl hs ⊢;generalize fw (·.no) (bs.take i) b=ay at hs ha ⊢;have happ:=fun (A:af) d rest (es:List ao) (hes:es.length≤102) (y:ao)=>kS (α:=ao) (A:=A) (d:=d) 78 9 88 905 (l:=es.length) (es:=es) (ys:=[y]) (rest:=rest) rfl rfl (by simp) (by simp[maxLen];omega) (by simp;omega);have hap1:=fun (A:af) d rest=>happ A d rest xs (by omega) b;have hap2:=fun (A:af) d rest=>happ A d rest (xs++[b]) (by simp;omega) (bs[i]);have hap3:=fun (A:af) d rest=>happ A d rest xs (by omega) (bs[i]);have hbs:=fun y:ao=>pL 9 y rfl;rcases hp:decide (b.no<(bs[i]).no) <;>cases ay
  all_goals
   have R:=u8 @hc (u8 @he (u8 @hp (u8 @hw (u8 @hap1 (u8 @hap2 (u8 @hap3 (u8 @hbs (u8 @bB (u8 @aN (u8 @fA @ab))))))))))
   repeat' ((first |(with_reducible refine .guard (fun hb =>?_) (fun hb =>?_) <;>try simp only[hb])|refine J.aI (by decide +kernel) rfl fun K hK =>?_|(refine .ay [0,1,3,4,5,6,7,11,25,38] hK ?_;clear hK K)|(with_reducible refine .done (hK _ ?_);clear hK K)|refine J.of rfl ?_|(with_reducible refine aq.aH (fun h =>?_) (fun h =>?_) <;>try simp only[h])) <;>try simp only[aK,R,simprocAttr])
   all_goals clear R
   simp only[hp,Bool.not_true,Bool.not_false,Bool.and_true,Bool.and_false,if_true,zz6,if_false,Bool.or_true,Bool.or_false] at hs ha;refine ⟨i+1,by omega,by omega,?_⟩;simp only[hs,ha];refine aF.cq ?_ ?_ ?_ ?_ <;>simp[aY,b7,bY,bE,av,aZ,cZ,I.only,I.bZ,aj.only,eI,jO,bK]
 ·have hc:=ga hlt;have hge:i=bs.length:=by omega
  subst hge;rw[←C0];rw[List.take_length] at hcl ⊢;generalize gL (·.no) bs b=xs at hcl ⊢;have hap1:=fun (A:af) d rest=>kS (α:=ao) (A:=A) (d:=d) 78 9 88 905 (l:=xs.length) (es:=xs) (ys:=[b]) (rest:=rest) rfl rfl (by simp) (by simp[maxLen];omega) (by simp;omega);have hbs:=fun y:ao=>pL 9 y rfl;have hfo:=fun xs:List ao=>oF (k:=xs.length) (T:=78) (es:=xs) 9 rfl rfl;cases fw (·.no) bs b
  all_goals
   have R:=u8 @hc (u8 @hap1 (u8 @hbs (u8 @hfo (u8 @bB (u8 @aN @ab)))))
   repeat' ((first |(with_reducible refine .guard (fun hb =>?_) (fun hb =>?_) <;>try simp only[hb])|refine J.aI (by decide +kernel) rfl fun K hK =>?_|(refine .ay [0,1,3,4,5,6,7,11,25,38] hK ?_;clear hK K)|(with_reducible refine .done (hK _ ?_);clear hK K)|refine J.of rfl ?_|(with_reducible refine aq.aH (fun h =>?_) (fun h =>?_) <;>try simp only[h])) <;>try simp only[aK,R,simprocAttr])
   all_goals clear R
def iT(l:List Int)(x:Int):List Int:=if x∈l then l else eX id l x
theorem N7(l:List Int)(x:Int)(hn:l.length≤200):aB Tryz.prog 140 [enc l,enc x] (enc (iT l x)):=by
 refine aB.bu Tryz.func140 QS SJ US (zz0 rfl) (fun hwf W0 D0 E1 =>?_);simp only[Bi,KT,bl,zz4];clear hwf;have R:=u8 @bB (u8 @aN @ab)
 repeat' ((first |(with_reducible refine .guard (fun hb =>?_) (fun hb =>?_) <;>try simp only[hb])|refine J.aI (by decide +kernel) rfl fun K hK =>?_|(refine .ay [0,1,4,5,6,7,11,19,30,43] hK ?_;clear hK K)|(with_reducible refine .done (hK _ ?_);clear hK K)|refine J.of rfl ?_|(with_reducible refine aq.aH (fun h =>?_) (fun h =>?_) <;>try simp only[h])) <;>try simp only[aK,R,simprocAttr])
 all_goals clear R
 refine J.loop (fun i:Nat=>au [(0,enc l),(1,.int .i64 x),(5,.own 905 (gL id (l.take i) x).length),(6,.bool (fw id (l.take i) x)),(7,.int .i64 i)] [(905,.bR 3 1 ((gL id (l.take i) x).map enc))]) (fun i=>i≤l.length∧x∉l.take i) (fun i=>l.length-i) 0 ⟨zv1 _,by simp⟩ ?_ (fun i hi =>?_)
 ·refine aF.ou 5 905 3 1 1 rfl rfl ?_;simp only[List.take_zero,gL,fw,List.any_nil,zz6,if_false,zx3,List.length_nil];refine aF.cq ?_ ?_ ?_ ?_ <;>simp[aY,b7,bY,bE,av,aZ,cZ,I.only,I.bZ,aj.only,bK]
 obtain ⟨hi,hx⟩:=hi;have hcl:=C1 (f:=id) (l.take i) x;have htl:(l.take i).length≤200:=by rw[zy8];omega
 by_cases hlt:i<l.length
 ·have hc:=fT hlt;have he:=fun A=>eL (A:=A) 1 hlt rfl;have hw:=fc (i:=i) (by omega);rcases heq:(l[i]==x)
  case true =>
   have hm:x∈l:=by
    have:l[i]=x:=by simpa using heq
    rw[←this];exact zx6 hlt
   have R:=u8 @hc (u8 @he (u8 @heq (u8 @bB (u8 @aN @ab))))
   repeat' ((first |(with_reducible refine .guard (fun hb =>?_) (fun hb =>?_) <;>try simp only[hb])|refine J.aI (by decide +kernel) rfl fun K hK =>?_|(refine .ay [0,1,4,5,6,7,11,19,30,43] hK ?_;clear hK K)|(with_reducible refine .done (hK _ ?_);clear hK K)|refine J.of rfl ?_|(with_reducible refine aq.aH (fun h =>?_) (fun h =>?_) <;>try simp only[h])) <;>try simp only[aK,R,simprocAttr])
   all_goals clear R
   simp[iT,hm]
  have hs:=C2 (f:=id) (x:=x) hlt;have ha:=vv (f:=id) (x:=x) hlt;generalize gL id (l.take i) x=xs at hcl hs ⊢;generalize fw id (l.take i) x=ay at hs ha ⊢;have happ:=fun (A:af) d rest (es:List Int) (hes:es.length≤202) (y:Int)=>kS (α:=Int) (A:=A) (d:=d) 3 1 8 905 (l:=es.length) (es:=es) (ys:=[y]) (rest:=rest) rfl rfl (by simp) (by simp[maxLen];omega) (by simp;omega);have hap1:=fun (A:af) d rest=>happ A d rest xs (by omega) x;have hap2:=fun (A:af) d rest=>happ A d rest (xs++[x]) (by simp;omega) (l[i]);have hap3:=fun (A:af) d rest=>happ A d rest xs (by omega) (l[i]);have hx2:x∉l.take (i+1):=by
   rw[zy2 hlt,zy6,not_or];refine ⟨hx,?_⟩;have:¬ l[i]=x:=by simpa using heq
   simpa using fun e=>this e.symm
  rcases hp:decide (x<l[i]) <;>cases ay
  all_goals
   have R:=u8 @hc (u8 @he (u8 @heq (u8 @hp (u8 @hw (u8 @hap1 (u8 @hap2 (u8 @hap3 (u8 @lL (u8 @bB (u8 @aN @ab))))))))))
   repeat' ((first |(with_reducible refine .guard (fun hb =>?_) (fun hb =>?_) <;>try simp only[hb])|refine J.aI (by decide +kernel) rfl fun K hK =>?_|(refine .ay [0,1,4,5,6,7,11,19,30,43] hK ?_;clear hK K)|(with_reducible refine .done (hK _ ?_);clear hK K)|refine J.of rfl ?_|(with_reducible refine aq.aH (fun h =>?_) (fun h =>?_) <;>try simp only[h])) <;>try simp only[aK,R,simprocAttr])
   all_goals clear R
   simp only[id,hp,Bool.not_true,Bool.not_false,Bool.and_true,Bool.and_false,if_true,zz6,if_false,Bool.or_true,Bool.or_false] at hs ha;refine ⟨i+1,⟨by omega,hx2⟩,by omega,?_⟩;simp only[hs,ha];refine aF.cq ?_ ?_ ?_ ?_ <;>simp[aY,b7,bY,bE,av,aZ,cZ,I.only,I.bZ,aj.only,eI,jO,bK,fY]
 ·have hc:=ga hlt;have hge:i=l.length:=by omega
  subst hge;rw[List.take_length] at hcl hx ⊢;rw[iT,if_neg hx,←C0];generalize gL id l x=xs at hcl ⊢;have hap1:=fun (A:af) d rest=>kS (α:=Int) (A:=A) (d:=d) 3 1 8 905 (l:=xs.length) (es:=xs) (ys:=[x]) (rest:=rest) rfl rfl (by simp) (by simp[maxLen];omega) (by simp;omega);have hfo:=fun xs:List Int=>oF (k:=xs.length) (T:=3) (es:=xs) 1 rfl rfl;cases fw id l x
  all_goals
   have R:=u8 @hc (u8 @hap1 (u8 @hfo (u8 @lL (u8 @bB (u8 @aN @ab)))))
   repeat' ((first |(with_reducible refine .guard (fun hb =>?_) (fun hb =>?_) <;>try simp only[hb])|refine J.aI (by decide +kernel) rfl fun K hK =>?_|(refine .ay [0,1,4,5,6,7,11,19,30,43] hK ?_;clear hK K)|(with_reducible refine .done (hK _ ?_);clear hK K)|refine J.of rfl ?_|(with_reducible refine aq.aH (fun h =>?_) (fun h =>?_) <;>try simp only[h])) <;>try simp only[aK,R,simprocAttr])
   all_goals clear R
def ir(l:List Int):List Int:=l.foldl iT []
theorem Pk(l:List Int)(x:Int):(iT l x).length≤l.length+1:=by
 simp only[iT];split
 ·omega
 ·rw[I0];omega
theorem DU:∀ (l o:List Int),(l.foldl iT o).length≤o.length+l.length
 | [],o=>by simp
 |x::l,o=>by
  have h1:=DU l (iT o x);have h2:=Pk o x;simp only[List.foldl_cons,zv9];omega
theorem Ae(l:List Int)(hn:l.length≤150):aB Tryz.prog 97 [enc l] (enc (ir l)):=by
 refine aB.bu Tryz.func97 Sa T6 Wc (zz0 rfl) (fun hwf W0 D0 E1 =>?_);simp only[CD,Me,bl];clear hwf;have R:=u8 @bB (u8 @aN @ab)
 repeat' ((first |(with_reducible refine .guard (fun hb =>?_) (fun hb =>?_) <;>try simp only[hb])|refine J.aI (by decide +kernel) rfl fun K hK =>?_|(refine .ay [0,2,3,4,8] hK ?_;clear hK K)|(with_reducible refine .done (hK _ ?_);clear hK K)|refine J.of rfl ?_|(with_reducible refine aq.aH (fun h =>?_) (fun h =>?_) <;>try simp only[h])) <;>try simp only[aK,R,simprocAttr])
 all_goals clear R
 refine J.loop (fun i:Nat=>au [(0,enc l),(3,enc (ir (l.take i))),(4,.int .i64 i)] []) (fun i=>i≤l.length) (fun i=>l.length-i) 0 (zv1 _) ?_ (fun i hi =>?_)
 ·refine aF.oI [] 3 (x:=.nils 1) (y:=enc ([]:List Int)) rfl (by rfl) ?_ ?_ ?_ ?_ ?_ <;>simp[cJ,bE,aY,b7,bY,fF,aZ,I.only,bK,ir]
 by_cases hlt:i<l.length
 ·have hc:=fT hlt;have he:=fun A=>eL (A:=A) 1 hlt rfl;have hw:=fc (i:=i) (by omega);have hs:ir (l.take (i+1))=iT (ir (l.take i)) l[i]:=by
   simp only[ir];rw[zy2 hlt,List.foldl_append];rfl
  have hl:=DU (l.take i) [];have hF:=N7 (ir (l.take i)) l[i] (by rw[zy8] at hl;simp only[ir,List.length_nil] at hl ⊢;omega);have R:=u8 @hc (u8 @he (u8 @hw (u8 @bB (u8 @aN @ab))))
  repeat' ((first |(with_reducible refine .guard (fun hb =>?_) (fun hb =>?_) <;>try simp only[hb])|refine J.aI (by decide +kernel) rfl fun K hK =>?_|refine .lead _ (hF) ?_|(refine .ay [0,2,3,4,8] hK ?_;clear hK K)|(with_reducible refine .done (hK _ ?_);clear hK K)|refine J.of rfl ?_|(with_reducible refine aq.aH (fun h =>?_) (fun h =>?_) <;>try simp only[h])) <;>try simp only[aK,R,simprocAttr])
  all_goals clear R
  refine ⟨i+1,by omega,by omega,?_⟩;rw[hs];refine aF.cq ?_ ?_ ?_ ?_ <;>simp[aY,b7,bY,bE,aZ,I.only,bK]
 ·have hc:=ga hlt;have hge:i=l.length:=by omega
  subst hge;rw[List.take_length];have R:=u8 @hc (u8 @bB (u8 @aN @ab))
  repeat' ((first |(with_reducible refine .guard (fun hb =>?_) (fun hb =>?_) <;>try simp only[hb])|refine J.aI (by decide +kernel) rfl fun K hK =>?_|(refine .ay [0,2,3,4,8] hK ?_;clear hK K)|(with_reducible refine .done (hK _ ?_);clear hK K)|refine J.of rfl ?_|(with_reducible refine aq.aH (fun h =>?_) (fun h =>?_) <;>try simp only[h])) <;>try simp only[aK,R,simprocAttr])
  all_goals clear R
theorem mQ(bs:List ao)(no:Int):(cI bs no=none∧p8 bs no=-1)∨∃ i,∃ h:i<bs.length,cI bs no=some bs[i]∧(bs[i]).no=no∧p8 bs no=(i:Int):=by
 have e:(fun b:ao=>decide (no=b.no))=fun b:ao=>decide (b.no=no):=by
  funext b;rw[Bool.eq_iff_iff];simp[eq_comm]
 have h1:=tt (bs:=bs) (no:=no);rw[List.findIdx?_map] at h1;have e2:(((fun x=>decide (no=x))∘fun b:ao=>b.no))=fun b:ao=>decide (b.no=no):=e;rw[e2] at h1;simp only[p8];cases h:bs.findIdx? fun b=>decide (b.no=no) with
 |none=>rw[h] at h1;exact .inl ⟨h1,rfl⟩
 |some i =>
  rw[h] at h1;obtain ⟨hi,g1,g2⟩:=h1;exact .inr ⟨i,hi,g1,g2,rfl⟩
def eb(bs:List ao)(x:ar):List ao×Bool:=match cX eO bs x with
 |some bs'=>(bs',true)
 |none=>(bs,false)
theorem vG(a b c d e f g:Int):eJ [.int .i64 0,.int .i64 0,.int .i64 0,.int .i64 0,.int .i64 0,.int .i64 0,.int .i64 0,.bool false,.nils 6] [(0,.int .i64 a),(1,.int .i64 b),(2,.int .i64 c),(3,.int .i64 d),(4,.int .i64 e),(5,.int .i64 f),(6,.int .i64 g)] =
  some [.int .i64 a,.int .i64 b,.int .i64 c,.int .i64 d,.int .i64 e,.int .i64 f,.int .i64 g,.bool false,.nils 6]:=by simp[eJ,I.cn,I.size]
theorem Yb(aD:Bool)(A:af)(x:ar):a6 aD A (.agg [.int .i64 x.cG,.int .i64 x.cd,.int .i64 x.cm,.int .i64 x.bx,.int .i64 x.bx,.int .i64 x.day,.int .i64 (-1),.bool false,.nils 6])=some (enc (eH x)):=by
 simp[a6,bV];rfl
theorem s8{a b:Int}(h:a=b):(a==b)=true:=by simp[h]
theorem gP{a b:Int}(h:¬ a=b):(a==b)=false:=by simp[h]
theorem NX(bs:List ao)(x:ar)(hn:bs.length≤99)(hk:x.kind=1∨x.kind=2)(ae:0≤x.cm):aB Tryz.prog 132 [enc bs,enc x] (.tuple [enc (eb bs x).1,enc (eb bs x).2]):=by
 have hk3:∀ n:Int,n≠1→n≠2→(x.kind==n)=false:=fun n h1 h2=>gP (by omega);have hk0:=hk;refine aB.bu Tryz.func132 pN pP pT (zz0 rfl) (fun hwf W0 D0 E1 =>?_);simp only[oA,o6,bl,zz4];clear hwf;have hF1:=mC bs x.cG;have hF2:=mC bs x.cm;have hF3:=Oo bs (eH x) (by omega);have hfn:=fun (aD:Bool) A=>Yb aD A x;have hg1:decide ((0:Int)≤-1)=false:=rfl;have hg2:decide ((-1:Int)<0)=true:=rfl;rcases h1:(x.kind==1) <;>rcases h2:(x.kind==2)
 ·exfalso;simp at h1 h2;omega
 case true.true=>exfalso;simp at h1 h2;omega
 all_goals
  rcases mQ bs x.cG with ⟨g1,e1⟩ | ⟨i,hi,g1,-,e1⟩
  case inr =>
   rw[e1] at hF1;have ht:eb bs x=(bs,false):=by simp[eb,cX,hk,g1]
   rw[ht];have R:=u8 @h1 (u8 @h2 (u8 @aN (u8 @bB (u8 @cA @ab))))
   repeat' ((first |(with_reducible refine .guard (fun hb =>?_) (fun hb =>?_) <;>try simp only[hb])|refine J.aI (by decide +kernel) rfl fun K hK =>?_|refine .flat _ (hF1) rfl ?_|(refine .ay [0,1,3,4,5,6,7,8,9,10,22,24,28,62,81,88,89,105,110,121,127,131] hK ?_;clear hK K)|(with_reducible refine .done (hK _ ?_);clear hK K)|refine J.of rfl ?_|(with_reducible refine aq.aH (fun h =>?_) (fun h =>?_) <;>try simp only[h])) <;>try simp only[aK,R,decide_true,Nat.reduceEqDiff,reduceIte,Nat.reduceBEq])
   all_goals clear R
  rw[e1] at hF1;by_cases hd0:x.cm=0
  ·have hq:(x.cm != 0)=false:=by simp[hd0]
   have ht:eb bs x=(eO bs (eH x),true):=by simp[eb,cX,hk,g1,fr,hd0]
   rw[ht];have R:=u8 @h1 (u8 @h2 (u8 @hg1 (u8 @hq (u8 @hfn (u8 @vG (u8 @aN (u8 @bB (u8 @cA @ab))))))))
   repeat' ((first |(with_reducible refine .guard (fun hb =>?_) (fun hb =>?_) <;>try simp only[hb])|refine J.aI (by decide +kernel) rfl fun K hK =>?_|refine .flat _ (hF1) rfl ?_|refine .lead _ (hF3) ?_|(refine .ay [0,1,3,4,5,6,7,8,9,10,22,24,28,62,81,88,89,105,110,121,127,131] hK ?_;clear hK K)|(with_reducible refine .done (hK _ ?_);clear hK K)|refine J.of rfl ?_|(with_reducible refine aq.aH (fun h =>?_) (fun h =>?_) <;>try simp only[h])) <;>try simp only[aK,R,Nat.reduceEqDiff,reduceIte,Nat.reduceBEq])
   all_goals clear R
  ·have hq:(x.cm != 0)=true:=by simpa using hd0
   have hq2:¬ x.cm≤0:=by omega
   rcases mQ bs x.cm with ⟨g2,e2⟩ | ⟨k,hk2,g2,-,e2⟩
   ·rw[e2] at hF2;have ht:eb bs x=(bs,false):=by simp[eb,cX,hk,g1,fr,g2,hq2]
    rw[ht];have R:=u8 @h1 (u8 @h2 (u8 @hg1 (u8 @hg2 (u8 @hq (u8 @aN (u8 @bB (u8 @cA @ab)))))))
    repeat' ((first |(with_reducible refine .guard (fun hb =>?_) (fun hb =>?_) <;>try simp only[hb])|refine J.aI (by decide +kernel) rfl fun K hK =>?_|refine .flat _ (hF1) rfl ?_|refine .flat _ (hF2) rfl ?_|(refine .ay [0,1,3,4,5,6,7,8,9,10,22,24,28,62,81,88,89,105,110,121,127,131] hK ?_;clear hK K)|(with_reducible refine .done (hK _ ?_);clear hK K)|refine J.of rfl ?_|(with_reducible refine aq.aH (fun h =>?_) (fun h =>?_) <;>try simp only[h])) <;>try simp only[aK,R,Nat.reduceEqDiff,reduceIte,Nat.reduceBEq])
    all_goals clear R
   ·rw[e2] at hF2;have hg3:decide ((k:Int)<0)=false:=by simp
    have he:=fun A=>eL (A:=A) 9 hk2 rfl;rcases q1:((bs[k]).cd != x.cd)
    case true =>
     have ht:eb bs x=(bs,false):=by
      have q1':¬ (bs[k]).cd=x.cd:=by simpa using q1
      simp[eb,cX,hk,g1,fr,g2,hq2,q1']
     rw[ht];have R:=u8 @h1 (u8 @h2 (u8 @hg1 (u8 @hg3 (u8 @hq (u8 @he (u8 @q1 (u8 @aN (u8 @fA (u8 @bB (u8 @cA @ab))))))))))
     repeat' ((first |(with_reducible refine .guard (fun hb =>?_) (fun hb =>?_) <;>try simp only[hb])|refine J.aI (by decide +kernel) rfl fun K hK =>?_|refine .flat _ (hF1) rfl ?_|refine .flat _ (hF2) rfl ?_|(refine .ay [0,1,3,4,5,6,7,8,9,10,22,24,28,62,81,88,89,105,110,121,127,131] hK ?_;clear hK K)|(with_reducible refine .done (hK _ ?_);clear hK K)|refine J.of rfl ?_|(with_reducible refine aq.aH (fun h =>?_) (fun h =>?_) <;>try simp only[h])) <;>try simp only[aK,R,Nat.reduceEqDiff,reduceIte,Nat.reduceBEq])
     all_goals clear R
    have q1':(bs[k]).cd=x.cd:=by simpa using q1
    rcases q2:decide (0≤(bs[k]).cu)
    case false =>
     have ht:eb bs x=(eO bs (eH x),true):=by
      have q2':¬ 0≤(bs[k]).cu:=by simpa using q2
      simp[eb,cX,hk,g1,fr,g2,hq2,q1',q2']
     rw[ht];have R:=u8 @h1 (u8 @h2 (u8 @hg1 (u8 @hg3 (u8 @hq (u8 @he (u8 @q1 (u8 @q2 (u8 @hfn (u8 @vG (u8 @aN (u8 @fA (u8 @bB (u8 @cA @ab)))))))))))))
     repeat' ((first |(with_reducible refine .guard (fun hb =>?_) (fun hb =>?_) <;>try simp only[hb])|refine J.aI (by decide +kernel) rfl fun K hK =>?_|refine .flat _ (hF1) rfl ?_|refine .flat _ (hF2) rfl ?_|refine .lead _ (hF3) ?_|(refine .ay [0,1,3,4,5,6,7,8,9,10,22,24,28,62,81,88,89,105,110,121,127,131] hK ?_;clear hK K)|(with_reducible refine .done (hK _ ?_);clear hK K)|refine J.of rfl ?_|(with_reducible refine aq.aH (fun h =>?_) (fun h =>?_) <;>try simp only[h])) <;>try simp only[aK,R,Nat.reduceEqDiff,reduceIte,Nat.reduceBEq])
     all_goals clear R
    have q2':0≤(bs[k]).cu:=by simpa using q2
    rcases q3:decide ((bs[k]).cu<x.day)
    ·have ht:eb bs x=(eO bs (eH x),true):=by
      have q3':¬ (bs[k]).cu<x.day:=by simpa using q3
      simp[eb,cX,hk,g1,fr,g2,hq2,q1',q2',q3']
     rw[ht];have R:=u8 @h1 (u8 @h2 (u8 @hg1 (u8 @hg3 (u8 @hq (u8 @he (u8 @q1 (u8 @q2 (u8 @q3 (u8 @hfn (u8 @vG (u8 @aN (u8 @fA (u8 @bB (u8 @cA @ab))))))))))))))
     repeat' ((first |(with_reducible refine .guard (fun hb =>?_) (fun hb =>?_) <;>try simp only[hb])|refine J.aI (by decide +kernel) rfl fun K hK =>?_|refine .flat _ (hF1) rfl ?_|refine .flat _ (hF2) rfl ?_|refine .lead _ (hF3) ?_|(refine .ay [0,1,3,4,5,6,7,8,9,10,22,24,28,62,81,88,89,105,110,121,127,131] hK ?_;clear hK K)|(with_reducible refine .done (hK _ ?_);clear hK K)|refine J.of rfl ?_|(with_reducible refine aq.aH (fun h =>?_) (fun h =>?_) <;>try simp only[h])) <;>try simp only[aK,R,Nat.reduceEqDiff,reduceIte,Nat.reduceBEq])
     all_goals clear R
    ·have ht:eb bs x=(bs,false):=by
      have q3':(bs[k]).cu<x.day:=by simpa using q3
      simp[eb,cX,hk,g1,fr,g2,hq2,q1',q2',q3']
     rw[ht];have R:=u8 @h1 (u8 @h2 (u8 @hg1 (u8 @hg3 (u8 @hq (u8 @he (u8 @q1 (u8 @q2 (u8 @q3 (u8 @aN (u8 @fA (u8 @bB (u8 @cA @ab))))))))))))
     repeat' ((first |(with_reducible refine .guard (fun hb =>?_) (fun hb =>?_) <;>try simp only[hb])|refine J.aI (by decide +kernel) rfl fun K hK =>?_|refine .flat _ (hF1) rfl ?_|refine .flat _ (hF2) rfl ?_|(refine .ay [0,1,3,4,5,6,7,8,9,10,22,24,28,62,81,88,89,105,110,121,127,131] hK ?_;clear hK K)|(with_reducible refine .done (hK _ ?_);clear hK K)|refine J.of rfl ?_|(with_reducible refine aq.aH (fun h =>?_) (fun h =>?_) <;>try simp only[h])) <;>try simp only[aK,R,Nat.reduceEqDiff,reduceIte,Nat.reduceBEq])
     all_goals clear R
end Go.Proofs.YtcldiigclhgafaaGreat
