/-
  A part of the proof that the law HerdKnown returns true for every input; conditions: none beyond the statement's own. (part 5 of 7)
-/
import Derived.Shelf.Sort.Plain
import Derived.Shelf.Slices.In.SortNone
import Derived.Test.YtcldiigclhgafaaGreatNbd
set_option linter.unusedSimpArgs false
set_option linter.unusedVariables false
set_option maxHeartbeats 16000000
set_option maxRecDepth 100000
namespace Go.Proofs.YtcldiigclhgafaaGreat
open Go Go.Abs Go.Shelf
open Go.Abs.Enc (enc)
def ais:Go.Shelf.Ren:=⟨fun | 189=>107 | 125=>148 | 257=>147 | 128=>188 | 129=>189 | 294=>179 | 295=>180 | 296=>181 | 297=>182 | 298=>183 | 299=>184 | 216=>185 | 300=>186 | 301=>187 | 328=>205 | 329=>206 | 330=>207 | 331=>208 | 332=>209 | 215=>194 | 343=>214 | n=>n,fun | 28=>29 | 3=>3 | 46=>193 | 0=>0 | 51=>217 | 53=>219 | 4=>4 | 183=>210 | 182=>209 | 131=>150 | 5=>5 | 9=>9 | 218=>230 | 222=>234 | 228=>236 | 229=>237 | n=>n,fun | n=>n⟩
theorem Jd:Go.Proofs.Lays.n189 Tryz.prog ais := {
 mixed:=by kernel_rfl
 f125:=Tryz.func148.trans (congrArg some (by kernel_rfl))
 f128:=Tryz.func188.trans (congrArg some (by kernel_rfl))
 f129:=Tryz.func189.trans (congrArg some (by kernel_rfl))
 f189:=Tryz.func107.trans (congrArg some (by kernel_rfl))
 f215:=Tryz.func194.trans (congrArg some (by kernel_rfl))
 f216:=Tryz.func185.trans (congrArg some (by kernel_rfl))
 f257:=Tryz.func147.trans (congrArg some (by kernel_rfl))
 f294:=Tryz.func179.trans (congrArg some (by kernel_rfl))
 f295:=Tryz.func180.trans (congrArg some (by kernel_rfl))
 f296:=Tryz.func181.trans (congrArg some (by kernel_rfl))
 f297:=Tryz.func182.trans (congrArg some (by kernel_rfl))
 f298:=Tryz.func183.trans (congrArg some (by kernel_rfl))
 f299:=Tryz.func184.trans (congrArg some (by kernel_rfl))
 f300:=Tryz.func186.trans (congrArg some (by kernel_rfl))
 f301:=Tryz.func187.trans (congrArg some (by kernel_rfl))
 f328:=Tryz.func205.trans (congrArg some (by kernel_rfl))
 f329:=Tryz.func206.trans (congrArg some (by kernel_rfl))
 f330:=Tryz.func207.trans (congrArg some (by kernel_rfl))
 f331:=Tryz.func208.trans (congrArg some (by kernel_rfl))
 f332:=Tryz.func209.trans (congrArg some (by kernel_rfl))
 f343:=Tryz.func214.trans (congrArg some (by kernel_rfl))
 t0:=Tryz.underlying0
 a0:=Tryz.isAgg0
 z0:=Tryz.sizeOf0
 v0:=Tryz.zeroValue0
 t3:=Tryz.underlying3
 a3:=Tryz.isAgg3
 z3:=Tryz.sizeOf3
 v3:=Tryz.zeroValue3
 t4:=Tryz.underlying4
 a4:=Tryz.isAgg4
 z4:=Tryz.sizeOf4
 v4:=Tryz.zeroValue4
 t5:=Tryz.underlying5
 a5:=Tryz.isAgg5
 z5:=Tryz.sizeOf5
 v5:=Tryz.zeroValue5
 t9:=Tryz.underlying9
 a9:=Tryz.isAgg9
 z9:=Tryz.sizeOf9
 v9:=Tryz.zeroValue9
 t28:=Tryz.underlying29
 a28:=Tryz.isAgg29
 z28:=Tryz.sizeOf29
 v28:=Tryz.zeroValue29
 t46:=Tryz.underlying193
 a46:=Tryz.isAgg193
 z46:=Tryz.sizeOf193
 v46:=Tryz.zeroValue193
 t51:=Tryz.underlying217
 a51:=Tryz.isAgg217
 z51:=Tryz.sizeOf217
 v51:=Tryz.zeroValue217
 t53:=Tryz.underlying219
 a53:=Tryz.isAgg219
 z53:=Tryz.sizeOf219
 v53:=Tryz.zeroValue219
 t131:=Tryz.underlying150
 a131:=Tryz.isAgg150
 z131:=Tryz.sizeOf150
 v131:=Tryz.zeroValue150
 t182:=Tryz.underlying209
 a182:=Tryz.isAgg209
 z182:=Tryz.sizeOf209
 v182:=Tryz.zeroValue209
 t183:=Tryz.underlying210
 a183:=Tryz.isAgg210
 z183:=Tryz.sizeOf210
 v183:=Tryz.zeroValue210
 t218:=Tryz.underlying230
 a218:=Tryz.isAgg230
 z218:=Tryz.sizeOf230
 v218:=Tryz.zeroValue230
 t222:=Tryz.underlying234
 a222:=Tryz.isAgg234
 z222:=Tryz.sizeOf234
 v222:=Tryz.zeroValue234
 t228:=Tryz.underlying236
 a228:=Tryz.isAgg236
 z228:=Tryz.sizeOf236
 v228:=Tryz.zeroValue236
 t229:=Tryz.underlying237
 a229:=Tryz.isAgg237
 z229:=Tryz.sizeOf237
 v229:=Tryz.zeroValue237 }
def du(xs:List Int):List Int:=xs.mergeSort fun x y=>decide (x≤y)
theorem L6{w:World}{D:aQ}{E:aU} : ∀ {xs:List Int} {cs:List Value},aJ w D E (xs.map enc) cs→cs=xs.map (Value.int .i64)∧∀ x∈xs,IntKind.i64.min≤x∧x≤IntKind.i64.max
 | [],cs,h=>by
  simp only[List.map_nil,aJ] at h
  subst h;exact ⟨rfl,by simp⟩
 |x::xs,cs,h=>by
  simp only[List.map_cons,aJ] at h
  obtain ⟨c1,c2,rfl,h1,h2⟩:=h
  obtain ⟨rfl,h3⟩:=L6 h2
  have h1':c1=[.int .i64 x]∧IntKind.i64.min≤x∧x≤IntKind.i64.max:=h1
  obtain ⟨rfl,h4⟩:=h1'
  refine ⟨rfl,fun y hy =>?_⟩
  rcases List.mem_cons.1 hy with rfl | hy
  ·exact h4
  ·exact h3 y hy
theorem ry{w:World}{D:aQ}{E:aU} : ∀ {xs:List Int},(∀ x∈xs,IntKind.i64.min≤x∧x≤IntKind.i64.max)→aJ w D E (xs.map enc) (xs.map (Value.int .i64))
 | [],_=>rfl
 |x::xs,h=>⟨[.int .i64 x],xs.map (Value.int .i64),rfl,⟨rfl,h x (by simp)⟩,ry fun y hy=>h y (by simp[hy])⟩
theorem rG(xs:List Int):(I.agg (xs.map enc)).aR=.eh (List.replicate xs.length .one):=by
 show cO.eh (I.cT _)=_
 congr 1
 induction xs with
 |nil=>rfl
 |cons x xs ih=>simp only[List.map_cons,I.cT,ih,List.length_cons,List.replicate_succ];rfl
theorem akF{xs ys q:List Int}(hl:ys.length=xs.length){cs:Array Value}(hc:cs.toList=(xs++q).map (Value.int .i64)):(Sort.putCells (Value.int .i64) 0 ys.toArray cs).toList=(ys++q).map (Value.int .i64):=by
 apply List.ext_getElem?
 intro k
 have h1:cs[k]?=((xs++q).map (Value.int .i64))[k]?:=by rw[←hc,Array.getElem?_toList]
 rw[Array.getElem?_toList,Sort.putCells,Array.getElem?_mapIdx,h1]
 simp only[List.getElem?_map,List.size_toArray,Nat.zero_le,true_and,Nat.zero_add,Nat.sub_zero]
 by_cases hk:k<ys.length
 ·simp only[hk,if_true]
  rw[List.getElem?_append_left (by omega),List.getElem?_append_left hk,List.getElem?_eq_getElem (by omega),List.getElem?_eq_getElem hk]
  simp[hk]
 ·simp only[hk,if_false]
  rw[List.getElem?_append_right (by omega),List.getElem?_append_right (by omega),hl]
  cases (q[k-xs.length]?) <;>rfl
open Go.Sort Go.RowKit in
theorem zl(xs q:List Int)(hn:xs.length≤60):cz Tryz.prog 107 [.view 1000000 [] 1 0 xs.length] (bX 1000000 (xs++q)) (yF (du xs++q)):=by
 refine ⟨Cm,fun w D E vs _ hD hO hv =>?_⟩
 have ho:=hO.bQ 1000000
 simp only[bX,ai,if_true] at ho
 obtain ⟨b,cs,T,ar,-,hb,hr,hnD⟩:=ho
 have hEn:∀ n,n≠1000000→E n=none:=fun n hn=>by
  have:=hO.bQ n
  simpa only[bX,ai,if_neg hn,c8] using this
 simp only[aI] at hv
 obtain ⟨v,rest,cs',rfl,hp,hr',rfl⟩:=hv
 obtain ⟨b',aR,off,l,hE',hoff,hpart,rfl,hl1,hl2,hl3⟩:=hr'
 rw[ar] at hE'
 simp only[Option.some.injEq,bR.aB.injEq] at hE'
 obtain ⟨rfl,rfl⟩:=hE'
 have hoff':off=0:=by
  have:(some 0:Option Nat)=some off:=by rw[←hoff];rw[rG];rfl
  injection this with this;exact this.symm
 subst hoff'
 have hp':v=.slice (some ⟨b,0,none⟩) xs.length (l.length-0):=by
  have:[Value.slice (some ⟨b,0+0*1,none⟩) xs.length (l.length-0)]=[v]:=hp
  simpa using this.symm
 subst hp'
 obtain ⟨hcs,hrg⟩:=L6 hr
 have hbs:b<w.heap.size:=(Array.getElem?_eq_some_iff.1 hb).1
 have hH:Holds (Value.int .i64) w b 0 xs.toArray:=fun j hj=>by
  simp only[List.size_toArray] at hj
  constructor
  ·simp only[World.cell?,hb,Option.isSome_none,Bool.false_eq_true,if_false,Nat.zero_add]
   rw[←Array.getElem?_toList,hcs]
   rw[List.map_append,List.getElem?_append_left (by simpa using hj)]
   simp[hj]
  ·simp[World.frozen?,hb]
 have hlen:(du xs).length=xs.length:=by simp[du]
 refine (Any.slices_Sort_int Jd b 0 (l.length-0) xs w hH hbs (by omega)).mono ?_
 rintro e w' ⟨rfl,n,os,rfl⟩
 have hb1:(putRow (Value.int .i64) (Sort.ahead w n) b 0 (du xs).toArray).heap[b]?=some (.cells (putCells (Value.int .i64) 0 (du xs).toArray cs) T (0,0)):=by
  simp[putRow,mapBlock,Sort.ahead,Array.getElem?_modify,hb,onCells]
 have hother:∀ k,k<w.heap.size→k≠b→(grow (putRow (Value.int .i64) (Sort.ahead w n) b 0 (du xs).toArray) os).heap[k]?=w.heap[k]?:=fun k hk hkb=>by
  rw[heap_grow_old _ _ (by simpa[Sort.ahead] using hk)]
  simp[putRow,mapBlock,Sort.ahead,Array.getElem?_modify,Ne.symm hkb]
 have hb2:(grow (putRow (Value.int .i64) (Sort.ahead w n) b 0 (du xs).toArray) os).heap[b]?=some (.cells (putCells (Value.int .i64) 0 (du xs).toArray cs) T (0,0)):=by
  rw[heap_grow_old _ _ (by simpa[Sort.ahead] using hbs)];exact hb1
 have hsz:w.heap.size≤(grow (putRow (Value.int .i64) (Sort.ahead w n) b 0 (du xs).toArray) os).heap.size:=by simp[Sort.ahead]
 have hshow:(grow (putRow (Value.int .i64) (Sort.ahead w n) b 0 (xs.mergeSort fun x y=>decide (x≤y)).toArray) os)=(grow (putRow (Value.int .i64) (Sort.ahead w n) b 0 (du xs).toArray) os):=rfl
 rw[hshow]
 have hw1:(grow (putRow (Value.int .i64) (Sort.ahead w n) b 0 (du xs).toArray) os).os=w.os:=rfl
 have hw2:(grow (putRow (Value.int .i64) (Sort.ahead w n) b 0 (du xs).toArray) os).tape=w.tape:=rfl
 have hw3:(grow (putRow (Value.int .i64) (Sort.ahead w n) b 0 (du xs).toArray) os).output=w.output:=rfl
 revert hother hb2 hsz hw1 hw2 hw3
 generalize grow (putRow (Value.int .i64) (Sort.ahead w n) b 0 (du xs).toArray) os=w2
 intro hother hb2 hsz hw1 hw2 hw3
 have hmem:∀ x∈du xs++q,IntKind.i64.min≤x∧x≤IntKind.i64.max:=fun x hx=>hrg x (by
  rcases List.mem_append.1 hx with h | h
  ·exact List.mem_append_left _ (by simpa[du] using h)
  ·exact List.mem_append_right _ h)
 refine ⟨.tuple #[],D,E,.tuple [],bX 1000000 (du xs++q),rfl,⟨rfl,rfl⟩,⟨[],rfl,rfl⟩,⟨fun m =>?_,hO.cS⟩,⟨hw1,hw2,hw3,hsz,fun k hk =>?_⟩,fun _ _ h=>h,fun b0 o h=>Nat.lt_of_lt_of_le (hD b0 o h) hsz,fun _ _ h _ _=>h,fun m e h _=>⟨e,h,bR.le.refl e⟩,⟨fun b0 o u hd hc =>?_,fun b0 es ck hd hc =>?_⟩⟩
 ·by_cases hm:m=1000000
  ·subst hm
   simp only[bX,ai,if_true]
   refine ⟨b,_,T,?_,.inr ⟨1000000,_,ar,rfl⟩,hb2,?_,hnD⟩
   ·rw[ar,rG,rG,List.length_append,List.length_append,hlen]
   ·show aJ w2 D E _ _
    rw[akF hlen hcs]
    exact ry hmem
  ·simp only[bX,ai,if_neg hm,c8]
   exact hEn m hm
 ·by_cases hk2:k<w.heap.size
  ·exact hother k hk2 fun e=>hk (.inr ⟨1000000,_,ar,by rw[e];rfl⟩)
  ·exact absurd (.inl (Nat.le_of_not_lt hk2)) hk
 ·have hne:b0≠b:=fun e=>hnD o (e▸hd)
  simp only[World.cell?,hother b0 (hD b0 o hd) hne] at hc ⊢
  exact hc
 ·have hne:b0≠b:=fun e=>hnD 0 (e▸hd)
  rw[hother b0 (hD b0 0 hd) hne];exact hc
theorem Nr(v:I)(hv0:v=.nils 1∨v=enc ([]:List Int)):av Tryz.prog 107 [v] (.tuple []):=by
 refine ⟨Cm,fun w D vs hD hv =>?_⟩
 simp only[aI] at hv
 obtain ⟨u,rest,cs',rfl,hp,hr',rfl⟩:=hv
 have hu:∃ a cap,u=.slice a 0 cap:=by
  rcases hv0 with rfl | rfl
  ·have h1:cs'=[.slice none 0 0]:=hr'
   have h2:cs'=[u]:=hp
   rw[h1] at h2
   exact ⟨none,0,by simpa using h2.symm⟩
  ·obtain ⟨a,cap,h1,_⟩:=hr'
   have h2:cs'=[u]:=hp
   rw[h1] at h2
   exact ⟨a,cap,by simpa using h2.symm⟩
 obtain ⟨a,cap,rfl⟩:=hu
 refine (Any.slices_Sort_int_none Jd a cap w).mono ?_
 rintro e w' ⟨rfl,rfl⟩
 exact ⟨.tuple #[],D,rfl,⟨[],rfl,rfl⟩,⟨rfl,rfl,rfl,Nat.le_refl _,fun _ _=>rfl⟩,hD,fun _ _ h _=>h⟩
end Go.Proofs.YtcldiigclhgafaaGreat
namespace Go.Proofs.YtcldiigclhgafaaGreat
open Go Go.Abs
open Go.Abs.Enc (enc)
theorem s8{os os2 ow:List (Nat×ah)}{ts:List (Nat×I)}(h:fr os os2)(how:∀ m,ao ow m=true→m<1000000):∀ n x,ai os2 n=some x→(aq ts (ow++os2)).o n=some x∧x.only (ao os2)=true∧x.eO=true:=fun n x hx=>by
 have hn:ao os2 n=true:=by simp[ao,hx]
 have hg:=h.og n (by rw[←h.same];exact hn)
 refine ⟨?_,h.ok n x hx⟩
 simp only[aq,kc]
 cases hw:ai ow n with
 |none=>exact hx
 |some y=>have:=how n (by simp[ao,hw]);omega
theorem alG{A:ab}{n:Nat}{b:I}{v u:bI 6 Int}{rest:List az} : dg A (some 6) n [] b (enc v) rest (some (enc u))=ay rest (A.aN n (.box (enc v))):=by
 rw[eD (dQ _) (by rw[fX];rfl) ((eM _).trans (eM _).symm),gP]
theorem x8{α:Type}[Enc α](l:List α):b6 none (enc l)=true:=by simp[kH,nh]
theorem pN:(∀ (x:I) xs (f:I→Bool),(x::xs).all f=(f x&&xs.all f))∧(∀ f:I→Bool,([]:List I).all f=true)∧(∀ n p,(I.ptr n p).cm=true)∧(∀ b,(true&&b)=b) :=
 ⟨fun _ _ _=>List.all_cons,fun _=>List.all_nil,fun _ _=>rfl,fun _=>rfl⟩
theorem pZ:∀ m,ao [] m=true→m<1000000:=fun m h=>by simp[ao,ai] at h
theorem Oa(l:List al)(hl:l.length≤60):uQ Tryz.prog 178 [.ref (enc l)] l.length (fun k=>[.int .i64 ((l.length-1-k:Nat):Int),enc (ae l (l.length-1-k))]):=by
 intro Y v aj Ix os hv hY hI hIx h0
 have hG:=hI 0 os h0
 refine ky.bn Tryz.func178 Cq SX U8 (Nat.le_of_ble_eq_true rfl) (Nat.le_of_ble_eq_true rfl) hG.og (fun hwf W0 D0 E1 =>?_)
 simp only[Bo,K7,a6,Nat.zero_add]
 refine .au (by decide +kernel) fun K hK =>?_
 simp only[Gt,U,simprocAttr]
 try simp only[bh,aK,U,simprocAttr]
 rw[dz ((l.length:Int)-1) (by omega) (by omega)]
 refine .done (hK _ ?_);clear hK K
 refine J.block (J.loop (fun s:Nat×List (Nat×ah)=>aq [(0,.raw v),(1,.ref (enc l)),(3,.int .i64 ((l.length:Int)-1-s.1))] s.2) (fun s=>s.1≤l.length∧aj s.1 s.2) (fun s=>l.length-s.1) (0,os) ⟨Nat.zero_le _,h0⟩ ?_ ?_)
 ·refine aC.cD ?_ (fun n=>rfl)
  simp[aX,aW]
 rintro ⟨k,osk⟩ ⟨hk,hIk⟩
 simp only at hk hIk ⊢
 have gk:=hI k osk hIk
 refine J.seq (J.seq ?_)
 refine .bV (by decide +kernel) fun K hK =>?_
 simp only[Gu,U,simprocAttr]
 refine .done (hK _ ?_);clear hK K;try simp only[aF]
 refine J.bW ?_
 simp only[ak,U,simprocAttr]
 refine ⟨fun h =>?_,fun h =>?_⟩
 ·have hlt:k<l.length:=by simp at h;omega
  have hix:((l.length:Int)-1-k)=((l.length-1-k:Nat):Int):=by omega
  rw[hix]
  refine J.skip ?_;try simp only[aF,simprocAttr]
  refine J.seq (J.block (J.seq ?_))
  refine .bV (by decide +kernel) fun K hK =>?_
  simp only[Gv,U,simprocAttr]
  try simp only[aK,gJ (l:=l) (i:=l.length-1-k) (by omega),Cv,U,simprocAttr]
  refine bj.Nh (ow:=[]) (In:=aj (k+1)) (Ix:=Ix) (hY k osk _ hlt hIk (fun r os2 h=>h)) gk (hI _) hIx (by simp[I.bU,dP,I.br]) pZ (fun os2 h2 =>?_) (fun os2 h2 =>?_)
  ·try simp only[List.nil_append,U,simprocAttr]
   refine .done (hK _ ?_);clear hK K;try simp only[aF]
   refine J.bW ?_
   simp only[ak,U,simprocAttr]
   refine ⟨fun h =>?_,fun h =>?_⟩
   ·cases h
   refine J.skip ?_;try simp only[aF,b8,simprocAttr]
   refine .bV (by decide +kernel) fun K hK =>?_
   simp only[Gw,U,simprocAttr]
   refine .done (hK _ ?_);clear hK K;try simp only[aF]
   refine ⟨(k+1,os2),⟨by simp only;omega,h2⟩,by simp only;omega,?_⟩
   simp only
   rw[dz _ (by omega) (by omega)]
   have e:(((l.length-1-k:Nat):Int)-1)=((l.length:Int)-1-((k+1:Nat):Int)):=by omega
   rw[e]
   refine aC.cD ?_ (fun n=>rfl)
   simp[aX,aW]
  ·try simp only[List.nil_append,U,simprocAttr]
   refine .done (hK _ ?_);clear hK K;try simp only[aF]
   refine J.bW ?_
   simp only[ak,U,simprocAttr]
   refine ⟨fun h =>?_,fun h =>?_⟩
   ·refine J.ret ?_
    simp only[aF,b8]
    rw[fq]
    exact ⟨os2,[],s8 (ow:=[]) (hIx os2 h2) pZ,trivial,rfl,.inr h2⟩
   ·cases h
 ·have he:k=l.length:=by simp at h;omega
  subst he
  refine J.exit ?_;try simp only[aF,b8,simprocAttr]
  rw[lX]
  exact ⟨osk,[],s8 (ow:=[]) gk pZ,trivial,rfl,.inl hIk⟩
def gB(p:Nat→Bool)(n:Nat):List Nat:=(List.range n).filter p
theorem ze(p:Nat→Bool)(n:Nat):gB p (n+1)=gB p n++(if p n then [n] else []):=by
 simp only[gB,List.range_succ,List.filter_append,List.filter_cons,List.filter_nil]
theorem al3{p:Nat→Bool}{i n:Nat}(hp:p i=true)(hi:i<n):(gB p i).length<(gB p n).length∧(gB p n).getD (gB p i).length 0=i:=by
 induction n with
 |zero=>omega
 |succ n ih =>
  rw[ze]
  by_cases e:i=n
  ·subst e
   simp[hp]
  ·obtain ⟨h1,h2⟩:=ih (by omega)
   refine ⟨by rw[List.length_append];omega,?_⟩
   rw[List.getD_eq_getElem?_getD,List.getElem?_append_left h1,←List.getD_eq_getElem?_getD]
   exact h2
theorem zu(l:List al)(bs:List Bool)(hl:l.length≤60)(hb:bs.length=l.length) :
  uQ Tryz.prog 146 [.ref (enc l),.ref (enc bs)] (gB (fun i=>bs.getD i false) l.length).length (fun k=>[.int .i64 (((gB (fun i=>bs.getD i false) l.length).getD k 0:Nat):Int)]):=by
 intro Y v aj Ix os hv hY hI hIx h0
 have hG:=hI 0 os h0
 refine ky.bn Tryz.func146 vm Sx UI (Nat.le_of_ble_eq_true rfl) (Nat.le_of_ble_eq_true rfl) hG.og (fun hwf W0 D0 E1 =>?_)
 simp only[AV,KI,a6,Nat.zero_add,Nat.reduceAdd]
 refine .au (by decide +kernel) fun K hK =>?_
 simp only[Fi,U,simprocAttr]
 try simp only[bh,aK,U,simprocAttr]
 refine .done (hK _ ?_);clear hK K
 refine J.block (J.loop (fun s:Nat×List (Nat×ah)=>aq [(0,.raw v),(1,.ref (enc l)),(2,.ref (enc bs)),(6,.int .i64 l.length),(7,.int .i64 s.1)] s.2) (fun s=>s.1≤l.length∧aj (gB (fun i=>bs.getD i false) s.1).length s.2) (fun s=>l.length-s.1) (0,os) ⟨Nat.zero_le _,h0⟩ ?_ ?_)
 ·refine aC.cD ?_ (fun n=>rfl)
  simp[aX,aW]
 rintro ⟨i,osk⟩ ⟨hi,hIk⟩
 simp only at hi hIk ⊢
 have gk:=hI _ osk hIk
 refine .au (by decide +kernel) fun K hK =>?_
 simp only[Fj,U,simprocAttr]
 refine .done (hK _ ?_);clear hK K
 refine J.seq ?_
 by_cases hlt:i<l.length
 ·have hc:=fy hlt
  have hbi:∀ A,gX A 1 (i:Int) (enc bs)=some (.ref (.bool (bs.getD i false))):=fun A=>by
   rw[eA 1 (by omega) rfl,List.getD_eq_getElem?_getD,List.getElem?_eq_getElem (by omega)];rfl
  simp only[hc]
  refine J.bW ?_
  simp only[ak,U,simprocAttr]
  refine ⟨fun h =>?_,fun h =>?_⟩
  case refine_2=>cases h
  refine J.skip ?_;try simp only[aF,simprocAttr]
  refine J.seq (J.block ?_)
  refine .au (by decide +kernel) fun K hK =>?_
  simp only[Fk,U,simprocAttr]
  refine .done (hK _ ?_);clear hK K
  refine J.seq ?_
  have hsu:=ze (fun i=>bs.getD i false) i
  cases hbv:bs.getD i false with
  |false =>
   rw[hbv] at hbi
   refine .bV (by decide +kernel) fun K hK =>?_
   simp only[wD,U,simprocAttr]
   try simp only[hbi,x8,U,simprocAttr]
   refine .done (hK _ ?_);clear hK K;try simp only[aF]
   refine J.bW ?_
   simp only[ak,U,simprocAttr]
   refine ⟨fun h =>?_,fun h =>?_⟩
   ·cases h
   refine J.skip ?_;try simp only[aF,b8,simprocAttr]
   refine .bV (by decide +kernel) fun K hK =>?_
   simp only[wE,U,simprocAttr]
   refine .done (hK _ ?_);clear hK K;try simp only[aF]
   refine ⟨(i+1,osk),⟨by simp only;omega,?_⟩,by simp only;omega,?_⟩
   ·simp only[hsu,hbv,Bool.false_eq_true,if_false,List.append_nil];exact hIk
   ·simp only
    rw[eH (by omega)]
    refine aC.cD ?_ (fun n=>rfl)
    simp[aX,aW]
  |true =>
   rw[hbv] at hbi
   obtain ⟨g1,g2⟩:=al3 (p:=fun i=>bs.getD i false) hbv hlt
   have hsl:(gB (fun i=>bs.getD i false) (i+1)).length=(gB (fun i=>bs.getD i false) i).length+1:=by rw[hsu,hbv];simp
   have hy:=hY _ osk _ g1 hIk (fun r os2 h=>h)
   simp only at hy
   rw[g2] at hy
   refine .bV (by decide +kernel) fun K hK =>?_
   simp only[wD,U,simprocAttr]
   try simp only[hbi,x8,Cv,U,simprocAttr]
   refine bj.Nh (ow:=[]) (In:=aj ((gB (fun i=>bs.getD i false) i).length+1)) (Ix:=Ix) hy gk (hI _) hIx rfl pZ (fun os2 h2 =>?_) (fun os2 h2 =>?_)
   ·try simp only[List.nil_append,U,simprocAttr]
    refine .done (hK _ ?_);clear hK K;try simp only[aF]
    refine J.bW ?_
    simp only[ak,U,simprocAttr]
    refine ⟨fun h =>?_,fun h =>?_⟩
    ·cases h
    refine J.skip ?_;try simp only[aF,b8,simprocAttr]
    refine .bV (by decide +kernel) fun K hK =>?_
    simp only[wE,U,simprocAttr]
    refine .done (hK _ ?_);clear hK K;try simp only[aF]
    refine ⟨(i+1,os2),⟨by simp only;omega,?_⟩,by simp only;omega,?_⟩
    ·simp only[hsl];exact h2
    ·simp only
     rw[eH (by omega)]
     refine aC.cD ?_ (fun n=>rfl)
     simp[aX,aW]
   ·try simp only[List.nil_append,U,simprocAttr]
    refine .done (hK _ ?_);clear hK K;try simp only[aF]
    refine J.bW ?_
    simp only[ak,U,simprocAttr]
    refine ⟨fun h =>?_,fun h =>?_⟩
    ·refine J.ret ?_
     simp only[aF,b8]
     rw[fq]
     exact ⟨os2,[],s8 (ow:=[]) (hIx os2 h2) pZ,trivial,rfl,.inr h2⟩
    ·cases h
 ·have hc:=fD hlt
  simp only[hc]
  refine J.bW ?_
  simp only[ak,U,simprocAttr]
  refine ⟨fun h =>?_,fun h =>?_⟩
  ·cases h
  have he:i=l.length:=by omega
  subst he
  refine J.exit ?_;try simp only[aF,b8,simprocAttr]
  rw[lX]
  exact ⟨osk,[],s8 (ow:=[]) gk pZ,trivial,rfl,.inl hIk⟩
theorem NO(l:List al):av Tryz.prog 145 [enc l] (.func 178 [.ref (enc l)]):=by
 refine av.bn Tryz.func145 QA Sw UH (Nat.le_of_ble_eq_true rfl) (fun hwf W0 D0 E1 =>?_)
 simp only[AU,KH,a6]
 have R:=And.intro @pN (And.intro @aK (And.intro @dP @U))
 repeat' ((first
  |(with_reducible refine .guard (fun hb =>?_) (fun hb =>?_) <;>try simp only[hb])
  |refine J.aG (by decide +kernel) rfl fun K hK =>?_
  |(refine .aw [0,1,2] hK ?_;clear hK K)
  |(with_reducible refine .done (hK _ ?_);clear hK K)
  |refine J.of rfl ?_
  |(with_reducible refine ak.aE (fun h =>?_) (fun h =>?_) <;>try simp only[h])) <;>try simp only[aH,R,simprocAttr])
 all_goals clear R
 all_goals rfl
def iq(l:List al)(known:Int)(ks:List Item)(bs:List Bool):List (Nat×ah) :=
 [(1000002,.box (enc l)),(1000003,.box (.int .i64 known)),(1000005,.box (.mref 1000009)),(1000006,.box (.view 1000012 [] 1 0 l.length)),(1000009,.ct (ks.map enc) (List.replicate ks.length (.bool true))),(1000012,.box (.agg (bs.map enc)))]
theorem tN(p:Nat→Bool)(n:Nat)(b:Bool):I.bP p (List.replicate n (.bool b))=true:=by
 induction n with
 |zero=>rfl
 |succ n ih=>simp[List.replicate_succ,I.bP,I.only,ih]
theorem akR(ρ:Nat→Nat)(n:Nat)(b:Bool):I.cR ρ (List.replicate n (.bool b))=List.replicate n (.bool b):=by
 induction n with
 |zero=>rfl
 |succ n ih=>simp only[List.replicate_succ,I.cR,I.aM,ih]
theorem alE(l:List al)(known:Int)(ks:List Item)(bs:List Bool)(l':List al)(known':Int)(ks':List Item)(bs':List Bool):fr (iq l known ks bs) (iq l' known' ks' bs'):=by
 refine ⟨fun n=>by simp only[iq,ao,ai];(repeat' split) <;>rfl,fun n x h =>?_,fun n h =>?_⟩
 ·simp only[iq,ai] at h
  repeat' split at h
  all_goals first | (cases h;done) | (simp only[Option.some.injEq] at h;subst h;exact ⟨by simp[iq,ao,ai,ah.only,bB,I.only,dU,tN],rfl⟩)
 ·simp only[iq,ao,ai] at h
  repeat' split at h
  all_goals first | omega | (simp at h;done)
def uo(l:List al)(known:Int)(k:Nat)(ks:List Item)(bs:List Bool):Prop :=
 bs=List.replicate (l.length-k) false++(eP known (l.drop (l.length-k))).1∧∀ a,a∈ks↔a∈(eP known (l.drop (l.length-k))).2
theorem yY:(∀ (A:ab) n b m rest,dg A none n [] b (.mref m) rest (some (.raw (.map none)))=ay rest (A.aN n (.box (.mref m))))∧(∀ (A:ab) n b m p z lo k z2 rest,dg A none n [] b (.view m p z lo k) rest (some (.nils z2))=ay rest (A.aN n (.box (.view m p z lo k)))) ∧
  (∀ (A:ab) n b m p z lo k m' p' z' lo' k' rest,dg A none n [] b (.view m p z lo k) rest (some (.view m' p' z' lo' k'))=ay rest (A.aN n (.box (.view m p z lo k)))) :=
 ⟨fun _ _ _ _ _=>by rw[eD (s:=none) (v:=.mref _) (old:=.raw _) rfl rfl rfl,gP],fun _ _ _ _ _ _ _ _ _ _=>by rw[eD (s:=none) (v:=.view ..) (old:=.nils _) rfl rfl rfl,gP],fun _ _ _ m p z lo k m' p' z' lo' k' _=>by rw[eD (s:=none) (v:=.view m p z lo k) (old:=.view m' p' z' lo' k') rfl rfl rfl,gP]⟩
theorem rK(known:Int):∀ l:List al,(eP known l).1.length=l.length
 | []=>rfl
 |x::l=>by simp only[eP,List.length_cons,rK known l]
theorem MN{l:List al}{known:Int}{k:Nat}{ks:List Item}{bs:List Bool}(h:uo l known k ks bs)(hk:k≤l.length):bs.length=l.length:=by
 rw[h.1,List.length_append,List.length_replicate,rK,List.length_drop];omega
def ri(l:List al)(known:Int)(i:Nat)(ks:List Item):Bool:=decide ((ae l i).known≤known) && !decide ((ae l i).cW∈ks)
theorem alz{l:List al}{known:Int}{k i:Nat}{ks:List Item}{bs:List Bool}(hk:k<l.length)(hi:i=l.length-1-k)(h:uo l known k ks bs) :
  uo l known (k+1) (if (ri l known i ks&&((ae l i).kind==0))=true then m4 ks (ae l i).gZ else ks) (bs.set i (ri l known i ks)):=by
 have hkd:((ae l i).kind==0)=decide ((ae l i).kind=0):=rfl
 rw[hkd]
 obtain ⟨h1,h2⟩:=h
 have e1:l.length-k=i+1:=by omega
 have e2:l.length-(k+1)=i:=by omega
 rw[e1] at h1 h2
 have hil:i<l.length:=by omega
 have hd:l.drop i=ae l i::l.drop (i+1):=by rw[List.drop_eq_getElem_cons hil,kI hil]
 have hb:ri l known i ks=(decide ((ae l i).known≤known) && !(eP known (l.drop (i+1))).2.contains (ae l i).cW):=by
  simp only[ri]
  congr 2
  rw[Bool.eq_iff_iff,decide_eq_true_eq,List.contains_iff_mem]
  exact h2 _
 refine ⟨?_,fun a =>?_⟩
 ·rw[e2,hd,h1]
  simp only[eP,←hb]
  rw[List.replicate_succ',List.append_assoc,List.set_append_right _ _ (by simp)]
  simp
 ·rw[e2,hd]
  simp only[eP,←hb]
  split
  ·rw[aiK,List.mem_cons,h2]
  ·exact h2 a
theorem zj(l:List al)(known:Int)(hl:l.length≤60):av Tryz.prog 105 [enc l,enc known] (.func 146 [.ref (enc l),.ref (enc (ep l known))]):=by
 refine av.bn Tryz.func105 P8 R2 Uf (Nat.le_of_ble_eq_true rfl) (fun hwf W0 D0 E1 =>?_)
 simp only[Aq,Ke,a6,Nat.zero_add]
 clear hwf
 refine .au (by decide +kernel) fun K hK =>?_
 simp only[D5,U,simprocAttr]
 try simp only[aK,U,simprocAttr]
 refine .done (hK _ ?_);clear hK K
 refine .au (by decide +kernel) fun K hK =>?_
 simp only[D6,U,simprocAttr]
 try simp only[eB,yY,U,simprocAttr]
 refine .done (hK _ ?_);clear hK K
 refine .au (by decide +kernel) fun K hK =>?_
 simp only[D7,U,simprocAttr]
 try simp only[eB,bh,aK,U,simprocAttr]
 rw[Jx (by omega) (by simp[maxLen];omega)]
 try simp only[yY,U,simprocAttr]
 refine .done (hK _ ?_);clear hK K
 refine J.seq (J.seq ?_)
 refine .bV (by decide +kernel) fun K hK =>?_
 simp only[D8,U,simprocAttr]
 try simp only[aK,U,simprocAttr]
 refine .lead _ (NO l) ?_
 try simp only[U,simprocAttr]
 refine .done (hK _ ?_);clear hK K;try simp only[aF]
 refine J.block (J.jU (osb0:=iq l known [] (List.replicate l.length false)) (tsR:=[(2,.ptr 1000002 []),(3,.ptr 1000003 []),(5,.ptr 1000005 []),(6,.ptr 1000006 [])]) (ρ:=[(1999999,999999),(1000002,2),(1000003,3),(1000005,5),(1000006,6),(1000009,9),(1000012,12)])
  (fun k os=>∃ ks bs,os=iq l known ks bs∧uo l known k ks bs)
  (fun _ _=>False)
  rfl (Nat.le_of_ble_eq_true rfl) (by simp only[U,simprocAttr]) (by simp[I.bU,I.br,dP]) Cq (Oa l hl) (fun _=>rfl) rfl rfl rfl (fun o=>⟨?_,?_⟩) ?_ ?_ ?_ ⟨[],_,rfl,?_⟩ ?_ ?_ ?_)
 ·intro n x hx
  simp only[dc,iq,ai] at hx
  repeat' split at hx
  all_goals first | (cases hx;done) | (subst_vars;simp only[Option.some.injEq] at hx;subst hx;simp[dc,iq,ao,bA,ai,ah.aM,I.aM,I.cR,jM,ah.only,I.only,I.bP,bB,ah.eO,tN,akR,vF])
 ·intro a b ha hb
  simp only[dc,iq,ao,ai] at ha hb
  repeat' split at ha
  all_goals first | (simp at ha;done) | skip
  all_goals (repeat' split at hb)
  all_goals first | (simp at hb;done) | (subst_vars;simp[bA])
 ·simp[l7,aW,I.aM,bA,I.only,iq,ao,ai]
 ·rintro k os ⟨ks,bs,rfl,_⟩;exact alE ..
 ·rintro e os h;exact h.elim
 ·exact ⟨by simp[eP],fun a=>by simp[eP]⟩
 ·rintro k osb hk ⟨ks,bs,rfl,hst⟩ W1 D1 E1 qV o1 o2
  have hbl:=MN hst (Nat.le_of_lt hk)
  obtain ⟨i,hi⟩:∃ i,i=l.length-1-k:=⟨_,rfl⟩
  have hil:i<bs.length:=by omega
  have hil2:i<l.length:=by omega
  have hstep:=alz hk hi hst
  have hv:∀ fs,ja 1000012 [] 1 0 l.length 1 (i:Int) (some fs)=some (.ptr 1000012 [i]):=fun fs=>by
   have:=nz (m:=1000012) (sz:=1) (lo:=0) (l:=l.length) (i:=i) (fs:=fs) hil2
   rwa [Nat.zero_add] at this
  have hat2:∀ b,jt i [] (some ((bs.set i b).map enc))=some (.bool b):=fun b=>by
   rw[sh (by simpa using hil)]
   simp[List.getD_eq_getElem?_getD,hil]
  have hset:=fun (A:ab) v u rest=>MT (A:=A) (n:=1000012) hil v u rest
  have hat:=sh hil
  have hlk:=aiz qE (ae l i).cW ks
  simp only[p8,dc,iq,←hi]
  have R:=And.intro @aK @U
  repeat' ((first
   |(with_reducible refine .guard (fun hb =>?_) (fun hb =>?_) <;>try simp only[hb])
   |refine J.aG (by decide +kernel) rfl fun K hK =>?_
   |(refine .aw [0,1,2,3,4,5,6,7,8,14,15,16,39] hK ?_;clear hK K)
   |(with_reducible refine .done (hK _ ?_);clear hK K)
   |refine J.of rfl ?_
   |(with_reducible refine ak.aE (fun h =>?_) (fun h =>?_) <;>try simp only[h])) <;>try simp only[aH,R,simprocAttr])
  all_goals clear R
  refine ⟨by simp[],?_⟩
  rcases h1:decide ((ae l i).known≤known) <;>rcases h2:decide ((ae l i).cW∈ks) <;>rcases h3:(ae l i).kind==0
  all_goals
   simp only[ri,h1,h2,h3,Bool.not_true,Bool.not_false,Bool.and_true,Bool.and_false,Bool.false_eq_true,if_true,if_false] at hstep
   have hup:=aiV qE (ae l i).gZ ks
   try simp only[U,simprocAttr]
   have R:=And.intro @h1 (And.intro @h2 (And.intro @h3 (And.intro @hv (And.intro @hset (And.intro @hat (And.intro @hat2 (And.intro @hlk (And.intro @hup (And.intro @cC (And.intro @yY (And.intro @eB (And.intro @cG (And.intro @bh (And.intro @aK @U))))))))))))))
   repeat' ((first
    |(with_reducible refine .guard (fun hb =>?_) (fun hb =>?_) <;>try simp only[hb])
    |refine J.aG (by decide +kernel) rfl fun K hK =>?_
    |(refine .aw [0,1,2,3,4,5,6,7,8,14,15,16,39] hK ?_;clear hK K)
    |(with_reducible refine .done (hK _ ?_);clear hK K)
    |refine J.of rfl ?_
    |(with_reducible refine ak.aE (fun h =>?_) (fun h =>?_) <;>try simp only[h])) <;>try simp only[aH,R,simprocAttr])
   all_goals clear R
   generalize bs.set i _=amo at hstep ⊢
   try generalize m4 ks _=ks2 at hstep ⊢
   refine ⟨iq l known _ _,?_,_,_,rfl,hstep⟩
   intro n x hx
   simp only[dc,iq,ai] at hx
   (repeat' split at hx) <;>first
    |(cases hx;done)
    |(subst_vars;simp only[Option.some.injEq] at hx;subst hx;simp[iq,dc,ao,aq,ai,ah.only,I.only,bB,ah.eO,dU,tN])
 ·rintro os ⟨ks,bs,rfl,hst⟩
  have hbs:bs=ep l known:=by
   have:=hst.1
   simpa[ep] using this
  have hbl:=MN hst (Nat.le_refl _)
  try simp only[iq,jj,jM,gw,List.cons_append,List.nil_append,aF,b8,simprocAttr]
  have R:=And.intro @pN (And.intro @aK @U)
  repeat' ((first
   |(with_reducible refine .guard (fun hb =>?_) (fun hb =>?_) <;>try simp only[hb])
   |refine J.aG (by decide +kernel) rfl fun K hK =>?_
   |(refine .aw [0,1,2,3,4,5,6,7,8,14,15,16,39] hK ?_;clear hK K)
   |(with_reducible refine .done (hK _ ?_);clear hK K)
   |refine J.of rfl ?_
   |(with_reducible refine ak.aE (fun h =>?_) (fun h =>?_) <;>try simp only[h])) <;>try simp only[aH,R,simprocAttr])
  all_goals clear R
  have hfd:=fun A (ho:A.o 12=some (.box (.agg (bs.map enc))))=>XR (A:=A) (m:=8) (n:=12) (sz:=1) ho rfl hbl.symm
  try simp only[kE,U,simprocAttr]
  rw[hfd _ rfl]
  try simp only[hbs,U,simprocAttr]
 ·rintro e os h;exact h.elim
def gn(l:List al)(x:Int):Int:=(ae l x.toNat).day
def ju(l:List al)(x:Int):Prop:=0≤x∧x<l.length
def mi(l:List al):Prop:=∀ i,i<l.length→0≤(ae l i).day∧(ae l i).day≤100000
def dJ(l:List al)(x y:Int):Prop:=gn l x<gn l y∨(gn l x=gn l y∧x<y)
def dh(l:List al)(s:List Int):Prop:=s.Pairwise (dJ l)
theorem xJ{l:List al}{x y z:Int}(h:dJ l x y)(k:dJ l y z):dJ l x z:=by
 simp only[dJ] at *;omega
theorem tp{l:List al}{x y:Int}(h:y<x):dJ l x y↔gn l x<gn l y:=by
 simp only[dJ];omega
theorem tn{l:List al}{x y:Int}(h:y<x)(k:¬ gn l x<gn l y):dJ l y x:=by
 simp only[dJ];omega
theorem rV(l:List al)(hd:mi l)(hl:l.length≤60)(x y:Int)(hx:ju l x)(hy:ju l y):av Tryz.prog 138 [.int .i64 x,.int .i64 y,.ref (enc l)] (.int .i64 (gn l x-gn l y)):=by
 refine av.bn Tryz.func138 Qu Sp UB (Nat.le_of_ble_eq_true rfl) (fun hwf W0 D0 E1 =>?_)
 simp only[AO,KB,a6,Nat.zero_add,Nat.reduceAdd]
 clear hwf
 obtain ⟨i,rfl⟩:∃ i:Nat,x=i:=⟨x.toNat,by have:=hx.1;omega⟩
 obtain ⟨k,rfl⟩:∃ k:Nat,y=k:=⟨y.toNat,by have:=hy.1;omega⟩
 have hi:i<l.length:=by have:=hx.2;omega
 have hk:k<l.length:=by have:=hy.2;omega
 have v1:=gJ hi
 have v2:=gJ hk
 have d1:=hd i hi
 have d2:=hd k hk
 have hw:IntKind.i64.wrap ((ae l i).day-(ae l k).day)=(ae l i).day-(ae l k).day:=dz _ (by omega) (by omega)
 have R:=And.intro @v1 (And.intro @v2 (And.intro @hw (And.intro @aK @U)))
 repeat' ((first
  |(with_reducible refine .guard (fun hb =>?_) (fun hb =>?_) <;>try simp only[hb])
  |refine J.aG (by decide +kernel) rfl fun K hK =>?_
  |(refine .aw [0,1,2,5] hK ?_;clear hK K)
  |(with_reducible refine .done (hK _ ?_);clear hK K)
  |refine J.of rfl ?_
  |(with_reducible refine ak.aE (fun h =>?_) (fun h =>?_) <;>try simp only[h])) <;>try simp only[aH,R,simprocAttr])
 all_goals clear R
 simp only[gn,Int.toNat_natCast]
theorem alT{A C:List Int}{x y:Int}{i j:Nat}(hj:A.length=j)(hi:j+1=i):kp (A++y::x::C) i j=A++x::y::C:=by
 subst hj hi
 have e1:(A++y::x::C).getD A.length 0=y:=by simp[List.getD_eq_getElem?_getD]
 have e2:(A++y::x::C).getD (A.length+1) 0=x:=by
  rw[List.getD_eq_getElem?_getD,List.getElem?_append_right (by omega)]
  simp
 simp only[kp,e1,e2]
 rw[List.set_append_right _ _ (by omega)]
 have:A.length+1-A.length=1:=by omega
 rw[this,List.set_append_right _ _ (by omega),Nat.sub_self]
 simp
theorem alV{A C:List Int}{x y:Int}{i j:Nat}(hi:A.length=i)(hj:i+1=j):kp (A++x::y::C) i j=A++y::x::C:=by
 have:=M2 (A:=A) (B:=[]) (C:=C) (x:=x) (y:=y) (i:=i) (j:=j) hi (by simp;omega)
 simpa using this
def dY(p t rest:List Int)(x:Int)(c:Nat):List Int:=p++(t.take c++x::t.drop c)++rest
theorem xw{p t rest:List Int}{x:Int}{c:Nat}(hc:c≤t.length):(dY p t rest x c).length=p.length+t.length+1+rest.length:=by
 simp only[dY,List.length_append,List.length_take,List.length_cons,List.length_drop];omega
theorem ahY{p t rest:List Int}{x:Int}{c a:Nat}(ha:p.length=a)(hc:c≤t.length):(dY p t rest x c).getD (a+c) 0=x:=by
 subst ha
 have hl:(t.take c).length=c:=by rw[List.length_take];omega
 simp only[dY]
 rw[List.getD_eq_getElem?_getD,List.append_assoc,List.getElem?_append_right (by omega)]
 have:p.length+c-p.length=c:=by omega
 rw[this,List.append_assoc,List.getElem?_append_right (by omega),hl,Nat.sub_self]
 rfl
theorem ahZ{p t rest:List Int}{x:Int}{c a:Nat}(ha:p.length=a)(hc:c<t.length):(dY p t rest x (c+1)).getD (a+c) 0=t[c]:=by
 subst ha
 simp only[dY]
 rw[List.getD_eq_getElem?_getD,List.append_assoc,List.getElem?_append_right (by omega)]
 have:p.length+c-p.length=c:=by omega
 rw[this,List.append_assoc,List.getElem?_append_left (by rw[List.length_take];omega),List.getElem?_take_of_lt (by omega),List.getElem?_eq_getElem hc]
 rfl
theorem IZ{p t rest:List Int}{x:Int}{c a:Nat}(ha:p.length=a)(hc:c<t.length):kp (dY p t rest x (c+1)) (a+c+1) (a+c)=dY p t rest x c:=by
 have e1:dY p t rest x (c+1)=(p++t.take c)++t[c]::x::(t.drop (c+1)++rest):=by
  simp only[dY]
  rw[List.take_succ_eq_append_getElem hc]
  simp only[List.append_assoc,List.cons_append,List.nil_append]
 have e2:dY p t rest x c=(p++t.take c)++x::t[c]::(t.drop (c+1)++rest):=by
  simp only[dY]
  rw[List.drop_eq_getElem_cons hc]
  simp only[List.append_assoc,List.cons_append]
 rw[e1,e2]
 exact alT (by rw[List.length_append,List.length_take];omega) rfl
theorem yW{l:List al}{t:List Int}{x:Int}{c:Nat}(hs:dh l t)(h1:∀ y∈t.take c,dJ l y x)(h2:∀ y∈t.drop c,dJ l x y):dh l (t.take c++x::t.drop c):=by
 have h:=hs
 unfold dh at *
 rw[←List.take_append_drop c t,List.pairwise_append] at h
 rw[List.pairwise_append]
 refine ⟨h.1,?_,fun y hy z hz =>?_⟩
 ·rw[List.pairwise_cons]
  exact ⟨h2,h.2.1⟩
 ·rcases List.mem_cons.1 hz with rfl | hz
  ·exact h1 y hy
  ·exact h.2.2 y hy z hz
theorem alu{l:List al}{t:List Int}{x:Int}{c:Nat}(hs:dh l t)(hc:c<t.length)(h:dJ l t[c] x):∀ y∈t.take (c+1),dJ l y x:=by
 intro y hy
 rw[List.take_succ_eq_append_getElem hc,List.mem_append,List.mem_singleton] at hy
 rcases hy with hy | rfl
 ·refine xJ ?_ h
  have h3:=hs
  unfold dh at h3
  rw[←List.take_append_drop c t,List.pairwise_append] at h3
  exact h3.2.2 y hy _ (by rw[List.drop_eq_getElem_cons hc];exact List.mem_cons_self)
 ·exact h
def mX(l:List al)(p s q:List Int):cN:=fun r os'=>r=.tuple []∧∃ s',s'.Perm s∧dh l s'∧os'=bX 1000000 (p++s'++q)
structure uP where
 t:List Int
 k:Nat
theorem zE(l:List al)(hd:mi l)(hl:l.length≤60)(p s q:List Int)(a b n:Nat)(ha:p.length=a)(hb:a+s.length=b)(hn:b≤n)(hnl:n≤(p++s++q).length)(hN:n≤1000)(hs:s.Pairwise (· < ·))(hS:∀ x∈s,ju l x) :
  cz Tryz.prog 203 [.view 1000000 [] 1 0 n,enc (a:Int),enc (b:Int),.func 138 [.ref (enc l)]] (bX 1000000 (p++s++q)) (mX l p s q):=by
 refine cz.bn Tryz.func203 Cs CA CT (Nat.le_of_ble_eq_true rfl) (Nat.le_of_ble_eq_true rfl) mO (fun hwf W0 D0 E1 =>?_)
 simp only[vj,yq,a6,Nat.zero_add,Nat.reduceAdd]
 clear hwf
 have w1:=eH (i:=a) (by omega)
 refine .au (by decide +kernel) fun K hK =>?_
 simp only[wQ,U,simprocAttr]
 try simp only[w1,simprocAttr]
 refine .done (hK _ ?_);clear hK K
 refine J.block (J.loop (fun g:uP=>aq [(0,.view 1000000 [] 1 0 n),(1,.int .i64 a),(2,.int .i64 b),(3,.func 138 [.ref (enc l)]),(8,.int .i64 ((a+g.k:Nat):Int))] (bX 1000000 (p++g.t++s.drop g.k++q))) (fun g=>1≤g.k∧g.t.Perm (s.take g.k)∧dh l g.t∧a+g.k≤b+1) (fun g=>s.length-g.k) ⟨s.take 1,1⟩ ⟨Nat.le_refl _,.refl _,?_,by simp only;omega⟩ ?_ ?_)
 ·show dh l (s.take 1)
  cases s <;>simp[dh]
 ·have e:p++s.take 1++s.drop 1++q=p++s++q:=by rw[List.append_assoc p,List.take_append_drop]
  simp only[e]
  refine aC.cD ?_ (fun n=>rfl)
  simp[aX,aW]
 rintro ⟨t,k⟩ ⟨g1,g2,g3,g4⟩
 simp only at g1 g2 g3 g4 ⊢
 refine J.seq (J.seq ?_)
 refine .bV (by decide +kernel) fun K hK =>?_
 simp only[Hc,U,simprocAttr]
 refine .done (hK _ ?_);clear hK K;try simp only[aF]
 refine J.bW ?_
 simp only[ak,U,simprocAttr]
 refine ⟨fun h =>?_,fun h =>?_⟩
 rotate_left
 ·have hk:s.length≤k:=by simp at h;omega
  refine J.exit ?_;try simp only[aF,b8,simprocAttr]
  rw[lX]
  refine nG rfl ?_ ⟨rfl,t,?_,g3,rfl⟩
  ·rw[List.drop_eq_nil_of_le hk,List.append_nil]
  ·rwa [List.take_of_length_le hk] at g2
 have hk:k<s.length:=by simp at h;omega
 have htl:t.length=k:=by rw[g2.length_eq,List.length_take];omega
 obtain ⟨x,hx⟩:∃ x,x=s[k]:=⟨_,rfl⟩
 have hxS:ju l x:=hS x (by rw[hx];exact List.getElem_mem _)
 have htS:∀ y∈t,ju l y∧y<x:=fun y hy=>by
  have hy2:=g2.mem_iff.1 hy
  refine ⟨hS y (List.mem_of_mem_take hy2),?_⟩
  obtain ⟨j,hj,rfl⟩:=List.getElem_of_mem hy2
  rw[List.length_take] at hj
  rw[List.getElem_take,hx]
  exact List.pairwise_iff_getElem.1 hs j k (by omega) hk (by omega)
 obtain ⟨rest,hrest⟩:∃ rest,rest=s.drop (k+1)++q:=⟨_,rfl⟩
 have e0:p++t++s.drop k++q=dY p t rest x k:=by
  rw[hrest,dY,List.take_of_length_le (l:=t) (by omega),show t.drop k=[] from List.drop_eq_nil_of_le (by omega),List.drop_eq_getElem_cons hk,←hx]
  simp only[List.append_assoc,List.cons_append,List.nil_append]
 have hnr:n≤p.length+t.length+1+rest.length:=by
  rw[hrest]
  simp only[List.length_append,List.length_drop] at hnl ⊢
  omega
 rw[e0]
 refine J.skip ?_;try simp only[aF,simprocAttr]
 refine J.seq (J.block ?_)
 refine .au (by decide +kernel) fun K hK =>?_
 simp only[Hd,U,simprocAttr]
 refine .done (hK _ ?_);clear hK K
 refine J.block (J.loop (fun c:Nat=>aq [(0,.view 1000000 [] 1 0 n),(1,.int .i64 a),(2,.int .i64 b),(3,.func 138 [.ref (enc l)]),(8,.int .i64 ((a+k:Nat):Int)),(9,.int .i64 ((a+c:Nat):Int))] (bX 1000000 (dY p t rest x c))) (fun c=>c≤k∧∀ y∈t.drop c,dJ l x y) (fun c=>c) k ⟨Nat.le_refl _,?_⟩ ?_ ?_)
 ·rw[List.drop_eq_nil_of_le (by omega)];intro y hy;cases hy
 ·refine aC.cD ?_ (fun n=>rfl)
  simp[aX,aW]
 rintro c ⟨hc,hgt⟩
 have bd:∀ c,c≤k→(∀ y∈t.drop c,dJ l x y)→(∀ y∈t.take c,dJ l y x)→∃ s':uP,(1≤s'.k∧s'.t.Perm (s.take s'.k)∧dh l s'.t∧a+s'.k≤b+1)∧s.length-s'.k<s.length-k∧s'.k=k+1∧dY p t rest x c=p++s'.t++s.drop s'.k++q:=fun c hck h2 h1=>by
  refine ⟨⟨t.take c++x::t.drop c,k+1⟩,⟨by simp only;omega,?_,yW g3 h1 h2,by simp only;omega⟩,by simp only;omega,rfl,?_⟩
  ·simp only
   rw[List.take_succ_eq_append_getElem hk,←hx]
   refine List.perm_middle.trans ?_
   rw[List.take_append_drop]
   exact (g2.cons x).trans (List.perm_append_comm (l₁:=[x]))
  ·simp only[dY,hrest,List.append_assoc]
 have hexit:∀ ts,(∀ y∈t.take c,dJ l y x)→Abs.bH ts 0=.view 1000000 [] 1 0 n→Abs.bH ts 1=.int .i64 a→Abs.bH ts 2=.int .i64 b→Abs.bH ts 3=.func 138 [.ref (enc l)]→Abs.bH ts 8=.int .i64 ((a+(k+1):Nat):Int)→∃ s':uP,(1≤s'.k∧s'.t.Perm (s.take s'.k)∧dh l s'.t∧a+s'.k≤b+1)∧s.length-s'.k<s.length-k∧Abs.aC (aq ts (bX 1000000 (dY p t rest x c))) (aq [(0,.view 1000000 [] 1 0 n),(1,.int .i64 a),(2,.int .i64 b),(3,.func 138 [.ref (enc l)]),(8,.int .i64 ((a+s'.k:Nat):Int))] (bX 1000000 (p++s'.t++s.drop s'.k++q))):=fun ts h1 t0 t1 t2 t3 t8=>by
  obtain ⟨s',k1,k2,k3,k4⟩:=bd c hc hgt h1
  refine ⟨s',k1,k2,?_⟩
  rw[k4,k3]
  refine aC.cD ?_ (fun n=>rfl)
  simp only[aX,t0,t1,t2,t3,t8,and_self]
 have hw:=eH (i:=a+k) (by omega)
 have hws:(dY p t rest x c).length=p.length+t.length+1+rest.length:=xw (by omega)
 simp only[bX] at hexit ⊢
 cases c with
 |zero =>
  have hc0:decide ((a:Int)<((a+0:Nat):Int))=false:=by simp
  have R:=And.intro @hc0 (And.intro @hw (And.intro @aK @U))
  repeat' ((first
   |(with_reducible refine .guard (fun hb =>?_) (fun hb =>?_) <;>try simp only[hb])
   |refine J.aG (by decide +kernel) rfl fun K hK =>?_
   |(refine .aw [0,1,2,3,8,9,14,34] hK ?_;clear hK K)
   |(with_reducible refine .done (hK _ ?_);clear hK K)
   |refine J.of rfl ?_
   |(with_reducible refine ak.aE (fun h =>?_) (fun h =>?_) <;>try simp only[h])) <;>try simp only[aH,R,simprocAttr])
  all_goals clear R
  exact hexit _ (by simp) rfl rfl rfl rfl rfl
 |succ c =>
  have hct:c<t.length:=by omega
  have hc0:decide ((a:Int)<((a+(c+1):Nat):Int))=true:=by simp;omega
  have wd:IntKind.i64.wrap (((a+(c+1):Nat):Int)-1)=((a+c:Nat):Int):=by rw[dz _ (by omega) (by omega)];omega
  have gx:=ahY (p:=p) (t:=t) (rest:=rest) (x:=x) (c:=c+1) ha (by omega)
  have gy:=ahZ (p:=p) (t:=t) (rest:=rest) (x:=x) (c:=c) ha hct
  have hstep:=IZ (p:=p) (t:=t) (rest:=rest) (x:=x) (c:=c) ha hct
  obtain ⟨hyS,hyx⟩:=htS t[c] (List.getElem_mem _)
  have hcmp:=rV l hd hl x t[c] hxS hyS
  generalize hws0:dY p t rest x (c+1)=ws at *
  have hi1:a+(c+1)<n:=by omega
  have hj1:a+c<n:=by omega
  obtain ⟨i1,hi1e⟩:∃ i1,i1=a+(c+1):=⟨_,rfl⟩
  obtain ⟨j1,hj1e⟩:∃ j1,j1=a+c:=⟨_,rfl⟩
  have hij:a+c+1=i1:=by omega
  rw[hij] at hstep
  rw[←hi1e] at hi1 gx hc0 wd ⊢
  rw[←hj1e] at hj1 gy wd hstep
  have v1:=ik (n:=n) (i:=i1) hi1
  have v2:=ik (n:=n) (i:=j1) hj1
  have l1:=fL (xs:=ws) (i:=i1) (by omega)
  have l2:=fL (xs:=ws) (i:=j1) (by omega)
  have s1:=fun (A:ab) v u rest=>mY (A:=A) (n:=1000000) (xs:=ws) (i:=i1) (by omega) v u rest
  obtain ⟨ws2,hws2⟩:∃ ws2,ws2=ws.set i1 (ws.getD j1 0):=⟨_,rfl⟩
  have hw2l:ws2.length=ws.length:=by rw[hws2];simp
  have s2:=fun (A:ab) v u rest=>mY (A:=A) (n:=1000000) (xs:=ws2) (i:=j1) (by omega) v u rest
  have l3:=fL (xs:=ws2) (i:=j1) (by omega)
  rw[gx] at l1
  rw[gy] at l2
  rw[gy] at hws2
  have hst2:ws2.set j1 x=dY p t rest x c:=by rw[←hstep];simp only[kp,gx,gy,←hws2]
  cases hlt:decide (gn l x-gn l t[c]<0) with
  |true =>
   have R:=And.intro @hc0 (And.intro @hw (And.intro @wd (And.intro @v1 (And.intro @v2 (And.intro @l1 (And.intro @l2 (And.intro @l3 (And.intro @s1 (And.intro @s2 (And.intro @hst2 (And.intro @hlt (And.intro @cG (And.intro @dP (And.intro @aK @U))))))))))))))
   repeat' ((first
    |(with_reducible refine .guard (fun hb =>?_) (fun hb =>?_) <;>try simp only[hb])
    |refine J.aG (by decide +kernel) rfl fun K hK =>?_
    |refine .flat _ (hcmp) rfl ?_
    |(refine .aw [0,1,2,3,8,9,14,34] hK ?_;clear hK K)
    |(with_reducible refine .done (hK _ ?_);clear hK K)
    |refine J.of rfl ?_
    |(with_reducible refine ak.aE (fun h =>?_) (fun h =>?_) <;>try simp only[h])) <;>try simp only[aH,R,←hws2,List.cons_append,simprocAttr])
   all_goals clear R
   refine ⟨c,⟨by omega,fun y hy =>?_⟩,by omega,?_⟩
   ·rw[List.drop_eq_getElem_cons hct] at hy
    rcases List.mem_cons.1 hy with rfl | hy
    ·rw[tp hyx];simp at hlt;omega
    ·exact hgt y hy
   ·rw[hj1e]
    refine aC.cD ?_ (fun n =>?_)
    ·simp[aX,aW]
    ·simp only[ai];split <;>rfl
  |false =>
   have R:=And.intro @hc0 (And.intro @hw (And.intro @wd (And.intro @v1 (And.intro @v2 (And.intro @l1 (And.intro @l2 (And.intro @hlt (And.intro @cG (And.intro @dP (And.intro @aK @U))))))))))
   repeat' ((first
    |(with_reducible refine .guard (fun hb =>?_) (fun hb =>?_) <;>try simp only[hb])
    |refine J.aG (by decide +kernel) rfl fun K hK =>?_
    |refine .flat _ (hcmp) rfl ?_
    |(refine .aw [0,1,2,3,8,9,14,34] hK ?_;clear hK K)
    |(with_reducible refine .done (hK _ ?_);clear hK K)
    |refine J.of rfl ?_
    |(with_reducible refine ak.aE (fun h =>?_) (fun h =>?_) <;>try simp only[h])) <;>try simp only[aH,R,List.cons_append,simprocAttr])
   all_goals clear R
   exact hexit _ (alu g3 hct (tn hyx (by simp at hlt;omega))) rfl rfl rfl rfl rfl
def kP(key:Nat→Int)(a b:Nat):Prop:=key a<key b∨(key a=key b∧a<b)
theorem xv(key:Nat→Int)(i:Nat)(o:List Nat):(fZ key i o).Perm (i::o):=by
 have h:(o.takeWhile fun k=>decide (key k≤key i))++(o.dropWhile fun k=>decide (key k≤key i))=o:=List.takeWhile_append_dropWhile
 have:=(List.perm_middle (a:=i) (l₁:=o.takeWhile fun k=>decide (key k≤key i)) (l₂:=o.dropWhile fun k=>decide (key k≤key i)))
 rw[h] at this
 exact this
theorem IY(key:Nat→Int)(i:Nat):∀ o:List Nat,o.Pairwise (kP key)→(∀ x∈o,x<i)→(fZ key i o).Pairwise (kP key)
 | [],_,_=>by simp[fZ]
 |a::o,hs,hi=>by
  obtain ⟨h1,h2⟩:=List.pairwise_cons.1 hs
  by_cases ha:key a≤key i
  ·have e:fZ key i (a::o)=a::fZ key i o:=by simp[fZ,ha]
   rw[e]
   refine List.pairwise_cons.2 ⟨fun b hb =>?_,IY key i o h2 fun x hx=>hi x (by simp[hx])⟩
   rcases List.mem_cons.1 ((xv key i o).mem_iff.1 hb) with rfl | hb
   ·have:=hi a (by simp)
    simp only[kP];omega
   ·exact h1 b hb
  ·have e:fZ key i (a::o)=i::a::o:=by simp[fZ,ha]
   rw[e]
   refine List.pairwise_cons.2 ⟨fun b hb =>?_,hs⟩
   rcases List.mem_cons.1 hb with rfl | hb
   ·simp only[kP];omega
   ·have:=h1 b hb
    simp only[kP] at *;omega
theorem pY(key:Nat→Int):∀ (l o:List Nat),o.Pairwise (kP key)→l.Pairwise (· < ·)→(∀ x∈o,∀ y∈l,x<y)→(l.foldl (fun o i=>fZ key i o) o).Perm (o++l)∧(l.foldl (fun o i=>fZ key i o) o).Pairwise (kP key)
 | [],o,ho,_,_=>by simp[ho]
 |i::l,o,ho,hl,hx=>by
  obtain ⟨h1,h2⟩:=List.pairwise_cons.1 hl
  have:=pY key l (fZ key i o) (IY key i o ho fun x h=>hx x h i (by simp)) h2 fun x h y hy=>by
   rcases List.mem_cons.1 ((xv key i o).mem_iff.1 h) with rfl | h
   ·exact h1 y hy
   ·exact hx x h y (by simp[hy])
  refine ⟨this.1.trans ?_,this.2⟩
  exact ((xv key i o).append_right l).trans List.perm_middle.symm
def bL(l:List Nat):List Int:=l.map fun n:Nat=>(n:Int)
def lA(l:List al)(day known:Int):List Int:=bL (iS l day known)
def pX(l:List al)(day known:Int):List Int:=bL (fe l day known)
theorem alM(l:List al)(known:Int):(ed l known).Pairwise (· < ·):=List.Pairwise.filter _ List.pairwise_lt_range
theorem MW{l:List al}{known:Int}{i:Nat}(h:i∈ed l known):i<l.length:=by
 simp only[ed,List.mem_filter,List.mem_range] at h;exact h.1
theorem pt(l:List al)(day known:Int):(iS l day known).Pairwise (· < ·):=List.Pairwise.filter _ (alM l known)
theorem sC{l:List al}{day known:Int}{i:Nat}(h:i∈iS l day known):i<l.length:=MW (List.mem_filter.1 h).1
theorem Xk(l:List al)(day known:Int):(lA l day known).Pairwise (· < ·):=by
 refine List.pairwise_map.2 ((pt l day known).imp fun {a b} h =>?_)
 show (a:Int)<(b:Int)
 omega
theorem Xj{l:List al}{day known:Int} : ∀ x∈lA l day known,ju l x:=fun x hx=>by
 obtain ⟨i,hi,rfl⟩:=List.mem_map.1 hx
 have:=sC hi
 exact ⟨by omega,by omega⟩
theorem qC(l:List al)(day known:Int):(iS l day known).length≤l.length:=by
 have h1:=List.length_filter_le (fun i=>decide ((ae l i).kind≠0)&&decide ((ae l i).day≤day)) (ed l known)
 have h2:=List.length_filter_le (fun i=>(ep l known).getD i false) (List.range l.length)
 rw[List.length_range] at h2
 exact Nat.le_trans h1 h2
theorem akc{l:List al}{day known:Int}{s:List Int}(hp:s.Perm (lA l day known))(hs:dh l s):s=pX l day known:=by
 have h0:=pY (fun i=>(ae l i).day) (iS l day known) [] (by simp) (pt l day known) (by simp)
 have h1:(pX l day known).Perm (lA l day known):=h0.1.map _
 have h2:dh l (pX l day known):=by
  refine List.pairwise_map.2 (h0.2.imp fun {a b} h =>?_)
  simp only[kP] at h
  simp only[dJ,gn,Int.toNat_natCast]
  omega
 refine List.Perm.eq_of_pairwise (fun a b _ _ h k =>?_) hs h2 (hp.trans h1.symm)
 simp only[dJ] at h k;omega
theorem ye{l:List al}{day known:Int}{i:Nat}(h:i∈fe l day known):i∈iS l day known:=by
 have h0:=pY (fun i=>(ae l i).day) (iS l day known) [] (by simp) (pt l day known) (by simp)
 exact h0.1.mem_iff.1 h
theorem tO(l:List al)(day known:Int):(fe l day known).length=(iS l day known).length:=by
 have h0:=pY (fun i=>(ae l i).day) (iS l day known) [] (by simp) (pt l day known) (by simp)
 exact h0.1.length_eq
theorem ajN{x:al}(h:hE x=true):0≤x.day∧x.day≤100000:=by
 simp only[hE,ca,Bool.and_eq_true,decide_eq_true_eq] at h
 omega
theorem uv(l:List al)(known:Int):(ep l known).length=l.length:=rK known l
theorem Oi(el:List al):av Tryz.prog 203 [enc ([]:List Int),.int .i64 0,.int .i64 0,.func 138 [.ref (enc el)]] (.tuple []):=by
 refine av.bn Tryz.func203 Cs CA CT (Nat.le_of_ble_eq_true rfl) (fun hwf W0 D0 E1 =>?_)
 simp only[vj,yq,a6,Nat.zero_add,Nat.reduceAdd]
 clear hwf
 have hc:decide ((1:Int)<0)=false:=by decide
 have hw:IntKind.i64.wrap 1=1:=by decide
 refine .au (by decide +kernel) fun K hK =>?_
 simp only[wQ,U,Nat.reduceEqDiff,reduceIte]
 refine .done (hK _ ?_);clear hK K
 refine J.block (J.loop (fun _:Unit=>aq [(2,.int .i64 0),(8,.int .i64 1)] []) (fun _=>True) (fun _=>0) () trivial ?_ (fun _ _ =>?_))
 ·refine aC.bZ ?_ ?_ ?_ ?_ <;>simp[*,aX,bO,bM,bt,aW,I.only]
 have R:=And.intro @hc (And.intro @kE (And.intro @bh (And.intro @aK @U)))
 repeat' ((first
  |(with_reducible refine .guard (fun hb =>?_) (fun hb =>?_) <;>try simp only[hb])
  |refine J.aG (by decide +kernel) rfl fun K hK =>?_
  |(refine .aw [0,1,2,3,8,9,14,34] hK ?_;clear hK K)
  |(with_reducible refine .done (hK _ ?_);clear hK K)
  |refine J.of rfl ?_
  |(with_reducible refine ak.aE (fun h =>?_) (fun h =>?_) <;>try simp only[h])) <;>try simp only[aH,R,Nat.reduceEqDiff,reduceIte,Nat.reduceBEq])
 all_goals clear R
 rfl
theorem N4(el:List al):av Tryz.prog 171 [enc ([]:List Int),.int .i64 0,.func 138 [.ref (enc el)]] (.tuple []):=by
 refine av.bn Tryz.func171 Cp Cy CR (Nat.le_of_ble_eq_true rfl) (fun hwf W0 D0 E1 =>?_)
 simp only[vh,yn,a6,Nat.zero_add,Nat.reduceAdd]
 clear hwf
 have hc:decide ((20:Int)≤0)=false:=by decide
 have hc2:decide ((20:Int)<0)=false:=by decide
 refine .au (by decide +kernel) fun K hK =>?_
 simp only[wH,U]
 refine .done (hK _ ?_);clear hK K
 refine .au (by decide +kernel) fun K hK =>?_
 simp only[wI,U,Nat.reduceEqDiff,reduceIte]
 refine .done (hK _ ?_);clear hK K
 refine J.seq (J.block (J.loop (fun _:Unit=>aq [(0,enc ([]:List Int)),(1,.int .i64 0),(2,.func 138 [.ref (enc el)]),(6,.int .i64 20),(7,.int .i64 0),(8,.int .i64 20)] []) (fun _=>True) (fun _=>0) () trivial ?_ (fun _ _ =>?_)))
 ·refine aC.bZ ?_ ?_ ?_ ?_ <;>simp[aX,bO,bM,bt,aW,I.only,I.bP,bB]
 have R:=And.intro @hc (And.intro @kE (And.intro @bh (And.intro @aK @U)))
 repeat' ((first
  |(with_reducible refine .guard (fun hb =>?_) (fun hb =>?_) <;>try simp only[hb])
  |refine J.aG (by decide +kernel) rfl fun K hK =>?_
  |refine .lead _ (Oi el) ?_
  |(refine .aw [0,1,2,6,7,8,9,13,30,35,54] hK ?_;clear hK K)
  |(with_reducible refine .done (hK _ ?_);clear hK K)
  |refine J.of rfl ?_
  |(with_reducible refine ak.aE (fun h =>?_) (fun h =>?_) <;>try simp only[h])) <;>try simp only[aH,R,Nat.reduceEqDiff,reduceIte,Nat.reduceBEq])
 all_goals clear R
 refine J.loop (fun _:Unit=>aq [(0,enc ([]:List Int)),(1,.int .i64 0),(2,.func 138 [.ref (enc el)]),(6,.int .i64 20)] []) (fun _=>True) (fun _=>0) () trivial ?_ (fun _ _ =>?_)
 ·refine aC.bZ ?_ ?_ ?_ ?_ <;>simp[aX,bO,bM,bt,aW,I.only,I.bP,bB]
 have R:=And.intro @hc2 (And.intro @kE (And.intro @bh (And.intro @aK @U)))
 repeat' ((first
  |(with_reducible refine .guard (fun hb =>?_) (fun hb =>?_) <;>try simp only[hb])
  |refine J.aG (by decide +kernel) rfl fun K hK =>?_
  |(refine .aw [0,1,2,6,7,8,9,13,30,35,54] hK ?_;clear hK K)
  |(with_reducible refine .done (hK _ ?_);clear hK K)
  |refine J.of rfl ?_
  |(with_reducible refine ak.aE (fun h =>?_) (fun h =>?_) <;>try simp only[h])) <;>try simp only[aH,R,Nat.reduceEqDiff,reduceIte,Nat.reduceBEq])
 all_goals clear R
 rfl
theorem NL(el:List al):av Tryz.prog 137 [enc ([]:List Int),.func 138 [.ref (enc el)]] (.tuple []):=by
 refine av.bn Tryz.func137 Co Cx CQ (Nat.le_of_ble_eq_true rfl) (fun hwf W0 D0 E1 =>?_)
 simp only[vg,ym,a6,Nat.zero_add]
 clear hwf
 have hz:(([]:List Int).length:Int)=0:=rfl
 have R:=And.intro @hz (And.intro @kE (And.intro @bh (And.intro @aK @U)))
 repeat' ((first
  |(with_reducible refine .guard (fun hb =>?_) (fun hb =>?_) <;>try simp only[hb])
  |refine J.aG (by decide +kernel) rfl fun K hK =>?_
  |refine .lead _ (N4 el) ?_
  |(refine .aw [0,1] hK ?_;clear hK K)
  |(with_reducible refine .done (hK _ ?_);clear hK K)
  |refine J.of rfl ?_
  |(with_reducible refine ak.aE (fun h =>?_) (fun h =>?_) <;>try simp only[h])) <;>try simp only[R,Nat.reduceEqDiff,reduceIte])
 all_goals clear R
 rfl
def ak3(l:List cv):Prop:=∀ (i j:Nat) (hi:i<l.length) (hj:j<l.length),i<j→l[i].b5<l[j].b5
theorem amr{m:cH}(h:gN m=true):ak3 m.given:=by
 simp only[gN,Bool.and_eq_true,List.all_eq_true,List.mem_range] at h
 have h1:∀ i,i+1<m.given.length→(eE m i).b5<(eE m (i+1)).b5:=fun i hi=>by
  have:=h.2.2.2 (i+1) hi
  simp only[je,Bool.and_eq_true] at this
  simpa using this.2.2.1
 intro i j hi hj hij
 obtain ⟨d,rfl⟩:∃ d,j=i+1+d:=⟨j-(i+1),by omega⟩
 induction d with
 |zero=>rw[kK hi,kK hj];exact h1 i hj
 |succ d ih =>
  have hj':i+1+d<m.given.length:=by omega
  have:=ih hj' (by omega)
  rw[kK hi,kK hj'] at this
  rw[kK hi,kK hj]
  have h3:=h1 (i+1+d) hj
  have e:i+1+(d+1)=i+1+d+1:=by omega
  rw[e];omega
theorem ajU{m:cH}(h:gN m=true):m.given.length≤40:=by
 simp only[gN,Bool.and_eq_true,decide_eq_true_eq] at h
 exact h.2.2.1
theorem ajV{m:cH}(h:gN m=true):∀ g∈m.given,gf g.mark=true:=fun g hg=>by
 simp only[gN,Bool.and_eq_true,List.all_eq_true,List.mem_range] at h
 obtain ⟨i,hi,rfl⟩:=List.getElem_of_mem hg
 rw[kK hi]
 exact JG (h.2.2.2 i hi)
theorem Og(m:cH)(r:bI 6 Int)(g:cv)(hg:gf g.mark=true):av Tryz.prog 201 (enc g::[.ref (enc m),.ref (enc r)]) (enc (decide (m.gT<mh m.gC g.mark r))):=by
 refine av.bn Tryz.func201 Q9 S7 Vi (Nat.le_of_ble_eq_true rfl) (fun hwf W0 D0 E1 =>?_)
 simp only[Bz,Lh,a6,Nat.zero_add,Nat.reduceAdd]
 refine .au (by decide +kernel) fun K hK =>?_
 simp only[G7,U,simprocAttr]
 try simp only[dQ,U,simprocAttr]
 refine .done (hK _ ?_);clear hK K
 refine .au (by decide +kernel) fun K hK =>?_
 simp only[G8,U,simprocAttr]
 try simp only[er,fb,U,simprocAttr]
 refine .flat _ (Oh m.gC g.mark r hg) rfl ?_
 try simp only[er,U,simprocAttr]
 refine .done (hK _ ?_);clear hK K
 refine J.ret ?_
 simp only[U,simprocAttr]
def kU(m:cH)(r:bI 6 Int):List cv:=fN (fun g=>decide (m.gT<mh m.gC g.mark r)) m.given
def J7(d:Nat)(m:cH)(r:bI 6 Int):cN:=fun x os'=>(kU m r=[]∧x=enc ([]:List cv)∧os'=[])∨∃ k,x=.view d [] 7 0 (kU m r).length∧os'=iH d (kU m r) k
theorem N0(m:cH)(r:bI 6 Int)(hm:∀ g∈m.given,gf g.mark=true)(hlen:m.given.length≤1000):cz Tryz.prog 168 [enc m,enc r] [] (J7 7 m r):=by
 refine cz.bn Tryz.func168 QR SN UZ (Nat.le_of_ble_eq_true rfl) (Nat.le_of_ble_eq_true rfl) (fun m hm=>by simp[ao,ai] at hm) (fun hwf W0 D0 E1 =>?_)
 simp only[Bf,KY,a6,Nat.zero_add]
 refine .au (by decide +kernel) fun K hK =>?_
 simp only[Ge,U,simprocAttr]
 try simp only[dQ,U,simprocAttr]
 refine .done (hK _ ?_);clear hK K
 refine .au (by decide +kernel) fun K hK =>?_
 simp only[Gf,U,simprocAttr]
 try simp only[er,fb,U,simprocAttr]
 refine .bQ false [(7,7)] [] [enc m.given] (vw m.given) rfl (zA m.given hlen) fU.nil ⟨.inl ⟨(jM _ _).symm,bB _ _,dQ _⟩,trivial⟩ ?_ ?_
 ·rintro x os' (⟨_,h | h,rfl⟩ | ⟨_,k,rfl,rfl⟩)
  ·subst h;exact ev.nil (fun _=>rfl) (fun h=>by cases h)
  ·subst h;exact ev.nil (fun _=>rfl) (fun h=>by cases h)
  ·exact ev.tC (fun p=>mB p _) (fun h=>by cases h) rfl (fun h=>by cases h) rfl (by decide)
 ·have hd:I.eS [.ref (enc m),.ref (enc r)]=true:=by simp only[I.eS,I.done,dP,Bool.and_self]
  rintro x os' (⟨hn,h,rfl⟩ | ⟨hn,k,rfl,rfl⟩)
  ·have hp:kU m r=[]:=by simp[kU,fN,hn]
   have key:∀ x,(x=.nils 7∨x=.c0 7)→bd true (aq [] []) x=some (enc ([]:List cv)):=by rintro x (rfl | rfl) <;>rfl
   have hren:∀ x:I,(x=.nils 7∨x=.c0 7)→x.aM (bA [(7,7)])=x∧x.cm=true:=by rintro x (rfl | rfl) <;>exact ⟨by simp only[I.aM],rfl⟩
   rw[(hren x h).1]
   try simp only[jj,List.nil_append,List.all_cons,List.all_nil,I.cm,Bool.and_self,U,simprocAttr]
   have hfx:∀ A,bd true A x=some (enc ([]:List cv)):=fun A=>by rcases h with rfl | rfl <;>simp only[bd,fW,List.map_nil] <;>rfl
   refine .gU [2,3] (enc ([]:List cv)) rfl (Of 201 [.ref (enc m),.ref (enc r)] hd) ?_ ?_ ?_
   ·try simp only[hfx,fS,List.filter_cons,List.filter_nil,List.contains_cons,Nat.reduceBEq,Bool.or_true,Bool.true_or,BEq.rfl,dP,U,simprocAttr]
   ·simp[cw,bt]
   ·try simp only[fG,cw,List.filter_cons,List.filter_nil,List.contains_cons,Nat.reduceBEq,Bool.or_true,Bool.true_or,BEq.rfl,List.map_cons,List.map_nil,U,simprocAttr]
    refine .done (hK _ ?_);clear hK K
    refine J.ret ?_
    simp only[fq]
    exact ⟨[],[enc ([]:List cv)],pF,⟨⟨_,rfl,.inl ⟨rfl,rfl,rfl⟩⟩,trivial⟩,.inl ⟨hp,rfl,rfl⟩⟩
  ·try simp only[iH,jj,gw,List.cons_append,List.nil_append,List.all_cons,List.all_nil,I.cm,Bool.and_self,U,simprocAttr]
   refine .bQ true [(1000000,7)] (iH 1000000 m.given k) [.view 1000000 [] 7 0 m.given.length,.func 201 [.ref (enc m),.ref (enc r)]] (CY 1000000 (kU m r)) rfl
    (Oe m.given 201 [.ref (enc m),.ref (enc r)] hd (fun g=>decide (m.gT<mh m.gC g.mark r)) (fun g hg=>Og m r g (hm g hg)) hlen k) ⟨?_,?_⟩ ⟨.inl ⟨?_,?_,rfl⟩,.inr ?_,trivial⟩ ?_ ?_
   ·intro n x h
    simp only[iH,ai] at h
    split at h
    ·rename_i hn'
     subst hn'
     simp only[Option.some.injEq] at h
     subst h
     exact ⟨by simp only[jj,gw,U,simprocAttr],mB _ _,rfl⟩
    ·cases h
   ·intro a b ha hb _
    rw[cQ.1 ha,cQ.1 hb]
   ·try simp only[jj,simprocAttr]
   ·exact cQ.2 rfl
   ·try simp only[jQ,iH,bA,cw,List.filter_cons,List.filter_nil,List.map_cons,List.map_nil,List.contains_cons,List.contains_nil,Nat.reduceBEq,Bool.or_false,BEq.rfl,dP,U,simprocAttr]
   ·rintro x os' ⟨k',rfl,rfl⟩
    exact ev.one (fun p=>mB p _) (fun _=>aiJ _) (cQ.2 rfl) (fun _=>rfl)
   ·rintro x os' ⟨k',rfl,rfl⟩
    try simp only[iH,jj,gw,List.cons_append,List.nil_append,U,simprocAttr]
    refine .done (hK _ ?_);clear hK K
    refine J.ret ?_
    simp only[fq]
    exact ⟨iH 7 (kU m r) k',[.view 7 [] 7 0 (kU m r).length],kL rfl (fun p=>mB p _),⟨⟨_,rfl,.inl ⟨rfl,rfl,rfl⟩⟩,trivial⟩,.inr ⟨k',rfl,rfl⟩⟩
def kS(l:List cv)(i:Nat):List Int:=(l.take i).map (·.b5)
theorem akj(l:List cv):kS l 0=[]:=by simp[kS]
theorem aki{l:List cv}{i:Nat}(h:i<l.length):kS l (i+1)=kS l i++[l[i].b5]:=by
 simp only[kS];rw[List.take_succ_eq_append_getElem h,List.map_append];rfl
theorem JY{l:List cv}{i:Nat}(h:i≤l.length):(kS l i).length=i:=by simp[kS];omega
theorem akh(l:List cv):kS l l.length=l.map (·.b5):=by simp[kS]
theorem N1(l:List cv)(hlen:l.length≤1000):av Tryz.prog 169 [enc l] (enc (l.map (·.b5))):=by
 refine av.bn Tryz.func169 QS SO U0 (Nat.le_of_ble_eq_true rfl) (fun hwf W0 D0 E1 =>?_)
 simp only[Bg,KZ,a6]
 refine .au (by decide +kernel) fun K hK =>?_
 simp only[Gg,U,simprocAttr]
 refine .done (hK _ ?_);clear hK K
 refine .au (by decide +kernel) fun K hK =>?_
 simp only[Gh,U,simprocAttr]
 refine .done (hK _ ?_);clear hK K
 refine J.seq ?_
 refine J.seq (J.bV (by decide +kernel) fun K hK =>?_)
 try simp only[Gi,bh,U,simprocAttr]
 refine .done (hK _ ?_);clear hK K
 refine J.block (J.loop (fun i:Nat=>aq [(3,.own 3 (kS l i).length),(6,enc l),(7,.int .i64 l.length),(8,.int .i64 i)] [(3,.bT 3 1 ((kS l i).map enc))]) (fun i=>i≤l.length) (fun i=>l.length-i) 0 (Nat.zero_le _) ?_ (fun i hi =>?_))
 ·refine aC.ln 3 3 3 1 1 ?_ ?_ ?_
  ·simp only[o5,Nat.reduceEqDiff,reduceIte]
  ·simp only[o5]
  ·simp only[akj,List.map_nil,List.length_nil]
   refine aC.bZ ?_ ?_ ?_ ?_ <;>simp[aX,bO,bM,bt,ao,aW,cA,I.only,I.bP,ah.only,bB]
 ·refine .au (by decide +kernel) fun K hK =>?_
  simp only[Gj,U,simprocAttr]
  refine .done (hK _ ?_);clear hK K
  refine J.seq ?_
  refine J.bW ?_
  simp only[ak,U,simprocAttr]
  refine ⟨fun h =>?_,fun h =>?_⟩
  ·have hlt:i<l.length:=by simpa using h
   refine J.skip ?_;try simp only[aF,simprocAttr]
   refine J.seq (J.block ?_)
   refine .au (by decide +kernel) fun K hK =>?_
   simp only[Gk,U,simprocAttr]
   try simp only[eA 7 hlt rfl,er,U,simprocAttr]
   rw[eD (dQ _) (by rw[fX];rfl) ((eM _).trans rfl)]
   try simp only[U,simprocAttr]
   refine .done (hK _ ?_);clear hK K
   refine .bV (by decide +kernel) fun K hK =>?_
   simp only[Gl,U,simprocAttr]
   try simp only[er,U,simprocAttr]
   rw[jr 3 1 8 3 rfl rfl (by simp) (by simp[maxLen,JY hi];omega) (by simp[JY hi];omega)]
   try simp only[U,simprocAttr]
   refine .done (hK _ ?_);clear hK K;try simp only[aF,b8]
   refine .bV (by decide +kernel) fun K hK =>?_
   simp only[Gm,U,simprocAttr]
   refine .done (hK _ ?_);clear hK K;try simp only[aF]
   refine ⟨i+1,by omega,by omega,?_⟩
   rw[dz _ (by omega) (by omega),aki hlt]
   refine aC.bZ ?_ ?_ ?_ ?_ <;>simp[aX,bO,bM,bt,ao,aW,cA,I.only,I.bP,ah.only,dU,gv,bB,ij]
  ·have hge:i=l.length:=by simp at h;omega
   subst hge
   refine J.exit ?_;try simp only[aF,b8,simprocAttr]
   refine .au (by decide +kernel) fun K hK =>?_
   simp only[Gn,U,simprocAttr]
   refine .done (hK _ ?_);clear hK K
   refine J.ret ?_
   try simp only[akh,U,simprocAttr]
def eJ(rs:List (bI 6 Int))(j:Nat):bI 6 Int:=rs.getD j Nk
theorem ah3{A:ab}{rs:List (bI 6 Int)}{i:Nat}(h:i<rs.length):gX A 6 (i:Int) (enc rs)=some (.ref (enc (eJ rs i))):=by
 rw[eA 6 h rfl];simp[eJ,List.getD_eq_getElem?_getD,h]
def C4(m:cH)(rs:List (bI 6 Int))(g:cv)(j:Nat):Bool:=decide (mh m.gC g.mark (eJ rs j)≤m.gT)
def jy(m:cH)(rs:List (bI 6 Int))(n:Nat):List cv:=m.given.filter fun g=>(List.range n).all (C4 m rs g)
theorem ajJ(m:cH)(rs:List (bI 6 Int)):jy m rs 0=m.given:=by simp[jy]
theorem JD(m:cH)(rs:List (bI 6 Int))(n:Nat):jy m rs (n+1)=kU ⟨m.gC,m.gT,jy m rs n⟩ (eJ rs n):=by
 simp only[jy,kU,fN,List.filter_filter]
 refine List.filter_congr fun g _ =>?_
 rw[List.range_succ,List.all_append]
 simp only[List.all_cons,List.all_nil,Bool.and_true,C4]
 by_cases h:mh m.gC g.mark (eJ rs n)≤m.gT
 ·have h2:¬ m.gT<mh m.gC g.mark (eJ rs n):=by omega
  simp[h,h2]
 ·have h2:m.gT<mh m.gC g.mark (eJ rs n):=by omega
  simp[h,h2]
theorem ajI{m:cH}{rs:List (bI 6 Int)}{n:Nat}{g:cv}(h:g∈jy m rs n):g∈m.given:=(List.mem_filter.1 h).1
theorem JC(m:cH)(rs:List (bI 6 Int))(n:Nat):(jy m rs n).length≤m.given.length:=List.length_filter_le _ _
def x6(rs:List (bI 6 Int)):Bool:=(List.range rs.length).all fun i=>lS (eJ rs i)
def jd(m:cH)(rs:List (bI 6 Int)):List Int×Int:=if gN m then (if rs.length≤60 then (if x6 rs then ((jy m rs rs.length).map (·.b5),0) else ([],12)) else ([],2)) else ([],13)
theorem P0(w:bI 5 Int)(n:Int)(l:List cv):eG [enc (a5 0 0 0 0 0),.int .i64 0,.nils 7] [(0,enc w),(1,.int .i64 n),(2,enc l)]=some [enc w,.int .i64 n,enc l]:=by
 have h1:((enc w:I).cm=true∧(enc w:I).size=(enc (a5 0 0 0 0 0)).size):=⟨dQ _,by rw[iT,iT]⟩
 have h2:((enc l:I).cm=true∧(enc l:I).size=(I.nils 7).size):=⟨dQ _,by rw[iT];rfl⟩
 rw[yS (z:=enc (a5 0 0 0 0 0)) rfl h1.1 h1.2,yS (v:=.int .i64 n) (z:=.int .i64 0) rfl rfl rfl,yS (z:=.nils 7) rfl h2.1 h2.2];rfl
theorem Ny(m:cH)(rs:List (bI 6 Int)):av Tryz.prog 128 [enc m,enc rs] (.tuple [enc (jd m rs).1,enc (jd m rs).2]):=by
 refine av.bn Tryz.func128 Qo Si Uv (Nat.le_of_ble_eq_true rfl) (fun hwf W0 D0 E1 =>?_)
 simp only[AI,Ku,a6,Nat.zero_add]
 refine .au (by decide +kernel) fun K hK =>?_
 simp only[EP,U,simprocAttr]
 try simp only[dQ,U,simprocAttr]
 refine .done (hK _ ?_);clear hK K
 refine J.seq ?_
 refine .au (by decide +kernel) fun K hK =>?_
 simp only[ER,U,simprocAttr]
 try simp only[er,fb,U,simprocAttr]
 refine .flat _ (uN m) rfl ?_
 generalize hm:gN m=bm
 cases bm
 ·try simp only[U,simprocAttr]
  refine .done (hK _ ?_);clear hK K
  refine .au (by decide +kernel) fun K hK =>?_
  simp only[wj,U,simprocAttr]
  refine .done (hK _ ?_);clear hK K
  refine J.bW ?_
  simp only[ak,U,simprocAttr]
  refine ⟨fun h =>?_,fun h =>?_⟩
  ·refine .au (by decide +kernel) fun K hK =>?_
   simp only[ES,U,simprocAttr]
   refine .done (hK _ ?_);clear hK K
   refine J.ret ?_
   simp only[aF,U,simprocAttr]
   simp[jd,hm,xT]
  ·cases h
 try simp only[U,simprocAttr]
 refine .done (hK _ ?_);clear hK K
 refine .au (by decide +kernel) fun K hK =>?_
 simp only[wj,U,simprocAttr]
 refine .done (hK _ ?_);clear hK K
 refine J.bW ?_
 simp only[ak,U,simprocAttr]
 refine ⟨fun h =>?_,fun h =>?_⟩
 ·cases h
 refine J.skip ?_;try simp only[aF,simprocAttr]
 refine J.seq ?_
 refine .au (by decide +kernel) fun K hK =>?_
 simp only[ET,U,simprocAttr]
 try simp only[bh,U,simprocAttr]
 refine .done (hK _ ?_);clear hK K
 refine J.bW ?_
 simp only[ak,U,simprocAttr]
 refine ⟨fun h =>?_,fun h =>?_⟩
 ·refine .au (by decide +kernel) fun K hK =>?_
  simp only[EU,U,simprocAttr]
  refine .done (hK _ ?_);clear hK K
  refine J.ret ?_
  simp only[aF,U,simprocAttr]
  have:¬ rs.length≤60:=by simp at h;omega
  simp[jd,hm,this,xT]
 have hrl:rs.length≤60:=by simp at h;omega
 refine J.skip ?_;try simp only[aF,simprocAttr]
 have hlen:m.given.length≤1000:=by have:=ajU hm;omega
 -- from the clone on
 have key:∀ c:cJ,c=⟨Tryz.prog,W0,D0,Tryz.f128.ntmps,dy E1,E1,iC,none⟩→J c (.seq (.seq (.bS none wm) (.block 0 (.loop (.seq (.bS none wo) (.seq (.cond (.t 25) .skip (.exit 0)) (.seq (.block 1 (.seq (.bS none wq) (.seq (.seq (.bS none we) (.seq (.bS none sM) (.cond (.t 31) (.seq (.bS none wg) .ret) .skip))) (.bS none wh)))) (.bS none sN))))))) (.seq (.bS none wi) .ret))
   (jB [.tmp 4,.tmp 5] (.tuple [enc (jd m rs).1,enc (jd m rs).2])) (aq [(1,enc rs),(2,.ptr 2 []),(7,enc m.given)] [(2,.box (enc m))]):=by
  rintro c rfl
  refine J.seq ?_
  refine .au (by decide +kernel) fun K hK =>?_
  simp only[wm,U,simprocAttr]
  try simp only[bh,U,simprocAttr]
  refine .done (hK _ ?_);clear hK K
  refine J.block (J.loop (fun i:Nat=>aq [(1,enc rs),(2,.ptr 2 []),(7,enc (jy m rs i)),(22,enc rs),(23,.int .i64 rs.length),(24,.int .i64 i)] [(2,.box (enc m))]) (fun i=>i≤rs.length∧∀ j,j<i→lS (eJ rs j)=true) (fun i=>rs.length-i) 0 ⟨by omega,fun j h=>by omega⟩ ?_ (fun i hi =>?_))
  ·rw[ajJ]
   refine aC.bZ ?_ ?_ ?_ ?_ <;>simp[aX,bO,bM,bt,ao,aW,cA,I.only,ah.only,bB]
  refine .au (by decide +kernel) fun K hK =>?_
  simp only[wo,U,simprocAttr]
  refine .done (hK _ ?_);clear hK K
  refine J.seq ?_
  refine J.bW ?_
  simp only[ak,U,simprocAttr]
  refine ⟨fun h =>?_,fun h =>?_⟩
  case refine_2.refine_2 =>
   have hge:i=rs.length:=by simp at h;omega
   subst hge
   have hok:x6 rs=true:=o7 hi.2
   refine J.exit ?_;try simp only[aF,b8,simprocAttr]
   refine .au (by decide +kernel) fun K hK =>?_
   simp only[wi,U,simprocAttr]
   try simp only[fb,U,simprocAttr]
   refine .lead _ (N1 (jy m rs rs.length) (Nat.le_trans (JC _ _ _) hlen)) ?_
   try simp only[U,simprocAttr]
   refine .done (hK _ ?_);clear hK K
   refine J.ret ?_
   simp only[U,simprocAttr]
   try simp only[fb,U,simprocAttr]
   simp[jd,hm,hrl,hok]
  have hlt:i<rs.length:=by simp at h;omega
  refine J.skip ?_;try simp only[aF,simprocAttr]
  refine J.seq (J.block ?_)
  refine .au (by decide +kernel) fun K hK =>?_
  simp only[wq,U,simprocAttr]
  try simp only[er,ah3 hlt,Xq,alG,U,simprocAttr]
  refine .done (hK _ ?_);clear hK K
  refine J.seq ?_
  refine .au (by decide +kernel) fun K hK =>?_
  simp only[we,U,simprocAttr]
  try simp only[er,fb,U,simprocAttr]
  refine .flat _ (zw (eJ rs i)) rfl ?_
  generalize hr:lS (eJ rs i)=aE
  cases aE
  ·try simp only[U,simprocAttr]
   refine .done (hK _ ?_);clear hK K
   refine .au (by decide +kernel) fun K hK =>?_
   simp only[sM,U,simprocAttr]
   refine .done (hK _ ?_);clear hK K
   refine J.bW ?_
   simp only[ak,U,simprocAttr]
   refine ⟨fun h =>?_,fun h =>?_⟩
   ·refine .au (by decide +kernel) fun K hK =>?_
    simp only[wg,U,simprocAttr]
    refine .done (hK _ ?_);clear hK K
    refine J.ret ?_
    simp only[b8,aF,U,simprocAttr]
    have hok:x6 rs=false:=m6 i hlt hr
    simp[jd,hm,hrl,hok,xT]
   ·cases h
  try simp only[U,simprocAttr]
  refine .done (hK _ ?_);clear hK K
  refine .au (by decide +kernel) fun K hK =>?_
  simp only[sM,U,simprocAttr]
  refine .done (hK _ ?_);clear hK K
  refine J.bW ?_
  simp only[ak,U,simprocAttr]
  refine ⟨fun h =>?_,fun h =>?_⟩
  ·cases h
  refine J.skip ?_;try simp only[aF,simprocAttr]
  have hof:∀ j,j<i+1→lS (eJ rs j)=true:=fun j hj=>by
   rcases Nat.lt_or_ge j i with h1 | h1
   ·exact hi.2 j h1
   ·have:j=i:=by omega
    subst this;exact hr
  refine .bV (by decide +kernel) fun K hK =>?_
  simp only[wh,U,simprocAttr]
  try simp only[er,fb,P0,Xp,Xo,U,simprocAttr]
  refine .bQ false [(7,40)] [] [enc (⟨m.gC,m.gT,jy m rs i⟩:cH),enc (eJ rs i)] (J7 7 ⟨m.gC,m.gT,jy m rs i⟩ (eJ rs i)) rfl (N0 ⟨m.gC,m.gT,jy m rs i⟩ (eJ rs i) (fun g hg=>ajV hm g (ajI hg)) (Nat.le_trans (JC m rs i) hlen)) fU.nil ⟨.inl ⟨(jM _ _).symm,bB _ _,dQ _⟩,.inl ⟨(jM _ _).symm,bB _ _,dQ _⟩,trivial⟩ ?_ ?_
  ·rintro x os' (⟨_,rfl,rfl⟩ | ⟨k,rfl,rfl⟩)
   ·exact ev.nil (fun _=>rfl) (fun h=>by cases h)
   ·exact ev.tC (fun p=>mB p _) (fun h=>by cases h) rfl (fun h=>by cases h) rfl (by decide)
  ·rintro x os' (⟨hp,rfl,rfl⟩ | ⟨k,rfl,rfl⟩)
   ·try simp only[jM,jj,List.nil_append,U,simprocAttr]
    refine .done (hK _ ?_);clear hK K;try simp only[aF,b8]
    refine .bV (by decide +kernel) fun K hK =>?_
    simp only[sN,U,simprocAttr]
    refine .done (hK _ ?_);clear hK K;try simp only[aF]
    refine ⟨i+1,⟨by omega,hof⟩,by omega,?_⟩
    rw[dz _ (by omega) (by omega),JD,hp]
    refine aC.bZ ?_ ?_ ?_ ?_ <;>simp[aX,bO,bM,bt,ao,aW,cA,I.only,ah.only,bB]
   ·try simp only[iH,jj,gw,List.cons_append,List.nil_append,U,simprocAttr]
    refine .done (hK _ ?_);clear hK K;try simp only[aF,b8]
    refine .bV (by decide +kernel) fun K hK =>?_
    simp only[sN,U,simprocAttr]
    refine .done (hK _ ?_);clear hK K;try simp only[aF]
    refine ⟨i+1,⟨by omega,hof⟩,by omega,?_⟩
    rw[dz _ (by omega) (by omega),JD]
    refine aC.oe (y:=enc (kU ⟨m.gC,m.gT,jy m rs i⟩ (eJ rs i))) [40] 7 rfl ?_ ?_ ?_ ?_ ?_ ?_
    ·try simp only[fS,List.filter_cons,List.filter_nil,List.contains_cons,List.contains_nil,Nat.reduceBEq,Bool.or_false,BEq.rfl,qJ (α:=cv) (sz:=7) rfl,zb,U,simprocAttr]
    ·simp[cw,bt,ah.only,bB]
    ·simp[aX,fG,aW,I.only,bB]
    ·simp[bO,cw,cA]
    ·simp[bM,ao,cA,I.only,bB]
    ·simp[bt,ah.only,bB]
 refine .au (by decide +kernel) fun K hK =>?_
 simp only[EV,U,simprocAttr]
 try simp only[er,fb,U,simprocAttr]
 refine .bQ false [(7,21)] [] [enc m.given] (vw m.given) rfl (zA m.given hlen) fU.nil ⟨.inl ⟨(jM _ _).symm,bB _ _,dQ _⟩,trivial⟩ ?_ ?_
 ·rintro x os' (⟨_,h | h,rfl⟩ | ⟨_,k,rfl,rfl⟩)
  ·subst h;exact ev.nil (fun _=>rfl) (fun h=>by cases h)
  ·subst h;exact ev.nil (fun _=>rfl) (fun h=>by cases h)
  ·exact ev.tC (fun p=>mB p _) (fun h=>by cases h) rfl (fun h=>by cases h) rfl (by decide)
 ·rintro x os' (⟨hn,h,rfl⟩ | ⟨hn,k,rfl,rfl⟩)
  ·have hren:∀ x:I,(x=.nils 7∨x=.c0 7)→x.aM (bA [(7,21)])=x:=by rintro x (rfl | rfl) <;>simp only[I.aM]
   rw[hren x h]
   try simp only[jj,List.nil_append,U,simprocAttr]
   refine .done (hK _ ?_);clear hK K
   refine J.sub (aC.oe (y:=enc m.given) [] 7 rfl ?_ ?_ ?_ ?_ ?_ ?_) (key _ rfl)
   ·rw[hn];rcases h with rfl | rfl <;>simp only[fW,List.map_nil] <;>rfl
   ·simp[cw,bt,ah.only,bB]
   ·simp[aX,fG,aW,I.only,bB]
   ·simp[bO,cw,cA]
   ·simp[bM,ao,cA,I.only,bB]
   ·simp[bt,ah.only,bB]
  ·try simp only[iH,jj,gw,List.cons_append,List.nil_append,U,simprocAttr]
   refine .done (hK _ ?_);clear hK K
   refine J.sub (aC.oe (y:=enc m.given) [21] 7 rfl ?_ ?_ ?_ ?_ ?_ ?_) (key _ rfl)
   ·try simp only[fS,List.filter_cons,List.filter_nil,List.contains_cons,List.contains_nil,Nat.reduceBEq,Bool.or_false,BEq.rfl,qJ (α:=cv) (sz:=7) rfl,zb,U,simprocAttr]
   ·simp[cw,bt,ah.only,bB]
   ·simp[aX,fG,aW,I.only,bB]
   ·simp[bO,cw,cA]
   ·simp[bM,ao,cA,I.only,bB]
   ·simp[bt,ah.only,bB]
theorem Dm(n:Nat)(ts:List (Nat×I)):∀ t,Abs.bH (fG [n] ts) t=if (Abs.bH ts t).only (fun j => ![n].contains j)=true then Abs.bH ts t else .c7:=by
 intro t
 simp only[fG]
 induction ts with
 |nil=>simp[Abs.bH]
 |cons q ts ih =>
  obtain ⟨k,v⟩:=q
  simp only[List.map_cons,Abs.bH]
  split
  ·rfl
  ·exact ih
theorem Dn(ns:List Nat)(ts:List (Nat×I)):∀ t,Abs.bH (fG ns ts) t=if (Abs.bH ts t).only (fun j => !ns.contains j)=true then Abs.bH ts t else .c7:=by
 intro t
 simp only[fG]
 induction ts with
 |nil=>simp[Abs.bH]
 |cons q ts ih =>
  obtain ⟨k,v⟩:=q
  simp only[List.map_cons,Abs.bH]
  split
  ·rfl
  ·exact ih
theorem qj{p q:Nat→Bool}(h:∀ n,p n=true→q n=true){y:ah}(hy:y.only p=true):y.only q=true:=by
 cases y with
 |box x=>exact jf h _ hy
 |bT T sz es=>exact iE h _ hy
 |dL o=>rfl
 |cM T xs=>rfl
 |ct ks vs=>simp only[ah.only,Bool.and_eq_true] at hy ⊢;exact ⟨iE h _ hy.1,iE h _ hy.2⟩
 |it ks vs l c=>simp only[ah.only,Bool.and_eq_true] at hy ⊢;exact ⟨iE h _ hy.1,iE h _ hy.2⟩
theorem pU{n k:Nat} : ∀ {ts:List (Nat×I)},(∀ q∈ts,kR n k q.2)→∀ t,kR n k (Abs.bH ts t)
 | [],_,_=>.inr rfl
 |(a,v)::ts,h,t=>by
  simp only[Abs.bH]
  split
  ·exact h (a,v) (by simp)
  ·exact pU (fun q hq=>h q (by simp[hq])) t
theorem tM{p:Nat→Bool}{n k:Nat}(hp:p=fun j => ![n].contains j)(f:ah→ah)(hf:∀ y:ah,y.only p=true→f y=y):∀ {os:List (Nat×ah)},bt p (cw [n] os)→bt p (cw [n] (os.map fun q=>(q.1,f q.2)))
 | [],_=>trivial
 |(m,y)::os,h=>by
  simp only[List.map_cons,cw,List.filter_cons] at h ⊢
  split
  ·rename_i hm
   rw[if_pos hm] at h
   refine ⟨?_,tM (k:=k) hp f hf h.2⟩
   rw[hf y h.1];exact h.1
  ·rename_i hm
   rw[if_neg hm] at h
   exact tM (k:=k) hp f hf h
theorem vV{ys q:List Int}{k:Nat}(hk:ys.length=k):j6 1 0 k (some ((ys++q).map enc))=some (enc ys):=by
 have h:(((ys++q).map (enc (α:=Int))).drop 0).take k=ys.map enc:=by
  rw[List.drop_zero,List.map_append,List.take_append_of_le_length (by simp[hk]),List.take_of_length_le (by simp[hk])]
 simp only[j6,h]
 rw[if_pos (jI ys),fW];rfl
theorem y9{n k:Nat} : ∀ y:ah,y.only (fun j => ![n].contains j)=true→ir (fg n k) y=y:=fun y hy=>by
 cases y <;>try rfl
 simp only[ah.only] at hy
 simp only[ir,qh (jf (fun j hj=>by simpa using hj) _ hy)]
theorem M0{n:Nat} : ∀ y:ah,y.only (fun j => ![n].contains j)=true→ir (fJ n) y=y:=fun y hy=>by
 cases y <;>try rfl
 simp only[ah.only] at hy
 simp only[ir,y8 (jf (fun j hj=>by simpa using hj) _ hy)]
theorem y6{ts ts':List (Nat×I)}(h:∀ q∈ts',Abs.bH ts q.1=q.2):aX ts ts':=by
 induction ts' with
 |nil=>trivial
 |cons q ts' ih=>exact ⟨h q (by simp),ih fun q hq=>h q (by simp[hq])⟩
theorem J.gA{W0:World}{D0:aQ}{nn:Nat}{ow:Nat→Prop}{E1:aU}{Y:Value→List I→List (Nat×ah)→cN→Prop}{kj:Option Nat}{y:aO}{Q:Exit→ab→Prop}{ts:List (Nat×I)}{os:List (Nat×ah)}{a b d n:Nat}{xs:List Int}
  (hd:Abs.bH ts d=.own n xs.length) (hn:ai os n=some (.cM 3 xs)) (hlt:n<1000000) (hl:xs.length≤60) (ht:∀ t,kR n xs.length (Abs.bH ts t)) (ho:bt (fun j => ![n].contains j) (cw [n] os))
  (ts':List (Nat×I)) (h1:∀ q∈ts',q.1≠a∧q.1≠b∧Abs.bH ts q.1=q.2∧q.2.only (fun j=>j != n)=true)
  (hda:d≠a) (hdb:d≠b)
  (h:J ⟨Tryz.prog,W0,D0,nn,ow,E1,Y,kj⟩ y Q (aq ((d,enc (du xs))::ts') (cw [n] os))) :
  J ⟨Tryz.prog,W0,D0,nn,ow,E1,Y,kj⟩ (.seq (.bS none [⟨some a,.mv (.t d),none⟩,⟨some b,.call 107 [.t a],none⟩]) y) Q (aq ts os):=by
 have hdrop:∀ m,ai (cw [n] os) m=if m=n then none else ai os m:=fun m=>by
  have:=lM [n] os m
  simpa using this
 have ho':∀ m y,ai os m=some y→m≠n→y.only (fun j=>j != n)=true:=fun m y hy hm=>by
  have:=tL ho m y (by rw[hdrop,if_neg hm];exact hy)
  exact qj (fun j hj=>by simpa using hj) this
 by_cases hx:xs=[]
 ·subst hx
  refine J.sub (aC.M5 hn (aC.refl _)) ?_
  refine J.seq (J.bS (cl:=[]) (by rfl) fun K hK =>?_)
  have hd':Abs.bH (ts.map fun q=>(q.1,fJ n q.2)) d=.nils 1:=by
   rw[nA _ rfl,hd];simp[fJ]
  simp only[U,simprocAttr,hd']
  refine .flat _ (Nr _ (.inr rfl)) rfl ?_
  try simp only[U,simprocAttr]
  refine .done (hK _ ?_);clear hK K
  refine J.sub ((aC.gU [n] d (x:=.nils 1) (y:=enc ([]:List Int)) ?_ (by rfl) ?_).trans (aC.cD ?_ fun m =>?_)) h
  ·simp only[Abs.bH,hda,hdb,if_false];exact hd'
  ·exact tM (k:=0) rfl (ir (fJ n)) M0 ho
  ·refine ⟨by simp[Abs.bH,du],y6 fun q hq =>?_⟩
   obtain ⟨k1,k2,k3,k4⟩:=h1 q hq
   have hqd:q.1≠d:=fun e=>by
    rw[e,hd] at k3
    rw[←k3] at k4
    simp[I.only] at k4
   have h5:Abs.bH (ts.map fun p=>(p.1,fJ n p.2)) q.1=q.2:=by
    rw[nA _ rfl,k3,y8 k4]
   simp only[Abs.bH,Dm,k1,k2,hqd,if_false,h5]
   rw[if_pos (jf (fun j hj=>by simpa using hj) _ k4)]
  ·rw[hdrop,lM,re]
   by_cases hm:m=n
   ·simp[hm]
   ·cases h6:ai os m with
    |none=>simp[hm]
    |some y =>
     have h7:ir (fJ n) y=y:=M0 _ (qj (fun j hj=>by simpa using hj) (ho' _ _ h6 hm))
     simp[hm,h7]
 ·refine J.zd hn hx hlt ht (fun m y hy hm=>.inr (ho' m y hy hm)) fun q =>?_
  refine J.seq (J.bS (cl:=[]) (by rfl) fun K hK =>?_)
  have hd':Abs.bH (ts.map fun p=>(p.1,fg n xs.length p.2)) d=.view n [] 1 0 xs.length:=by
   rw[nA _ rfl,hd];simp[fg]
  simp only[U,simprocAttr,hd']
  refine .bQ false [(1000000,n)] (bX 1000000 (xs++List.replicate q 0)) [.view 1000000 [] 1 0 xs.length] _ rfl (zl xs _ hl) ?_ ?_ ?_ ?_
  ·refine ⟨fun m y hy =>?_,fun m m' h h' _=>by rw[cQ.1 h,cQ.1 h']⟩
   simp only[bX,ai] at hy
   split at hy
   ·rename_i hm
    cases hy
    subst hm
    exact ⟨by simp only[bA,if_true,ai,ah.aM,I.aM,gw],jv _ _,rfl⟩
   ·cases hy
  ·exact ⟨.inl ⟨by simp[I.aM,bA],cQ.2 rfl,rfl⟩,trivial⟩
  ·rintro eJ os2 ⟨rfl,rfl⟩
   refine ⟨fun m y hy =>?_,fun m m' h h' _=>by rw[cQ.1 h,cQ.1 h'],fun m hm=>by rw[cQ.1 hm];exact cQ.2 rfl,fun m a b=>by rw[cQ.1 a] at b;simp[bX,ao,ai] at b,rfl,fun _=>rfl⟩
   simp only[bX,ai] at hy
   split at hy
   ·cases hy;exact ⟨jv _ _,rfl,fun h=>by cases h⟩
   ·cases hy
  ·rintro eJ os2 ⟨rfl,rfl⟩
   try simp only[bX,dC,List.map_cons,List.map_nil,ah.aM,I.aM,gw,bA,reduceIte,List.cons_append,List.nil_append,I.cR,U,simprocAttr]
   refine .done (hK _ ?_);clear hK K
   refine J.sub ((aC.gU [n] d (x:=.view n [] 1 0 xs.length) (y:=enc (du xs)) ?_ ?_ ?_).trans (aC.cD ?_ fun m =>?_)) h
   ·simp only[Abs.bH,hda,hdb,if_false];exact hd'
   ·have:ai (fS [n] ((n,ah.box (I.agg ((du xs++List.replicate q 0).map enc)))::(n,ah.box (I.agg ((xs++List.replicate q 0).map enc)))::os.map fun p=>(p.1,ir (fg n xs.length) p.2))) n=some (.box (.agg ((du xs++List.replicate q 0).map enc))):=by
     rw[lN];simp[ai]
    try simp only[this,U,simprocAttr]
    exact vV (by simp[du])
   ·have:=tM (k:=0) rfl (ir (fg n xs.length)) y9 ho
    simpa[cw] using this
   ·refine ⟨by simp[Abs.bH],y6 fun q hq =>?_⟩
    obtain ⟨k1,k2,k3,k4⟩:=h1 q hq
    have hqd:q.1≠d:=fun e=>by
     rw[e,hd] at k3
     rw[←k3] at k4
     simp[I.only] at k4
    have h5:Abs.bH (ts.map fun p=>(p.1,fg n xs.length p.2)) q.1=q.2:=by
     rw[nA _ rfl,k3,qh k4]
    simp only[Abs.bH,Dm,k1,k2,hqd,if_false,h5]
    rw[if_pos (jf (fun j hj=>by simpa using hj) _ k4)]
   ·rw[hdrop,lM]
    by_cases hm:m=n
    ·simp[hm]
    ·simp only[ai,if_neg hm,re]
     cases h6:ai os m with
     |none=>simp[hm]
     |some y =>
      have h7:ir (fg n xs.length) y=y:=y9 _ (qj (fun j hj=>by simpa using hj) (ho' _ _ h6 hm))
      simp[hm,h7]
def fA(l:List al)(o:List Nat)(i:Nat):List aA×List Nat:=(o.take i).foldl (hX fk l) ([],[])
theorem J3{l:List al}{o:List Nat}{i:Nat}(h:i<o.length):fA l o (i+1)=hX fk l (fA l o i) (o.getD i 0):=by
 have e:o.getD i 0=o[i]:=by rw[List.getD_eq_getElem?_getD,List.getElem?_eq_getElem h];rfl
 simp only[fA]
 rw[List.take_succ_eq_append_getElem h,List.foldl_append,e];rfl
theorem J2(l:List al)(o:List Nat):fA l o o.length=hJ fk l o:=by simp only[fA,List.take_length];rfl
theorem Pq{bs bs':List aA}{x:al}{n:Nat}(hs:∀ b∈bs,b.aY.length≤n)(h:di fk bs x=some bs'):bs'.length≤bs.length+1∧∀ b∈bs',b.aY.length≤n+1:=by
 simp only[di] at h
 split at h
 ·split at h
  ·simp only[Option.some.injEq] at h
   subst h
   refine ⟨by simp[fk],fun b hb =>?_⟩
   simp only[fk,List.mem_append,List.mem_singleton] at hb
   rcases hb with hb | rfl
   ·exact Nat.le_succ_of_le (hs b hb)
   ·simp[fp]
  ·cases h
 ·split at h
  ·cases h
  ·rename_i b0 hb0
   simp only[Option.map_eq_some_iff] at h
   obtain ⟨b',hb',rfl⟩:=h
   refine ⟨by simp[mT],fun b hb =>?_⟩
   simp only[mT,List.mem_map] at hb
   obtain ⟨c,hc,rfl⟩:=hb
   split
   ·have h0:=hs b0 (ID hb0).1
    simp only[fF] at hb'
    repeat' split at hb'
    all_goals first
     |(cases hb';done)
     |(simp only[Option.some.injEq] at hb';subst hb';simp only[List.length_append,List.length_singleton];omega)
     |(simp only[Option.some.injEq] at hb';subst hb';simp only;omega)
   ·exact Nat.le_succ_of_le (hs c hc)
theorem tR(l:List al)(o:List Nat):∀ i,i≤o.length→((fA l o i).1.map (·.no)).Nodup∧(fA l o i).1.length≤i∧(∀ b∈(fA l o i).1,b.aY.length≤i)∧(fA l o i).2.length≤i
 |0,_=>⟨by simp[fA],by simp[fA],by simp[fA],by simp[fA]⟩
 |i+1,h=>by
  obtain ⟨h1,h2,h3,h4⟩:=tR l o i (by omega)
  rw[J3 (by omega)]
  simp only[hX]
  split
  ·rename_i bs hb
   have:=Pq h3 hb
   exact ⟨z7 r6 h1 hb,by simp only;omega,this.2,by simp only;omega⟩
  ·exact ⟨h1,by simp only;omega,fun b hb=>Nat.le_succ_of_le (h3 b hb),by simp;omega⟩
theorem Jm(B:Nat)(b:aA):∀ (bs:List aA) (i:Nat),eU B i (bs++[b])=eU B i bs++eU B (i+bs.length) [b]
 | [],i=>rfl
 |a::bs,i=>by
  simp only[List.cons_append,eU,Jm B b bs (i+1),List.length_cons]
  rw[show i+1+bs.length=i+(bs.length+1) by omega]
theorem aku(B n:Nat):eb B (n+1)=eb B n++[.ptr (B+2+2*n) []]:=by
 simp only[eb,List.range_succ,List.map_append,List.map_cons,List.map_nil]
theorem qL{bs:List aA}{n:Nat}(h:¬ (n=43∨n=41∨(2002≤n∧n<2002+2*bs.length))):ai (dT bs) n=none:=by
 have:=xm (bs:=bs) (n:=n)
 rw[decide_eq_false h] at this
 simpa[ao] using this
theorem ahS{bs:List aA}{n:Nat}(h:n=43∨n=41∨(2002≤n∧n<2002+2*bs.length)):∃ y,ai (dT bs) n=some y:=by
 have:=xm (bs:=bs) (n:=n)
 rw[decide_eq_true h] at this
 exact Option.isSome_iff_exists.1 this
theorem xI{bs bs':List aA}{z y:ah}(h:bs.length≤bs'.length)(n:Nat):ai (dT bs'++((900,z)::(dT bs++[(3,y)]))) n=ai ((900,z)::(dT bs'++[(3,y)])) n:=by
 simp only[kc,ai]
 by_cases h1:n=43∨n=41∨(2002≤n∧n<2002+2*bs'.length)
 ·obtain ⟨u,hu⟩:=ahS h1
  have:n≠900:=by omega
  simp only[hu,this,if_false]
 ·have h2:ai (dT bs) n=none:=qL (by omega)
  simp only[qL h1,h2]
theorem aiB{bs:List aA}{z z' y:ah}(n:Nat):ai ((900,z')::(dT bs++((900,z)::(dT bs++[(3,y)])))) n=ai ((900,z')::(dT bs++[(3,y)])) n:=by
 have h:=xI (bs:=bs) (bs':=bs) (z:=z) (y:=y) (Nat.le_refl _) n
 by_cases hn:n=900
 ·simp only[ai,hn,if_true]
 ·simp only[ai,if_neg hn] at h ⊢
  rw[h]
theorem aiA{bs:List aA}{b:aA}{z y:ah}(hk:bs.length≤60)(hb:b.aY=[])(n:Nat) :
  ai ((2002+2*bs.length,.box (eg b (.own (2003+2*bs.length) 0)))::(2003+2*bs.length,.bT 66 6 [])::(nj bs b++((900,z)::(dT bs++[(3,y)])))) n=ai ((900,z)::(dT (bs++[b])++[(3,y)])) n:=by
 have hC:ai (dT (bs++[b])) n=if n=43 then some (.box (.agg [.mref 41])) else if n=41 then some (.ct (dp (bs++[b])) (eb 2000 bs.length++[.ptr (2002+2*bs.length) []])) else
   match ai (eU 2000 0 bs) n with
   |some u=>some u
   |none=>if n=2002+2*bs.length then some (.box (eg b (.own (2003+2*bs.length) 0))) else if n=2003+2*bs.length then some (.bT 66 6 []) else none:=by
  simp only[dT,ai,Jm,kc,eU,hb,List.map_nil,List.length_nil,List.length_append,List.length_singleton,aku,Nat.zero_add]
  rfl
 have hL:ai (dT bs) n=if n=43 then some (.box (.agg [.mref 41])) else if n=41 then some (.ct (dp bs) (eb 2000 bs.length)) else ai (eU 2000 0 bs) n:=rfl
 have hlow:n<2002→ai (eU 2000 0 bs) n=none:=fun h=>tj 2000 bs 0 n (by omega)
 have hhigh:2002+2*bs.length≤n→ai (eU 2000 0 bs) n=none:=fun h=>tg 2000 bs 0 n (by omega)
 simp only[ai,kc,nj,List.cons_append,hC,hL]
 by_cases c1:n=2002+2*bs.length
 ·have d1:¬ n=900:=by omega
  have d2:¬ n=43:=by omega
  have d3:¬ n=41:=by omega
  rw[if_pos c1,if_neg d1,if_neg d2,if_neg d3,hhigh (by omega)]
  simp only[c1,if_true]
 by_cases c2:n=2003+2*bs.length
 ·have d1:¬ n=900:=by omega
  have d2:¬ n=43:=by omega
  have d3:¬ n=41:=by omega
  rw[if_neg c1,if_pos c2,if_neg d1,if_neg d2,if_neg d3,hhigh (by omega)]
  simp only[c2,if_true]
  rw[if_neg (by omega)]
 rw[if_neg c1,if_neg c2]
 by_cases c3:n=41
 ·have d1:¬ n=900:=by omega
  have d2:¬ n=43:=by omega
  rw[if_pos c3,if_neg d1,if_neg d2,if_pos c3]
 rw[if_neg c3,if_neg c1]
 by_cases j0:n=43
 ·have d1:¬ n=900:=by omega
  simp only[j0,if_true]
  simp
 rw[if_neg j0,if_neg j0]
 by_cases lu:n=900
 ·have:=hlow (by omega)
  subst lu
  simp[this]
 ·cases hq:ai (eU 2000 0 bs) n with
  |some u=>simp only[lu,c3,if_false]
  |none=>simp only[lu,c3,c1,c2,if_false]
theorem x9{p:Nat→Bool}{ns:List Nat} : ∀ {os:List (Nat×ah)},bt p os→bt p (cw ns os)
 | [],_=>trivial
 |(m,y)::os,h=>by
  simp only[cw,List.filter_cons]
  split
  ·exact ⟨h.1,x9 h.2⟩
  ·exact x9 h.2
theorem JQ{p:Nat→Bool} : ∀ {os os':List (Nat×ah)},bt p os→bt p os'→bt p (os++os')
 | [],_,_,h=>h
 |_::_,_,h,k=>⟨h.1,JQ h.2 k⟩
theorem Jn{p:Nat→Bool}{B:Nat}(hp:∀ j,B≤j→p j=true):∀ (bs:List aA) (i:Nat),bt p (eU B i bs)
 | [],_=>trivial
 |b::bs,i=>⟨by simp[ah.only,eg,I.only,I.bP,hp _ (show B≤B+3+2*i by omega)],dU _ _,Jn hp bs (i+1)⟩
theorem ahR{p:Nat→Bool}(hp:∀ j,2000≤j→p j=true)(h41:p 41=true)(bs:List aA):bt p (dT bs) :=
 ⟨by simp[ah.only,I.only,I.bP,h41],by simp only[ah.only,Bool.and_eq_true];exact ⟨dU _ _,yb _ fun i _=>hp _ (by omega)⟩,Jn hp bs 0⟩
def gI(bs:List aA):I:=.ref (.agg [.cU (dp bs) (bs.map fun b=>.ref (enc (⟨b⟩:eK)))])
theorem Js{f:I→Option I} : ∀ {xs ys:List I},xs.length=ys.length→(∀ (i:Nat) (x y:I),xs[i]?=some x→ys[i]?=some y→f x=some y)→fH f xs=some ys
 | [],[],_,_=>rfl
 |x::xs,y::ys,hl,h=>by
  have h1:=h 0 x y rfl rfl
  have h2:=Js (f:=f) (xs:=xs) (ys:=ys) (by simpa using hl) fun i a b ha hb=>h (i+1) a b ha hb
  simp only[fH,h1,h2]
theorem XS{A:ab}{bs:List aA}(hA:∀ m y,ai (dT bs) m=some y→A.o m=some y):bd true A (.ptr 43 [])=some (gI bs):=by
 have h43:A.o 43=some (.box (.agg [.mref 41])):=hA _ _ rfl
 have h41:A.o 41=some (.ct (dp bs) (eb 2000 bs.length)):=hA _ _ rfl
 have hl:∀ k,k<bs.length→2002+2*k≠43∧2002+2*k≠41∧2003+2*k≠43∧2003+2*k≠41:=fun k hk=>by omega
 have hm:fH (dv A 7) (eb 2000 bs.length)=some (bs.map fun b=>.ref (enc (⟨b⟩:eK))):=by
  refine Js (by simp[eb]) fun i x y hx hy =>?_
  have hi:i<bs.length:=by
   have:=(List.getElem?_eq_some_iff.1 hx).1
   simpa[eb] using this
  rw[J8 hi] at hx
  simp only[List.getElem?_map,List.getElem?_eq_getElem hi,Option.map_some,Option.some.injEq] at hx hy
  subst hx hy
  obtain ⟨q1,q2,q3,q4⟩:=hl i hi
  have h1:A.o (2000+2+2*i)=some (.box (eg bs[i] (.own (2000+3+2*i) (bs[i]).aY.length))):=hA _ _ (by
   simp only[dT,ai];rw[if_neg (by omega),if_neg (by omega)]
   have:=th 2000 bs 0 i hi
   rwa [Nat.zero_add] at this)
  have h2:A.o (2000+3+2*i)=some (.bT 66 6 ((bs[i]).aY.map enc)):=hA _ _ (by
   simp only[dT,ai];rw[if_neg (by omega),if_neg (by omega)]
   have:=tk 2000 bs 0 i hi
   rwa [Nat.zero_add] at this)
  have h3:=mw (m:=3) h2
  have h4:cu A (.ptr (2000+2+2*i) [])=some (eg bs[i] (.own (2000+3+2*i) (bs[i]).aY.length)):=by
   simp only[cu,h1];exact m7 _
  rw[dv]
  simp only[I.br,Bool.false_eq_true,if_false,h4]
  rw[h3];rfl
 have h5:dv A 8 (.mref 41)=some (.cU (dp bs) (bs.map fun b=>.ref (enc (⟨b⟩:eK)))):=by
  rw[dv]
  simp only[I.br,Bool.false_eq_true,if_false,h41]
  rw[if_pos (show I.bU (dp bs)=true from jI _),hm];rfl
 have h6:dv A 9 (.agg [.mref 41])=some (.agg [.cU (dp bs) (bs.map fun b=>.ref (enc (⟨b⟩:eK)))]):=by
  rw[dv]
  simp only[I.br,I.bU,Bool.and_true,Bool.false_eq_true,if_false,fH,h5,Option.map_some]
 simp only[bd,cu,h43,if_true,m7,I.br,I.bU,Bool.and_true,Bool.false_eq_true,if_false,h6]
 rfl
def rr(l:List al)(day known:Int):I:=.tuple [gI (hJ fk l (fe l day known)).1,enc (du (bL (hJ fk l (fe l day known)).2))]
def OW(l:List al)(ord:List Int):ab:=aq [(3,.ptr 3 []),(9,.nils 1),(11,.ptr 43 []),(12,kF),(45,enc ord),(46,.int .i64 ord.length),(47,.int .i64 0)] [(43,.box (.agg [.mref 41])),(41,.ct [] []),(3,.box (enc l))]
def zQ(l:List al)(o:List Nat)(i:Nat):ab:=aq [(3,.ptr 3 []),(9,.own 900 (bL (fA l o i).2).length),(11,.ptr 43 []),(12,kF),(45,enc (bL o)),(46,.int .i64 (bL o).length),(47,.int .i64 i)] ((900,.cM 3 (bL (fA l o i).2))::(dT (fA l o i).1++[(3,.box (enc l))]))
theorem ah5{xs:List Int}{i:Nat}(h:i<xs.length)(A:ab):gX A 1 (i:Int) (enc xs)=some (.ref (.int .i64 (xs.getD i 0))):=by
 rw[eA 1 (by omega) rfl,List.getD_eq_getElem?_getD,List.getElem?_eq_getElem h];rfl
noncomputable abbrev CU (W0:World) (D0:aQ) (E1:aU):cJ := { P:=Tryz.prog,fh:=W0,D0:=D0,n:=Tryz.f88.ntmps,own:=dy E1,dE:=E1,Y:=iC,kj:=none }
def Ng:aO:=((aO.bS none sS).seq ((aO.cond (aL.t 48) aO.skip (aO.exit 2)).seq ((aO.block 3 ((aO.bS none wU).seq ((aO.bS CW sT).seq (aO.cond (aL.t 64) (aO.bS none Io) aO.skip)))).seq (aO.bS none Ip))))
def amd:aO:=(aO.bS none Iq).seq ((aO.bS none Ir).seq aO.ret)
theorem zK(l:List al)(day known:Int)(hok:df l=true){W0:World}{D0:aQ}{E1:aU} : J (CU W0 D0 E1) (.block 2 (.loop Ng)) (aF (fun B=>J (CU W0 D0 E1) amd (jB [.tmp 6,.tmp 7] (rr l day known)) B) (jB [.tmp 6,.tmp 7] (rr l day known))) (OW l (pX l day known)):=by
 have hl:=ke hok
 have hmem:∀ i∈fe l day known,i<l.length∧(ae l i).kind≠0:=fun i hi=>by
  have h1:=ye hi
  refine ⟨sC h1,?_⟩
  have:=(List.mem_filter.1 h1).2
  simp only[Bool.and_eq_true,decide_eq_true_eq] at this
  exact this.1
 have hol:(fe l day known).length≤60:=by rw[tO];exact Nat.le_trans (qC l day known) hl
 have hall:=J2 l (fe l day known)
 simp only[rr,pX,←hall]
 clear hall
 generalize fe l day known=o at hmem hol ⊢
 have htl:(bL o).length=o.length:=by simp[bL]
 refine J.block (J.loop (fun i:Nat=>zQ l o i) (fun i=>i≤o.length) (fun i=>o.length-i) 0 (Nat.zero_le _) ?_ (fun i hi =>?_))
 ·refine aC.uT 9 900 3 1 rfl rfl ?_
  refine aC.cD ?_ (fun n =>?_)
  ·simp[aX,aW,fA,bL]
  ·simp only[fA,bL,List.take_zero,List.foldl_nil,List.map_nil,dT,eU,eb,dp,List.length_nil,List.range_zero,List.cons_append,List.nil_append]
 obtain ⟨hnd,hbl,hsl,hvl⟩:=tR l o i hi
 simp only[zQ,Ng]
 have n3:ai ((900,.cM 3 (bL (fA l o i).2))::(dT (fA l o i).1++[(3,.box (enc l))])) 3=some (.box (enc l)):=by
  simp only[ai,kc]
  rw[qL (by omega)];rfl
 by_cases hlt:i<o.length
 ·have hc:decide ((i:Int)<((bL o).length:Int))=true:=by rw[htl];exact fy hlt
  have hw:=eH (i:=i) (by omega)
  have hst:=J3 (l:=l) hlt
  generalize fA l o i=s at *
  obtain ⟨bs,vd⟩:=s
  simp only at hnd hbl hsl hvl n3 hst ⊢
  obtain ⟨j,hj⟩:∃ j,j=o.getD i 0:=⟨_,rfl⟩
  have hjm:j∈o:=by
   rw[hj,List.getD_eq_getElem?_getD,List.getElem?_eq_getElem hlt];exact List.getElem_mem hlt
  obtain ⟨hjl,hjk⟩:=hmem j hjm
  rw[←hj] at hst
  have he:=gJ hjl
  have hi2:∀ A,gX A 1 (i:Int) (enc (bL o))=some (.ref (.int .i64 (j:Int))):=fun A=>by
   rw[ah5 (by omega),hj]
   congr 3
   simp[bL,List.getD_eq_getElem?_getD,List.getElem?_eq_getElem hlt]
  obtain ⟨f,hf1,hf2,hf3⟩:=vB (bs:=bs) (tK hok hjl) hjk hnd (fun b hb=>by have:=hsl b hb;omega)
  have hmo:∀ A,gq A kF=some (nf,ng):=fun A=>rfl
  refine .au (by decide +kernel) fun K hK =>?_
  simp only[sS,U,simprocAttr]
  simp only[hc]
  refine .done (hK _ ?_);clear hK K
  refine J.seq ?_
  refine J.bW ?_
  simp only[ak,U,simprocAttr]
  refine ⟨fun h =>?_,fun h =>?_⟩
  case refine_2=>cases h
  refine J.skip ?_;try simp only[aF,simprocAttr]
  refine J.seq (J.block ?_)
  refine .au (by decide +kernel) fun K hK =>?_
  simp only[wU,U,simprocAttr]
  try simp only[hi2,U,simprocAttr]
  refine .done (hK _ ?_);clear hK K
  refine J.seq (J.rA (gs:=sT) [172,173,174,175,176,177] [] [0,1,2,3,4,5,6,7,8,9,10,11,12,13] (by decide +kernel) (ew.of trivial) fun K hK =>?_)
  try simp only[lT,sT,List.getD_cons_zero,List.getD_cons_succ,n3,he,hmo,hf1,cC,eB,aK,U,simprocAttr]
  have hlo:∀ bs',bs.length≤bs'.length→ai (dT bs'++((900,.cM 3 (bL vd))::(dT bs++[(3,.box (enc l))]))) 900=some (.cM 3 (bL vd)):=fun bs' h=>by
   rw[xI h];rfl
  have htv:(bL vd).length=vd.length:=by simp[bL]
  have hap:=fun (A:ab) d rest=>sa (A:=A) (d:=d) (e:=3) (bytes:=8) (n:=900) (l:=(bL vd).length) (xs:=bL vd) (y:=(j:Int)) (rest:=rest) rfl (by simp[bL,maxLen];omega) (by simp[bL];omega)
  refine cd.vB (by omega) hf2 hf3 rfl (fun hb =>?_) (fun bs' hb hk =>?_) (fun hb =>?_)
  ·have hs2:fA l o (i+1)=(bs,vd++[j]):=by rw[hst];simp only[hX,hb]
   have h900:=hlo bs (Nat.le_refl _)
   try simp only[U,simprocAttr]
   have R:=And.intro @h900 (And.intro @hap (And.intro @cC (And.intro @bh (And.intro @aK @U))))
   repeat' ((first
    |(with_reducible refine .guard (fun hb =>?_) (fun hb =>?_) <;>try simp only[hb])
    |refine J.aG (by decide +kernel) rfl fun K hK =>?_
    |(refine .aw [0,1,2,3,4,6,7,8,9,10,11,12,14,17,18,33,45,46,47,48,64] hK ?_;clear hK K)
    |(with_reducible refine .done (hK _ ?_);clear hK K)
    |refine J.of rfl ?_
    |(with_reducible refine ak.aE (fun h =>?_) (fun h =>?_) <;>try simp only[h])) <;>try simp only[aH,R,simprocAttr])
   all_goals clear R
   refine ⟨i+1,by omega,by omega,?_⟩
   rw[hs2,hw]
   have e:bL (vd++[j])=bL vd++[(j:Int)]:=by simp[bL]
   simp only[e]
   refine aC.cD ?_ (fun n=>aiB n)
   simp[aX,aW]
  ·have hs2:fA l o (i+1)=(bs',vd):=by rw[hst];simp only[hX,hb]
   try simp only[U,simprocAttr]
   have R:=And.intro @cC (And.intro @bh (And.intro @aK @U))
   repeat' ((first
    |(with_reducible refine .guard (fun hb =>?_) (fun hb =>?_) <;>try simp only[hb])
    |refine J.aG (by decide +kernel) rfl fun K hK =>?_
    |(refine .aw [0,1,2,3,4,6,7,8,9,10,11,12,14,17,18,33,45,46,47,48,64] hK ?_;clear hK K)
    |(with_reducible refine .done (hK _ ?_);clear hK K)
    |refine J.of rfl ?_
    |(with_reducible refine ak.aE (fun h =>?_) (fun h =>?_) <;>try simp only[h])) <;>try simp only[aH,R,simprocAttr])
   all_goals clear R
   refine ⟨i+1,by omega,by omega,?_⟩
   rw[hs2,hw]
   refine aC.cD ?_ (fun n=>xI (Nat.le_of_eq (uZ hk hb).symm) n)
   simp[aX,aW]
  ·have hs2:fA l o (i+1)=(bs++[fp (ae l j)],vd):=by rw[hst];simp only[hX,hb]
   try simp only[U,simprocAttr]
   have R:=And.intro @cC (And.intro @bh (And.intro @aK @U))
   repeat' ((first
    |(with_reducible refine .guard (fun hb =>?_) (fun hb =>?_) <;>try simp only[hb])
    |refine J.aG (by decide +kernel) rfl fun K hK =>?_
    |(refine .aw [0,1,2,3,4,6,7,8,9,10,11,12,14,17,18,33,45,46,47,48,64] hK ?_;clear hK K)
    |(with_reducible refine .done (hK _ ?_);clear hK K)
    |refine J.of rfl ?_
    |(with_reducible refine ak.aE (fun h =>?_) (fun h =>?_) <;>try simp only[h])) <;>try simp only[aH,R,simprocAttr])
   all_goals clear R
   refine ⟨i+1,by omega,by omega,?_⟩
   rw[hs2,hw]
   refine aC.zT (2002+2*bs.length) (2003+2*bs.length) 66 6 6 [0,8] (eg (fp (ae l j)) (.nils 6)) ?_ rfl ?_ ?_ (by omega)
   ·have:¬ 2002+2*bs.length=41:=by omega
    simp[nj,ai,this]
   ·have h1:¬ 2003+2*bs.length=41:=by omega
    have h2:¬ 2003+2*bs.length=2002+2*bs.length:=by omega
    have h3:¬ 2003+2*bs.length=900:=by omega
    have h4:¬ 2003+2*bs.length=3:=by omega
    have h5:ai (dT bs) (2003+2*bs.length)=none:=qL (by omega)
    simp only[nj,List.cons_append,ai,kc,h1,h2,h3,h4,h5,if_false]
   ·refine aC.cD ?_ (fun n=>aiA (by omega) rfl n)
    simp[aX,aW]
 ·have hio:i=o.length:=by omega
  subst hio
  have hc:decide ((o.length:Int)<((bL o).length:Int))=false:=by simp[htl]
  refine .au (by decide +kernel) fun K hK =>?_
  simp only[sS,U,simprocAttr]
  try simp only[hc,simprocAttr]
  refine .done (hK _ ?_);clear hK K
  refine J.seq ?_
  refine J.bW ?_
  simp only[ak,U,simprocAttr]
  refine ⟨fun h =>?_,fun h =>?_⟩
  case refine_1=>cases h
  refine J.exit ?_;try simp only[aF,b8,simprocAttr]
  generalize fA l o o.length=s at *
  obtain ⟨bs,vd⟩:=s
  simp only at hnd hbl hsl hvl ⊢
  have htv:(bL vd).length=vd.length:=by simp[bL]
  have hw2:∀ t,kR 900 (bL vd).length (Abs.bH [(48,I.bool false),(3,.ptr 3 []),(9,.own 900 (bL vd).length),(11,.ptr 43 []),(12,kF),(45,enc (bL o)),(46,.int .i64 ((bL o).length:Int)),(47,.int .i64 (o.length:Int))] t):=pU (by simp[kR,I.only,bB,kF,I.bP])
  refine J.gA (a:=70) (b:=71) (d:=9) (n:=900) (xs:=bL vd) rfl rfl (by decide) (by omega) hw2 ?_ [(11,.ptr 43 [])] ?_ (by decide) (by decide) ?_
  ·refine x9 ⟨rfl,JQ (ahR (fun j hj=>by simp;omega) (by decide) bs) ⟨bB _ _,trivial⟩⟩
  ·simp[Abs.bH,I.only]
  ·have hfin:=fun (ts:List (Nat×I))=>XS (A:=aq ts (cw [900] ((900,.cM 3 (bL vd))::(dT bs++[(3,.box (enc l))])))) (bs:=bs) (fun m y hy=>by
    have:m≠900:=fun e=>by
     rw[e,qL (by omega)] at hy;cases hy
    simp only[aq,lM]
    simp[ai,this,kc,hy])
   have R:=And.intro @hfin (And.intro @bh (And.intro @aK @U))
   repeat' ((first
    |(with_reducible refine .guard (fun hb =>?_) (fun hb =>?_) <;>try simp only[hb])
    |refine J.aG (by decide +kernel) rfl fun K hK =>?_
    |(refine .aw [0,1,2,3,4,6,7,8,9,10,11,12,14,17,18,33,45,46,47,48,64] hK ?_;clear hK K)
    |(with_reducible refine .done (hK _ ?_);clear hK K)
    |refine J.of rfl ?_
    |(with_reducible refine ak.aE (fun h =>?_) (fun h =>?_) <;>try simp only[h])) <;>try simp only[aH,R,simprocAttr])
   all_goals clear R
theorem alp{xs ys:List Int}(h:xs.Perm ys):du xs=du ys:=by
 unfold du
 have hx:=List.pairwise_mergeSort (le:=fun x y:Int=>decide (x≤y)) (by intro a b c;simp;omega) (by intro a b;simp;omega) xs
 have hy:=List.pairwise_mergeSort (le:=fun x y:Int=>decide (x≤y)) (by intro a b c;simp;omega) (by intro a b;simp;omega) ys
 refine List.Perm.eq_of_pairwise (fun a b _ _ h k =>?_) hx hy ((List.mergeSort_perm _ _).trans (h.trans (List.mergeSort_perm _ _).symm))
 simp only[decide_eq_true_eq] at h k;omega
theorem ai3{A:ab}{d:Option Nat}{n:Nat}{rest:List az}{ks vs:List I}{cur:Option Nat} : pS A d n rest (some (.it ks vs [] cur))=ay rest (A.aP d (.tuple [.bool false])):=by
 simp only[pS,if_true]
theorem bj.jx{P:Program}{Y:Value→List I→List (Nat×ah)→cN→Prop}{K:ab→Prop}{A:ab}{d:Option Nat}{n:Nat}{rest:List az}{ks vs:List I}{left:List Nat}{cur:Option Nat}(hl:left≠[])
  (h:∀ i,i∈left→∃ kk x,ks[i]?=some kk∧vs[i]?=some x∧bj P Y false K (ay rest ((A.aN n (.it ks vs (left.filter (· != i)) (some i))).aP d (.tuple [.bool true,kk,x])))) :
  bj P Y false K (pS A d n rest (some (.it ks vs left cur))):=by
 simp only[pS,if_neg hl]
 refine .any rfl fun i hi =>?_
 obtain ⟨kk,x,h1,h2,h3⟩:=h i hi
 simp only[h1,h2]
 exact h3
def jg(bs:List aA)(p:aA→Bool)(aw:List Nat):List Int:=((aw.map fun i=>bs.getD i default).filter p).map (·.no)
theorem akn(bs:List aA)(p:aA→Bool)(aw:List Nat)(i:Nat):jg bs p (aw++[i])=jg bs p aw++if p (bs.getD i default) then [(bs.getD i default).no] else []:=by
 simp only[jg,List.map_append,List.filter_append,List.map_cons,List.map_nil,List.filter_cons,List.filter_nil]
 congr 1
 split <;>rfl
theorem J1(bs:List aA)(p:aA→Bool)(aw:List Nat):(jg bs p aw).length≤aw.length:=by
 simp only[jg,List.length_map]
 exact Nat.le_trans (List.length_filter_le _ _) (by simp)
theorem akm{bs:List aA}{p:aA→Bool}{aw:List Nat}(h:aw.Perm (List.range bs.length)):(jg bs p aw).Perm ((bs.filter p).map (·.no)):=by
 have e:(List.range bs.length).map (fun i=>bs.getD i default)=bs:=by
  refine List.ext_getElem (by simp) fun i h1 h2 =>?_
  simp[List.getD_eq_getElem?_getD,h2]
 simp only[jg]
 refine List.Perm.map _ ?_
 have:=(h.map fun i=>bs.getD i default).filter p
 rwa [e] at this
theorem aj5(p:Nat→Bool)(bs:List aA):I.bP p (bs.map fun b=>.ref (enc (⟨b⟩:eK)))=true:=by
 induction bs with
 |nil=>rfl
 |cons b bs ih=>simp only[List.map_cons,I.bP,I.only,bB,ih,Bool.and_self]
def zP(bs:List aA)(p:aA→Bool)(f:FuncId)(caps:List I)(s:List Nat×List Nat×Option Nat):ab :=
 aq [(1,.func f caps),(5,.own 905 (jg bs p s.1).length),(12,.dx 12)] [(12,.it (dp bs) (bs.map fun b=>.ref (enc (⟨b⟩:eK))) s.2.1 s.2.2),(905,.cM 3 (jg bs p s.1))]
theorem uO(bs:List aA)(hn:bs.length≤60)(f:FuncId)(caps:List I)(hcaps:I.eS caps=true)(p:aA→Bool)(hf:∀ b∈bs,av Tryz.prog f (.ref (enc (⟨b⟩:eK))::caps) (enc (p b))) :
  av Tryz.prog 72 [gI bs,.func f caps] (enc (du ((bs.filter p).map (·.no)))):=by
 refine av.bn Tryz.func72 RC TA VK (Nat.le_of_ble_eq_true rfl) (fun hwf W0 D0 E1 =>?_)
 simp only[B3,LK,a6,Nat.zero_add]
 clear hwf
 have hcl:I.bU caps=true:=kG caps hcaps
 have hfc:∀ aB A,bY aB A caps=some caps:=fun aB A=>kJ aB A caps hcaps
 have hon:∀ q,I.bP q caps=true:=fun q=>kg q caps hcl
 refine .au (by decide +kernel) fun K hK =>?_
 simp only[H7,U,simprocAttr]
 refine .done (hK _ ?_);clear hK K
 refine .au (by decide +kernel) fun K hK =>?_
 simp only[H8,U,simprocAttr]
 refine .done (hK _ ?_);clear hK K
 refine J.seq (J.seq ?_)
 refine .bV (by decide +kernel) fun K hK =>?_
 simp only[H9,U,simprocAttr]
 try simp only[gI,cC,eB,aK,U,simprocAttr]
 refine .done (hK _ ?_);clear hK K;try simp only[aF]
 refine J.block (J.loop (zP bs p f caps) (fun s=>(s.1++s.2.1).Perm (List.range bs.length)) (fun s=>s.2.1.length) ([],List.range bs.length,none) (by simp) ?_ ?_)
 ·refine aC.uT 5 905 3 1 rfl rfl ?_
  refine aC.cD ?_ (fun n =>?_)
  ·simp[aX,aW,jg]
  ·simp only[jg,List.map_nil,List.filter_nil,cA,tl,dp,List.length_map]
   (repeat' split) <;>simp_all
 rintro ⟨aw,left,cur⟩ hC
 simp only at hC
 have hlen:aw.length+left.length=bs.length:=by simpa using hC.length_eq
 have hpl:=J1 bs p aw
 simp only[zP]
 by_cases hl:left=[]
 ·subst hl
  refine .au (by decide +kernel) fun K hK =>?_
  simp only[wT,U,simprocAttr]
  try simp only[eB,ai3,U,simprocAttr]
  refine .done (hK _ ?_);clear hK K
  refine J.seq ?_
  refine J.bW ?_
  simp only[ak,U,simprocAttr]
  refine ⟨fun h =>?_,fun h =>?_⟩
  case refine_1=>cases h
  refine J.exit ?_;try simp only[aF,b8,simprocAttr]
  have hdn:(jg bs p aw).Perm ((bs.filter p).map (·.no)):=akm (by simpa using hC)
  rw[←alp hdn]
  generalize jg bs p aw=xs at hpl
  refine J.gA (a:=25) (b:=26) (d:=5) (n:=905) (xs:=xs) rfl rfl (by decide) (by omega) (pU (by simp[kR,I.only,I.bP,hon])) (by simp only[cw,dp,List.filter_cons,List.filter_nil,List.contains_cons];simp[bt,ah.only,dU,aj5,-List.map_map]) [] (by simp) (by decide) (by decide) ?_
  have R:=And.intro @aK @U
  repeat' ((first
   |(with_reducible refine .guard (fun hb =>?_) (fun hb =>?_) <;>try simp only[hb])
   |refine J.aG (by decide +kernel) rfl fun K hK =>?_
   |(refine .aw [0,1,4,5,6,7,12,14,20] hK ?_;clear hK K)
   |(with_reducible refine .done (hK _ ?_);clear hK K)
   |refine J.of rfl ?_
   |(with_reducible refine ak.aE (fun h =>?_) (fun h =>?_) <;>try simp only[h])) <;>try simp only[aH,R,simprocAttr])
  all_goals clear R
 ·refine .au (by decide +kernel) fun K hK =>?_
  simp only[wT,U,simprocAttr]
  try simp only[eB,U,simprocAttr]
  refine bj.jx hl fun i hi =>?_
  have hib:i<bs.length:=List.mem_range.1 (hC.mem_iff.1 (by simp[hi]))
  refine ⟨enc (bs[i]).no,.ref (enc (⟨bs[i]⟩:eK)),by simp[dp,hib],by simp[hib],?_⟩
  have hx:bs.getD i default=bs[i]:=by simp[List.getD_eq_getElem?_getD,hib]
  try simp only[U,simprocAttr]
  refine .done (hK _ ?_);clear hK K
  refine J.seq ?_
  refine J.bW ?_
  simp only[ak,U,simprocAttr]
  refine ⟨fun h =>?_,fun h =>?_⟩
  case refine_2=>cases h
  refine J.skip ?_;try simp only[aF,simprocAttr]
  refine J.block ?_
  have hent:pw (dp bs) (bs.map fun b=>.ref (enc (⟨b⟩:eK))) (some i)=some (.tuple [.int .i64 (bs[i]).no,.ref (enc (⟨bs[i]⟩:eK))]):=by
   simp[pw,dp,hib,ij]
  have hsn:=akn bs p aw i
  have hps:=J1 bs p (aw++[i])
  have hpl2:(left.filter (· != i)).length<left.length:=by
   rcases Nat.lt_or_ge (left.filter (· != i)).length left.length with h | h
   ·exact h
   ·have:=List.filter_eq_self.1 (List.Sublist.eq_of_length_le List.filter_sublist h) i hi
    simp at this
  have hnd:left.Nodup:=(List.nodup_append.1 (hC.nodup_iff.2 List.nodup_range)).2.1
  have hC2:((aw++[i])++left.filter (· != i)).Perm (List.range bs.length):=by
   have h1:left.Perm (i::left.filter (· != i)):=by
    have h2:(left.filter (· == i)).length=1:=by
     have:=List.nodup_iff_count.1 hnd i
     have h3:=List.count_pos_iff.2 hi
     have h4:left.count i=(left.filter (· == i)).length:=by rw[List.count,List.countP_eq_length_filter]
     omega
    have h5:left.filter (· == i)=[i]:=by
     obtain ⟨a,ha⟩:=List.length_eq_one_iff.1 h2
     have:a∈left.filter (· == i):=by rw[ha];simp
     have:=(List.mem_filter.1 this).2
     simp at this
     rw[ha,this]
    have h6:=(List.filter_append_perm (· == i) left).symm
    rw[h5] at h6
    exact h6
   refine List.Perm.trans ?_ hC
   rw[List.append_assoc]
   exact (h1.symm).append_left aw
  refine .au (by decide +kernel) fun K hK =>?_
  simp only[Ia,U,simprocAttr]
  try simp only[hent,eB,aK,U,simprocAttr]
  refine .done (hK _ ?_);clear hK K
  refine .au (by decide +kernel) fun K hK =>?_
  simp only[Ib,U,simprocAttr]
  try simp only[List.cons_append,List.nil_append,hfc,kE,U,simprocAttr]
  refine .flat _ (hf _ (List.getElem_mem hib)) rfl ?_
  try simp only[U,simprocAttr]
  refine .done (hK _ ?_);clear hK K
  have hap:=fun (A:ab) d rest=>sa (A:=A) (d:=d) (e:=3) (bytes:=8) (n:=905) (l:=(jg bs p aw).length) (xs:=jg bs p aw) (y:=(bs[i]).no) (rest:=rest) rfl (by simp[maxLen];omega) (by omega)
  rw[hx] at hsn
  rcases hpb:p bs[i]
  ·rw[hpb,if_neg (by decide),List.append_nil] at hsn
   have R:=And.intro @hpb (And.intro @aK @U)
   repeat' ((first
    |(with_reducible refine .guard (fun hb =>?_) (fun hb =>?_) <;>try simp only[hb])
    |refine J.aG (by decide +kernel) rfl fun K hK =>?_
    |(refine .aw [0,1,4,5,6,7,12,14,20] hK ?_;clear hK K)
    |(with_reducible refine .done (hK _ ?_);clear hK K)
    |refine J.of rfl ?_
    |(with_reducible refine ak.aE (fun h =>?_) (fun h =>?_) <;>try simp only[h])) <;>try simp only[aH,R,simprocAttr])
   all_goals clear R
   refine ⟨(aw++[i],left.filter (· != i),some i),hC2,hpl2,?_⟩
   simp only[hsn]
   refine aC.cD ?_ (fun n =>?_)
   ·simp[aX,aW]
   ·simp only[cA,tl];(repeat' split) <;>simp_all
  ·rw[hpb,if_pos rfl] at hsn
   have R:=And.intro @hpb (And.intro @hap (And.intro @aK @U))
   repeat' ((first
    |(with_reducible refine .guard (fun hb =>?_) (fun hb =>?_) <;>try simp only[hb])
    |refine J.aG (by decide +kernel) rfl fun K hK =>?_
    |(refine .aw [0,1,4,5,6,7,12,14,20] hK ?_;clear hK K)
    |(with_reducible refine .done (hK _ ?_);clear hK K)
    |refine J.of rfl ?_
    |(with_reducible refine ak.aE (fun h =>?_) (fun h =>?_) <;>try simp only[h])) <;>try simp only[aH,R,simprocAttr])
   all_goals clear R
   refine ⟨(aw++[i],left.filter (· != i),some i),hC2,hpl2,?_⟩
   simp only[hsn]
   refine aC.cD ?_ (fun n =>?_)
   ·simp[aX,aW]
   ·simp only[cA,tl];(repeat' split) <;>simp_all
theorem Ab{aB:Bool}{A0:ab}{os:List (Nat×ah)} : ∀ xs:List I,(∀ x∈xs,x.only (ao os)=true∧x.cm=true)→js aB A0 [] os xs xs
 | [],_=>trivial
 |x::xs,h=>⟨.inl ⟨(lW (ρ:=bA []) (fun _=>rfl) x).symm,(h x (by simp)).1,(h x (by simp)).2⟩,Ab xs fun y hy=>h y (by simp[hy])⟩
theorem ak9(ts:List (Nat×I))(k:Nat)(a b:List Int):aq ts (bX k a++bX k b)=aq ts (bX k a):=by
 simp only[aq];congr 1;funext n
 simp only[bX,List.cons_append,List.nil_append,ai]
 split <;>rfl
theorem bj.kW{K:ab→Prop}{f:FuncId}{avs:List I}{a1 a2:Option (List I)}{dst:Option Nat}{rest:List az}{ts:List (Nat×I)}{ws:List Int}{post:cN}(hc:cz Tryz.prog f avs (bX 1000000 ws) post)(hav:∀ x∈avs,x.only (ao (bX 1000000 ws))=true∧x.cm=true)
  (h:∀ r os',post r os'→∃ ws',os'=bX 1000000 ws'∧r=.tuple []∧bj Tryz.prog iC false K (ay rest ((aq ts (bX 1000000 ws')).aP dst (.tuple [])))):bj Tryz.prog iC false K (.call f avs a1 a2 dst rest (aq ts (bX 1000000 ws))):=by
 refine .bQ false [] (bX 1000000 ws) avs post rfl hc ⟨fun m y hy =>?_,fun m m' _ _ h=>h⟩ (Ab avs hav) ?_ ?_
 ·rw[ah.lW (ρ:=bA []) (fun n=>rfl)]
  refine ⟨hy,?_⟩
  simp only[bX,ai] at hy
  split at hy
  ·cases hy;exact ⟨jv _ _,rfl⟩
  ·cases hy
 ·intro r os' hp
  obtain ⟨ws',rfl,rfl,_⟩:=h r os' hp
  refine ⟨fun m y hy =>?_,fun m m' _ _ h=>h,fun m hm=>by rw[cQ.1 hm];exact cQ.2 rfl,fun m a b=>by rw[cQ.1 a] at b;simp[bX,ao,ai] at b,rfl,fun h=>by cases h⟩
  simp only[bX,ai] at hy
  split at hy
  ·cases hy;exact ⟨jv _ _,rfl,fun h=>by cases h⟩
  ·cases hy
 ·intro r os' hp
  obtain ⟨ws',rfl,rfl,hw⟩:=h r os' hp
  rw[ub,ak9]
  exact hw
theorem kB(ws:List Int)(n:Nat)(f:FuncId)(caps:List I)(hcl:I.bU caps=true)(L:List Int):∀ x∈.view 1000000 [] 1 0 n::(L.map enc++[.func f caps]),x.only (ao (bX 1000000 ws))=true∧x.cm=true:=by
 intro x hx
 simp only[List.mem_cons,List.mem_append,List.mem_map,List.not_mem_nil,or_false] at hx
 rcases hx with rfl | ⟨y,_,rfl⟩ | rfl
 ·exact ⟨cQ.2 rfl,rfl⟩
 ·exact ⟨bB _ _,dQ _⟩
 ·exact ⟨jR _ _ (by simpa[I.br] using hcl),rfl⟩
structure OS where
 p:List Int
 u:List Int
 v:List Int
 q:List Int
theorem Oq(p u v q:List Int)(a m b n:Nat)(f:FuncId)(caps:List I)(hcl:I.bU caps=true)(ha:p.length=a)(hm:a+u.length=m)(hb:m+v.length=b)(hu:0<u.length)(hv:0<v.length)(hn:b≤n)(hN:n≤1000) :
  cz Tryz.prog 213 [.view 1000000 [] 1 0 n,enc (a:Int),enc (m:Int),enc (b:Int),.func f caps] (bX 1000000 (p++u++v++q)) (yF (p++v++u++q)):=by
 refine cz.bn Tryz.func213 Rf Tc Vn (Nat.le_of_ble_eq_true rfl) (Nat.le_of_ble_eq_true rfl) mO (fun hwf W0 D0 E1 =>?_)
 simp only[BE,Lm,a6,Nat.zero_add,Nat.reduceAdd]
 clear hwf
 have w1:=iK (x:=m) (y:=a) (by omega) (by omega)
 have w2:=iK (x:=b) (y:=m) (by omega) (by omega)
 refine .au (by decide +kernel) fun K hK =>?_
 simp only[HF,U,simprocAttr]
 try simp only[w1,simprocAttr]
 refine .done (hK _ ?_);clear hK K
 refine .au (by decide +kernel) fun K hK =>?_
 simp only[HG,U,simprocAttr]
 try simp only[w2,simprocAttr]
 refine .done (hK _ ?_);clear hK K
 refine J.seq (J.block (J.loop (fun s:OS=>aq [(0,.view 1000000 [] 1 0 n),(2,.int .i64 m),(4,.func f caps),(10,.int .i64 s.u.length),(11,.int .i64 s.v.length)] (bX 1000000 (s.p++s.u++s.v++s.q))) (fun s=>0<s.u.length∧0<s.v.length∧s.p.length+s.u.length=m∧m+s.v.length≤b∧s.p++s.v++s.u++s.q=p++v++u++q) (fun s=>s.u.length+s.v.length) ⟨p,u,v,q⟩ ⟨hu,hv,by simp only;omega,by simp only;omega,rfl⟩ ?_ ?_))
 ·have e1:m-a=u.length:=by omega
  have e2:b-m=v.length:=by omega
  simp only[e1,e2]
  refine aC.cD ?_ (fun n=>rfl)
  simp[aX,aW]
 rintro ⟨p1,u1,v1,q1⟩ ⟨g1,g2,g3,g4,g5⟩
 simp only at g1 g2 g3 g4 g5 ⊢
 refine J.seq (J.seq ?_)
 refine .bV (by decide +kernel) fun K hK =>?_
 simp only[HI,U,simprocAttr]
 refine .done (hK _ ?_);clear hK K;try simp only[aF]
 refine J.bW ?_
 simp only[ak,U,simprocAttr]
 refine ⟨fun h =>?_,fun h =>?_⟩
 ·have hne:u1.length≠v1.length:=fun e=>by rw[e] at h;simp at h
  refine J.skip ?_;try simp only[aF,simprocAttr]
  refine J.block (J.seq ?_)
  refine .bV (by decide +kernel) fun K hK =>?_
  simp only[HJ,U,simprocAttr]
  refine .done (hK _ ?_);clear hK K;try simp only[aF]
  refine J.bW ?_
  simp only[ak,U,simprocAttr]
  refine ⟨fun h =>?_,fun h =>?_⟩
  ·have hgt:v1.length<u1.length:=by simp at h;omega
   have w3:=iK (x:=m) (y:=u1.length) (by omega) (by omega)
   have w4:=iK (x:=u1.length) (y:=v1.length) (by omega) (by omega)
   have hs:u1=u1.take v1.length++u1.drop v1.length:=(List.take_append_drop _ _).symm
   have ht:(u1.take v1.length).length=v1.length:=by rw[List.length_take];omega
   have hd:(u1.drop v1.length).length=u1.length-v1.length:=by rw[List.length_drop]
   have hc:=uM p1 (u1.take v1.length) (u1.drop v1.length) v1 q1 (m-u1.length) m n v1.length (.func f caps) (by omega) (by omega) (by omega) (by omega) (by omega) hN
   rw[List.append_assoc p1,←hs] at hc
   refine .au (by decide +kernel) fun K hK =>?_
   simp only[HK,U,simprocAttr]
   try simp only[w3,simprocAttr]
   refine bj.kW hc (kB _ n f caps hcl [_,_,_]) ?_
   rintro r os' ⟨rfl,rfl⟩
   refine ⟨_,rfl,rfl,?_⟩
   try simp only[U,simprocAttr]
   refine .done (hK _ ?_);clear hK K
   refine .bV (by decide +kernel) fun K hK =>?_
   simp only[HL,U,simprocAttr]
   try simp only[w4,simprocAttr]
   refine .done (hK _ ?_);clear hK K;try simp only[aF,b8]
   refine ⟨⟨p1++v1,u1.drop v1.length,u1.take v1.length,q1⟩,⟨by simp only;omega,by simp only;omega,by simp only[List.length_append];omega,by simp only;omega,?_⟩,by simp only;omega,?_⟩
   ·simp only
    rw[←g5]
    conv=>rhs;rw[hs]
    simp only[List.append_assoc]
   ·simp only[hd,ht]
    refine aC.cD ?_ (fun n=>rfl)
    simp[aX,aW]
  ·have hlt:u1.length<v1.length:=by simp at h;omega
   have w3:=iK (x:=m) (y:=u1.length) (by omega) (by omega)
   have w4:=iK (x:=v1.length) (y:=u1.length) (by omega) (by omega)
   have w5:=lf m v1.length (by omega)
   have w6:=iK (x:=m+v1.length) (y:=u1.length) (by omega) (by omega)
   have hs:v1=v1.take (v1.length-u1.length)++v1.drop (v1.length-u1.length):=(List.take_append_drop _ _).symm
   have ht:(v1.take (v1.length-u1.length)).length=v1.length-u1.length:=by rw[List.length_take];omega
   have hd:(v1.drop (v1.length-u1.length)).length=u1.length:=by rw[List.length_drop];omega
   have hc:=uM p1 u1 (v1.take (v1.length-u1.length)) (v1.drop (v1.length-u1.length)) q1 (m-u1.length) (m+v1.length-u1.length) n u1.length (.func f caps) (by omega) (by omega) (by omega) (by omega) (by omega) hN
   rw[List.append_assoc (p1++u1),←hs] at hc
   refine .au (by decide +kernel) fun K hK =>?_
   simp only[HM,U,simprocAttr]
   try simp only[w3,w5,w6,simprocAttr]
   refine bj.kW hc (kB _ n f caps hcl [_,_,_]) ?_
   rintro r os' ⟨rfl,rfl⟩
   refine ⟨_,rfl,rfl,?_⟩
   try simp only[U,simprocAttr]
   refine .done (hK _ ?_);clear hK K
   refine .bV (by decide +kernel) fun K hK =>?_
   simp only[HN,U,simprocAttr]
   try simp only[w4,simprocAttr]
   refine .done (hK _ ?_);clear hK K;try simp only[aF,b8]
   refine ⟨⟨p1,v1.drop (v1.length-u1.length),v1.take (v1.length-u1.length),u1++q1⟩,⟨by simp only;omega,by simp only;omega,by simp only;omega,by simp only;omega,?_⟩,by simp only;omega,?_⟩
   ·simp only
    rw[←g5]
    conv=>rhs;rw[hs]
    simp only[List.append_assoc]
   ·simp only[hd,ht]
    rw[←List.append_assoc _ u1 q1]
    refine aC.cD ?_ (fun n=>rfl)
    simp[aX,aW]
 ·have he:u1.length=v1.length:=by simp at h;omega
  refine J.exit ?_;try simp only[aF,b8,simprocAttr]
  have w3:=iK (x:=m) (y:=u1.length) (by omega) (by omega)
  have hc:=uM p1 u1 [] v1 q1 (m-u1.length) m n u1.length (.func f caps) (by omega) (by omega) (by simp;omega) rfl (by omega) hN
  simp only[List.append_nil] at hc
  refine .bV (by decide +kernel) fun K hK =>?_
  simp only[HO,U,simprocAttr]
  try simp only[w3,simprocAttr]
  refine bj.kW hc (kB _ n f caps hcl [_,_,_]) ?_
  rintro r os' ⟨rfl,rfl⟩
  refine ⟨_,rfl,rfl,?_⟩
  try simp only[U,simprocAttr]
  refine .done (hK _ ?_)
  clear hK K
  rw[lX]
  exact nG rfl g5 ⟨rfl,rfl⟩
theorem um{el:List al}{s:List Int}(h:dh el s){i j:Nat}(hij:i<j)(hj:j<s.length):dJ el (s.getD i 0) (s.getD j 0):=by
 rw[List.getD_eq_getElem?_getD,List.getD_eq_getElem?_getD,List.getElem?_eq_getElem (by omega),List.getElem?_eq_getElem hj]
 exact List.pairwise_iff_getElem.1 h i j (by omega) hj hij
theorem qe{el:List al}{s:List Int}(h:dh el s){i j:Nat}(hij:i≤j)(hj:j<s.length){x:Int}(hx:dJ el (s.getD j 0) x):dJ el (s.getD i 0) x:=by
 rcases Nat.lt_or_ge i j with h1 | h1
 ·exact xJ (um h h1 hj) hx
 ·have:i=j:=by omega
  rw[this];exact hx
theorem qd{el:List al}{s:List Int}(h:dh el s){i j:Nat}(hij:i≤j)(hj:j<s.length){x:Int}(hx:dJ el x (s.getD i 0)):dJ el x (s.getD j 0):=by
 rcases Nat.lt_or_ge i j with h1 | h1
 ·exact xJ hx (um h h1 hj)
 ·have:i=j:=by omega
  rw[←this];exact hx
theorem tt{s:List Int}{k:Nat}{x:Int}(h:x∈s.take k):∃ i,i<k∧i<s.length∧s.getD i 0=x:=by
 obtain ⟨i,hi,rfl⟩:=List.getElem_of_mem h
 rw[List.length_take] at hi
 exact ⟨i,by omega,by omega,by rw[List.getD_eq_getElem?_getD,List.getElem?_eq_getElem (by omega),List.getElem_take];rfl⟩
theorem pL{s:List Int}{k:Nat}{x:Int}(h:x∈s.drop k):∃ i,k≤i∧i<s.length∧s.getD i 0=x:=by
 obtain ⟨i,hi,rfl⟩:=List.getElem_of_mem h
 rw[List.length_drop] at hi
 exact ⟨k+i,by omega,by omega,by rw[List.getD_eq_getElem?_getD,List.getElem?_eq_getElem (by omega),List.getElem_drop];rfl⟩
def rS(el:List al)(l r:List Int)(k i:Nat):Prop:=∀ x∈l.take i++r.take (k-i),∀ y∈l.drop i++r.drop (k-i),dJ el x y
theorem V3{el:List al}{l r:List Int}{k i lo hi:Nat}(hl:dh el l)(hr:dh el r)(h1:lo≤i)(h2:i≤hi)(hlo:lo=0∨lo+r.length=k)(hhi:hi=l.length∨hi=k)(hil:hi≤l.length)(hik:hi≤k)(hlr:k≤lo+r.length)
  (g1:∀ j,lo≤j→j<i→dJ el (l.getD j 0) (r.getD (k-1-j) 0)) (g2:∀ j,i≤j→j<hi→dJ el (r.getD (k-1-j) 0) (l.getD j 0)):rS el l r k i:=by
 intro x hx y hy
 rcases List.mem_append.1 hx with hx | hx
 ·obtain ⟨a,ha1,ha2,rfl⟩:=tt hx
  rcases List.mem_append.1 hy with hy | hy
  ·obtain ⟨b,hb1,hb2,rfl⟩:=pL hy
   exact um hl (by omega) hb2
  ·obtain ⟨b,hb1,hb2,rfl⟩:=pL hy
   by_cases hli:lo<i
   ·have:=g1 (i-1) (by omega) (by omega)
    have e:k-1-(i-1)=k-i:=by omega
    rw[e] at this
    refine qe hl (j:=i-1) (by omega) (by omega) ?_
    exact qd hr (i:=k-i) (by omega) hb2 this
   ·omega
 ·obtain ⟨a,ha1,ha2,rfl⟩:=tt hx
  rcases List.mem_append.1 hy with hy | hy
  ·obtain ⟨b,hb1,hb2,rfl⟩:=pL hy
   by_cases hih:i<hi
   ·have:=g2 i (Nat.le_refl _) hih
    refine qe hr (j:=k-1-i) (by omega) (by omega) ?_
    exact qd hl (i:=i) (by omega) hb2 this
   ·omega
  ·obtain ⟨b,hb1,hb2,rfl⟩:=pL hy
   exact um hr (by omega) hb2
theorem als{el:List al}{l r s1 s2:List Int}{k i:Nat}(hc:rS el l r k i)(h1:s1.Perm (l.take i++r.take (k-i)))(h2:s2.Perm (l.drop i++r.drop (k-i)))(k1:dh el s1)(k2:dh el s2):(s1++s2).Perm (l++r)∧dh el (s1++s2):=by
 refine ⟨(h1.append h2).trans ?_,List.pairwise_append.2 ⟨k1,k2,fun x hx y hy=>hc x (h1.mem_iff.1 hx) y (h2.mem_iff.1 hy)⟩⟩
 have e:l.take i++r.take (k-i)++(l.drop i++r.drop (k-i))=l.take i++(r.take (k-i)++l.drop i)++r.drop (k-i):=by simp only[List.append_assoc]
 rw[e]
 refine (((List.perm_append_comm (l₁:=r.take (k-i)) (l₂:=l.drop i)).append_left _).append_right _).trans ?_
 have e2:l.take i++(l.drop i++r.take (k-i))++r.drop (k-i)=(l.take i++l.drop i)++(r.take (k-i)++r.drop (k-i)):=by simp only[List.append_assoc]
 rw[e2,List.take_append_drop,List.take_append_drop]
theorem MK{el:List al}{s:List Int}(h:dh el s)(k:Nat):dh el (s.take k):=h.sublist (List.take_sublist _ _)
theorem MJ{el:List al}{s:List Int}(h:dh el s)(k:Nat):dh el (s.drop k):=h.sublist (List.drop_sublist _ _)
theorem xd{p l r q:List Int}{a i:Nat}(ha:p.length=a)(hi:i<l.length):(p++l++r++q).getD (a+i) 0=l.getD i 0:=by
 subst ha
 rw[List.getD_eq_getElem?_getD,List.getD_eq_getElem?_getD,List.append_assoc,List.append_assoc,List.getElem?_append_right (by omega),Nat.add_sub_cancel_left,List.getElem?_append_left hi]
theorem xe{p l r q:List Int}{m i:Nat}(hm:p.length+l.length=m)(hi:i<r.length):(p++l++r++q).getD (m+i) 0=r.getD i 0:=by
 subst hm
 rw[List.getD_eq_getElem?_getD,List.getD_eq_getElem?_getD,List.append_assoc (p++l),List.getElem?_append_right (by rw[List.length_append];omega),List.length_append,Nat.add_sub_cancel_left,List.getElem?_append_left hi]
theorem ov(x:Nat):Int.fdiv (x:Int) (2^min (Int.toNat 1) IntKind.u64.bits)=((x / 2:Nat):Int):=by
 have:min (Int.toNat 1) IntKind.u64.bits=1:=rfl
 rw[this]
 show Int.fdiv (x:Int) 2=_
 rw[Int.fdiv_eq_ediv_of_nonneg _ (by decide)];rfl
theorem nC{x:Nat}(h:x<9223372036854775807):IntKind.u64.wrap (x:Int)=(x:Int):=by
 simp only[IntKind.wrap,IntKind.bits,IntKind.signed]
 simp
 omega
theorem ou:((0:Int)≤1)=True:=by simp
theorem J.al7{c:cJ}{Q:Exit→ab→Prop}{A:ab}{x:aO}{σ:Type}(T:σ→ab)(C:σ→Prop)(h1:J c x (aF (fun B=>∃ s,C s∧Abs.aC B (T s)) fun _ _=>False) A)(h2:∀ s B,C s→Abs.aC B (T s)→Q .normal B):J c x Q A :=
 h1.mono fun e B hq=>by
  cases e <;>simp only[aF] at hq <;>first
   |(obtain ⟨s,k1,k2⟩:=hq;exact h2 s B k1 k2)
   |exact hq.elim
theorem alU{p r q:List Int}{x:Int}{a j:Nat}(ha:p.length=a)(hj:j<r.length):kp (dY p r q x j) (a+j) (a+j+1)=dY p r q x (j+1):=by
 have e1:dY p r q x (j+1)=(p++r.take j)++r[j]::x::(r.drop (j+1)++q):=by
  simp only[dY]
  rw[List.take_succ_eq_append_getElem hj]
  simp only[List.append_assoc,List.cons_append,List.nil_append]
 have e2:dY p r q x j=(p++r.take j)++x::r[j]::(r.drop (j+1)++q):=by
  simp only[dY]
  rw[List.drop_eq_getElem_cons hj]
  simp only[List.append_assoc,List.cons_append]
 rw[e1,e2]
 exact alV (by rw[List.length_append,List.length_take];omega) rfl
theorem ahX(p r q:List Int)(x:Int):dY p r q x 0=p++[x]++r++q:=by simp[dY]
theorem ah0(p r q:List Int)(x:Int):dY p r q x r.length=p++r++[x]++q:=by simp[dY]
theorem Oj(el:List al)(hd:mi el)(hel:el.length≤60)(p l r q:List Int)(a m b n:Nat)(hl0:0<l.length)(hr0:0<r.length)(ha:p.length=a)(hm:a+l.length=m)(hb:m+r.length=b)(hn:b≤n)(hnl:n≤(p++l++r++q).length)(hn1:n≤1000)(hsl:dh el l)(hsr:dh el r)(hlr:∀ x∈l,∀ y∈r,x<y)(hin:∀ x∈l++r,ju el x)(hl1:l.length=1) :
  cz Tryz.prog 204 [.view 1000000 [] 1 0 n,enc (a:Int),enc (m:Int),enc (b:Int),.func 138 [.ref (enc el)]] (bX 1000000 (p++l++r++q)) (mX el p (l++r) q):=by
 have hlen:(p++l++r++q).length=p.length+l.length+r.length+q.length:=by simp only[List.length_append]
 have ni:=fun i (hi:i<l.length)=>xd (p:=p) (l:=l) (r:=r) (q:=q) (i:=i) ha hi
 have gr:=fun i (hi:i<r.length)=>xe (p:=p) (l:=l) (r:=r) (q:=q) (m:=m) (i:=i) (by omega) hi
 have ml:=fun i (hi:i<l.length)=>(show l.getD i 0∈l by rw[List.getD_eq_getElem?_getD,List.getElem?_eq_getElem hi];exact List.getElem_mem _)
 have mr:=fun i (hi:i<r.length)=>(show r.getD i 0∈r by rw[List.getD_eq_getElem?_getD,List.getElem?_eq_getElem hi];exact List.getElem_mem _)
 refine cz.bn Tryz.func204 vn vq vz (Nat.le_of_ble_eq_true rfl) (Nat.le_of_ble_eq_true rfl) mO (fun hwf W0 D0 E1 =>?_)
 simp only[sq,tS,a6,Nat.zero_add,Nat.reduceAdd]
 clear hwf
 have fh:=iK (x:=m) (y:=a) (by omega) (by omega)
 refine J.seq (J.seq ?_)
 obtain ⟨x,rfl⟩:=List.length_eq_one_iff.1 hl1
 obtain ⟨ws,hws⟩:∃ ws,ws=p++[x]++r++q:=⟨_,rfl⟩
 rw[←hws] at hnl hlen gr ni ⊢
 have gx:ws.getD a 0=x:=by have:=ni 0 hl0;simpa using this
 have hxr:=hlr x (by simp)
 have hxS:=hin x (by simp)
 have hrS:=fun y (hy:y∈r)=>hin y (by simp[hy])
 have h1:((m-a:Nat):Int)=1:=by omega
 refine .bV (by decide +kernel) fun K hK =>?_
 simp only[sP,U,Nat.reduceEqDiff,reduceIte]
 try simp only[fh,h1,Int.reduceBEq]
 refine .done (hK _ ?_);clear hK K;try simp only[aF]
 refine J.bW ?_
 try simp only[ak,U,Nat.reduceEqDiff,reduceIte]
 refine ⟨fun _ =>?_,fun h =>?_⟩
 rotate_left
 ·simp at h
 refine .au (by decide +kernel) fun K hK =>?_
 simp only[He,U,Nat.reduceEqDiff,reduceIte]
 refine .done (hK _ ?_);clear hK K
 refine .au (by decide +kernel) fun K hK =>?_
 simp only[Hi,U,Nat.reduceEqDiff,reduceIte]
 refine .done (hK _ ?_);clear hK K
 refine J.seq (J.block (J.loop (fun s:Nat×Nat=>aq [(0,.view 1000000 [] 1 0 n),(1,.int .i64 a),(2,.int .i64 m),(3,.int .i64 b),(4,.func 138 [.ref (enc el)]),(10,.int .i64 ((m+s.1:Nat):Int)),(11,.int .i64 ((m+s.2:Nat):Int))] (bX 1000000 ws))
  (fun s=>s.1≤s.2∧s.2≤r.length∧(∀ j,j<s.1→dJ el (r.getD j 0) x)∧∀ j,s.2≤j→j<r.length→dJ el x (r.getD j 0)) (fun s=>s.2-s.1) (0,r.length) ⟨Nat.zero_le _,Nat.le_refl _,fun j hj=>by omega,fun j h1 h2=>by simp only at h1;omega⟩ ?_ ?_))
 ·have e1:m+0=m:=rfl
  simp only[e1,hb]
  refine aC.cD ?_ (fun n=>rfl)
  simp[aX,aW]
 rintro ⟨i,j⟩ ⟨g1,g2,g3,g4⟩
 simp only at g1 g2 g3 g4 ⊢
 by_cases hij:i<j
 ·have hc:decide (((m+i:Nat):Int)<((m+j:Nat):Int))=true:=by simp;omega
  have w1:=lf (m+i) (m+j) (by omega)
  have w2:=nC (x:=m+i+(m+j)) (by omega)
  obtain ⟨c,hcd⟩:∃ c,c=(i+j) / 2:=⟨_,rfl⟩
  have hci:i≤c∧c<j:=by omega
  have w3:(m+i+(m+j)) / 2=m+c:=by omega
  have w4:=nC (x:=m+c) (by omega)
  have w5:=uB (n:=m+c) (by omega)
  have w6:=eH (i:=m+c) (by omega)
  have v1:=ik (n:=n) (i:=m+c) (by omega)
  have v2:=ik (n:=n) (i:=a) (by omega)
  have l1:=fL (xs:=ws) (i:=m+c) (by omega)
  have l2:=fL (xs:=ws) (i:=a) (by omega)
  rw[gr c (by omega)] at l1
  rw[gx] at l2
  have hrc:=mr c (by omega)
  have hcmp:=rV el hd hel (r.getD c 0) x (hrS _ hrc) hxS
  have hlt:=tp (l:=el) (hxr _ hrc)
  simp only[bX]
  cases hdc:decide (gn el (r.getD c 0)-gn el x<0) with
  |true =>
   have hd1:dJ el (r.getD c 0) x:=hlt.2 (by have:=of_decide_eq_true hdc;omega)
   have R:=And.intro @hc (And.intro @w1 (And.intro @w2 (And.intro @w3 (And.intro @w4 (And.intro @w5 (And.intro @w6 (And.intro @ov (And.intro @ou (And.intro @v1 (And.intro @v2 (And.intro @l1 (And.intro @l2 (And.intro @hdc (And.intro @cG (And.intro @dP (And.intro @aK @U))))))))))))))))
   repeat' ((first
    |(with_reducible refine .guard (fun hb =>?_) (fun hb =>?_) <;>try simp only[hb])
    |refine J.aG (by decide +kernel) rfl fun K hK =>?_
    |refine .flat _ (hcmp) rfl ?_
    |(refine .aw [0,1,2,3,4,10,11,12,13,14,15,16,17,18,19,20,21,22,23,24,28,33,50,58,80,85,103,110,140,151,171,185,199,213] hK ?_;clear hK K)
    |(with_reducible refine .done (hK _ ?_);clear hK K)
    |refine J.of rfl ?_
    |(with_reducible refine ak.aE (fun h =>?_) (fun h =>?_) <;>try simp only[h])) <;>try simp only[aH,R,List.cons_append,Nat.reduceEqDiff,reduceIte,Nat.reduceBEq])
   all_goals clear R
   refine ⟨(c+1,j),⟨by simp only;omega,g2,fun k hk =>?_,g4⟩,by simp only;omega,?_⟩
   ·simp only at hk
    exact qe hsr (j:=c) (by omega) (by omega) hd1
   ·refine aC.cD ?_ (fun n=>rfl)
    simp[aX,aW];omega
  |false =>
   have hd1:dJ el x (r.getD c 0):=tn (hxr _ hrc) (by have:=of_decide_eq_false hdc;omega)
   have R:=And.intro @hc (And.intro @w1 (And.intro @w2 (And.intro @w3 (And.intro @w4 (And.intro @w5 (And.intro @w6 (And.intro @ov (And.intro @ou (And.intro @v1 (And.intro @v2 (And.intro @l1 (And.intro @l2 (And.intro @hdc (And.intro @cG (And.intro @dP (And.intro @aK @U))))))))))))))))
   repeat' ((first
    |(with_reducible refine .guard (fun hb =>?_) (fun hb =>?_) <;>try simp only[hb])
    |refine J.aG (by decide +kernel) rfl fun K hK =>?_
    |refine .flat _ (hcmp) rfl ?_
    |(refine .aw [0,1,2,3,4,10,11,12,13,14,15,16,17,18,19,20,21,22,23,24,28,33,50,58,80,85,103,110,140,151,171,185,199,213] hK ?_;clear hK K)
    |(with_reducible refine .done (hK _ ?_);clear hK K)
    |refine J.of rfl ?_
    |(with_reducible refine ak.aE (fun h =>?_) (fun h =>?_) <;>try simp only[h])) <;>try simp only[aH,R,List.cons_append,Nat.reduceEqDiff,reduceIte,Nat.reduceBEq])
   all_goals clear R
   refine ⟨(i,c),⟨by simp only;omega,by simp only;omega,g3,fun k hk hk2 =>?_⟩,by simp only;omega,?_⟩
   ·simp only at hk
    exact qd hsr (i:=c) (by omega) hk2 hd1
   ·refine aC.cD ?_ (fun n=>rfl)
    simp[aX,aW]
 ·have hc:decide (((m+i:Nat):Int)<((m+j:Nat):Int))=false:=by simp;omega
  have he:j=i:=by omega
  subst he
  refine J.seq (J.seq ?_)
  refine .bV (by decide +kernel) fun K hK =>?_
  simp only[Hn,U,Nat.reduceEqDiff,reduceIte]
  try simp only[hc]
  refine .done (hK _ ?_);clear hK K;try simp only[aF]
  refine J.bW ?_
  simp only[ak,U,Nat.reduceEqDiff,reduceIte]
  refine ⟨fun h =>?_,fun h =>?_⟩
  ·cases h
  refine J.exit ?_;try simp only[aF,b8,reduceIte]
  refine J.seq (J.seq ?_)
  refine .bV (by decide +kernel) fun K hK =>?_
  simp only[Hr,U,Nat.reduceEqDiff,reduceIte]
  refine .done (hK _ ?_);clear hK K;try simp only[aF]
  have hi0:=ahX p r q x
  rw[hws,←hi0]
  refine J.block (J.loop (fun k:Nat=>aq [(0,.view 1000000 [] 1 0 n),(10,.int .i64 ((m+j:Nat):Int)),(13,.int .i64 ((a+k:Nat):Int))] (bX 1000000 (dY p r q x k))) (fun k=>k≤j) (fun k=>j-k) 0 (Nat.zero_le _) ?_ (fun k hk =>?_))
  ·refine aC.cD ?_ (fun n=>rfl)
   simp[aX,aW]
  have ww:IntKind.i64.wrap (((m+j:Nat):Int)-1)=((a+j:Nat):Int):=by rw[dz _ (by omega) (by omega)];simp at hm;omega
  have hil:(dY p r q x k).length=p.length+r.length+1+q.length:=xw (by omega)
  by_cases hkj:k<j
  ·have hc2:decide (((a+k:Nat):Int)<((a+j:Nat):Int))=true:=by simp;omega
   have hstep:=alU (p:=p) (r:=r) (q:=q) (x:=x) (j:=k) ha (by omega)
   generalize dY p r q x k=ws at hil hstep ⊢
   obtain ⟨i1,hi1e⟩:∃ i1,i1=a+k:=⟨_,rfl⟩
   obtain ⟨j1,hj1e⟩:∃ j1,j1=a+k+1:=⟨_,rfl⟩
   rw[←hj1e,←hi1e] at hstep
   have wk:IntKind.i64.wrap ((i1:Int)+1)=(j1:Int):=by rw[dz _ (by omega) (by omega)];omega
   rw[←hi1e] at hc2 ⊢
   have hi1:i1<n:=by simp at hm;omega
   have hj1:j1<n:=by simp at hm;omega
   simp only[bX]
   have v1:=ik (n:=n) (i:=i1) hi1
   have v2:=ik (n:=n) (i:=j1) hj1
   have l1:=fL (xs:=ws) (i:=i1) (by omega)
   have l2:=fL (xs:=ws) (i:=j1) (by omega)
   have s1:=fun (A:ab) v u rest=>mY (A:=A) (n:=1000000) (xs:=ws) (i:=i1) (by omega) v u rest
   obtain ⟨ws2,hws2⟩:∃ ws2,ws2=ws.set i1 (ws.getD j1 0):=⟨_,rfl⟩
   have hw2l:ws2.length=ws.length:=by rw[hws2];simp
   have s2:=fun (A:ab) v u rest=>mY (A:=A) (n:=1000000) (xs:=ws2) (i:=j1) (by omega) v u rest
   have l3:=fL (xs:=ws2) (i:=j1) (by omega)
   have R:=And.intro @ww (And.intro @hc2 (And.intro @wk (And.intro @v1 (And.intro @v2 (And.intro @l1 (And.intro @l2 (And.intro @l3 (And.intro @s1 (And.intro @s2 (And.intro @cG (And.intro @aK @U)))))))))))
   repeat' ((first
    |(with_reducible refine .guard (fun hb =>?_) (fun hb =>?_) <;>try simp only[hb])
    |refine J.aG (by decide +kernel) rfl fun K hK =>?_
    |(refine .aw [0,1,2,3,4,10,11,12,13,14,15,16,17,18,19,20,21,22,23,24,28,33,50,58,80,85,103,110,140,151,171,185,199,213] hK ?_;clear hK K)
    |(with_reducible refine .done (hK _ ?_);clear hK K)
    |refine J.of rfl ?_
    |(with_reducible refine ak.aE (fun h =>?_) (fun h =>?_) <;>try simp only[h])) <;>try simp only[aH,R,←hws2,Nat.reduceEqDiff,reduceIte,Nat.reduceBEq])
   all_goals clear R
   refine ⟨k+1,by omega,by omega,?_⟩
   rw[←hstep]
   simp only[kp,←hws2]
   have e:a+(k+1)=j1:=by omega
   rw[e]
   refine aC.cD ?_ (fun n =>?_)
   ·simp[aX,aW]
   ·simp only[ai];split <;>rfl
  ·have hc2:decide (((a+k:Nat):Int)<((a+j:Nat):Int))=false:=by simp;omega
   have hk2:k=j:=by omega
   subst hk2
   have R:=And.intro @ww (And.intro @hc2 (And.intro @aK (And.intro @fq @U)))
   repeat' ((first
    |(with_reducible refine .guard (fun hb =>?_) (fun hb =>?_) <;>try simp only[hb])
    |refine J.aG (by decide +kernel) rfl fun K hK =>?_
    |(refine .aw [0,1,2,3,4,10,11,12,13,14,15,16,17,18,19,20,21,22,23,24,28,33,50,58,80,85,103,110,140,151,171,185,199,213] hK ?_;clear hK K)
    |(with_reducible refine .done (hK _ ?_);clear hK K)
    |refine J.of rfl ?_
    |(with_reducible refine ak.aE (fun h =>?_) (fun h =>?_) <;>try simp only[h])) <;>try simp only[aH,R,Nat.reduceEqDiff,reduceIte,Nat.reduceBEq])
   all_goals clear R
   refine nG rfl rfl ⟨rfl,r.take k++x::r.drop k,?_,?_,?_⟩
   ·refine List.perm_middle.trans ?_
    rw[List.take_append_drop];exact .refl _
   ·refine yW hsr (fun y hy =>?_) (fun y hy =>?_)
    ·obtain ⟨i,h1,h2,rfl⟩:=tt hy;exact g3 i h1
    ·obtain ⟨i,h1,h2,rfl⟩:=pL hy;exact g4 i h1 h2
   ·rfl
theorem Ol(el:List al)(hd:mi el)(hel:el.length≤60)(p l r q:List Int)(a m b n:Nat)(hl0:0<l.length)(hr0:0<r.length)(ha:p.length=a)(hm:a+l.length=m)(hb:m+r.length=b)(hn:b≤n)(hnl:n≤(p++l++r++q).length)(hn1:n≤1000)(hsl:dh el l)(hsr:dh el r)(hlr:∀ x∈l,∀ y∈r,x<y)(hin:∀ x∈l++r,ju el x)(hl1:¬ l.length=1)(hr1:r.length=1) :
  cz Tryz.prog 204 [.view 1000000 [] 1 0 n,enc (a:Int),enc (m:Int),enc (b:Int),.func 138 [.ref (enc el)]] (bX 1000000 (p++l++r++q)) (mX el p (l++r) q):=by
 have hlen:(p++l++r++q).length=p.length+l.length+r.length+q.length:=by simp only[List.length_append]
 have ni:=fun i (hi:i<l.length)=>xd (p:=p) (l:=l) (r:=r) (q:=q) (i:=i) ha hi
 have gr:=fun i (hi:i<r.length)=>xe (p:=p) (l:=l) (r:=r) (q:=q) (m:=m) (i:=i) (by omega) hi
 have ml:=fun i (hi:i<l.length)=>(show l.getD i 0∈l by rw[List.getD_eq_getElem?_getD,List.getElem?_eq_getElem hi];exact List.getElem_mem _)
 have mr:=fun i (hi:i<r.length)=>(show r.getD i 0∈r by rw[List.getD_eq_getElem?_getD,List.getElem?_eq_getElem hi];exact List.getElem_mem _)
 refine cz.bn Tryz.func204 vn vq vz (Nat.le_of_ble_eq_true rfl) (Nat.le_of_ble_eq_true rfl) mO (fun hwf W0 D0 E1 =>?_)
 simp only[sq,tS,a6,Nat.zero_add,Nat.reduceAdd]
 clear hwf
 have fh:=iK (x:=m) (y:=a) (by omega) (by omega)
 refine J.seq (J.seq ?_)
 have h1:(((m-a:Nat):Int)==1)=false:=by simp;omega
 obtain ⟨ws,hws⟩:∃ ws,ws=p++l++r++q:=⟨_,rfl⟩
 rw[←hws] at hnl hlen gr ni ⊢
 have w0b:=iK (x:=b) (y:=m) (by omega) (by omega)
 refine .bV (by decide +kernel) fun K hK =>?_
 simp only[sP,U,Nat.reduceEqDiff,reduceIte]
 try simp only[fh,h1]
 refine .done (hK _ ?_);clear hK K;try simp only[aF]
 refine J.bW ?_
 try simp only[ak,U,Nat.reduceEqDiff,reduceIte]
 refine ⟨fun h =>?_,fun _ =>?_⟩
 ·simp at h
 refine J.skip ?_;try simp only[aF]
 refine J.seq (J.seq ?_)
 obtain ⟨x,rfl⟩:=List.length_eq_one_iff.1 hr1
 have gx:ws.getD m 0=x:=by have:=gr 0 hr0;simpa using this
 have hlx:∀ y∈l,y<x:=fun y hy=>hlr y hy x (by simp)
 have hxS:=hin x (by simp)
 have hlS:=fun y (hy:y∈l)=>hin y (by simp[hy])
 have h2:((b-m:Nat):Int)=1:=by omega
 refine .bV (by decide +kernel) fun K hK =>?_
 simp only[wR,U,Nat.reduceEqDiff,reduceIte]
 try simp only[w0b,h2,Int.reduceBEq]
 refine .done (hK _ ?_);clear hK K;try simp only[aF]
 refine J.bW ?_
 try simp only[ak,U,Nat.reduceEqDiff,reduceIte]
 refine ⟨fun _ =>?_,fun h =>?_⟩
 rotate_left
 ·simp at h
 refine .au (by decide +kernel) fun K hK =>?_
 simp only[Hf,U,Nat.reduceEqDiff,reduceIte]
 refine .done (hK _ ?_);clear hK K
 refine .au (by decide +kernel) fun K hK =>?_
 simp only[Hg,U,Nat.reduceEqDiff,reduceIte]
 refine .done (hK _ ?_);clear hK K
 refine J.seq (J.block (J.loop (fun s:Nat×Nat=>aq [(0,.view 1000000 [] 1 0 n),(1,.int .i64 a),(2,.int .i64 m),(3,.int .i64 b),(4,.func 138 [.ref (enc el)]),(14,.int .i64 ((a+s.1:Nat):Int)),(15,.int .i64 ((a+s.2:Nat):Int))] (bX 1000000 ws))
  (fun s=>s.1≤s.2∧s.2≤l.length∧(∀ j,j<s.1→dJ el (l.getD j 0) x)∧∀ j,s.2≤j→j<l.length→dJ el x (l.getD j 0)) (fun s=>s.2-s.1) (0,l.length) ⟨Nat.zero_le _,Nat.le_refl _,fun j hj=>by omega,fun j h1 h2=>by simp only at h1;omega⟩ ?_ ?_))
 ·have e1:a+0=a:=rfl
  simp only[e1,hm]
  refine aC.cD ?_ (fun n=>rfl)
  simp[aX,aW]
 rintro ⟨i,j⟩ ⟨g1,g2,g3,g4⟩
 simp only at g1 g2 g3 g4 ⊢
 by_cases hij:i<j
 ·have hc:decide (((a+i:Nat):Int)<((a+j:Nat):Int))=true:=by simp;omega
  have w1:=lf (a+i) (a+j) (by omega)
  have w2:=nC (x:=a+i+(a+j)) (by omega)
  obtain ⟨c,hcd⟩:∃ c,c=(i+j) / 2:=⟨_,rfl⟩
  have hci:i≤c∧c<j:=by omega
  have w3:(a+i+(a+j)) / 2=a+c:=by omega
  have w4:=nC (x:=a+c) (by omega)
  have w5:=uB (n:=a+c) (by omega)
  have w6:=eH (i:=a+c) (by omega)
  have v1:=ik (n:=n) (i:=a+c) (by omega)
  have v2:=ik (n:=n) (i:=m) (by omega)
  have l1:=fL (xs:=ws) (i:=a+c) (by omega)
  have l2:=fL (xs:=ws) (i:=m) (by omega)
  rw[ni c (by omega)] at l1
  rw[gx] at l2
  have hrc:=ml c (by omega)
  have hcmp:=rV el hd hel x (l.getD c 0) hxS (hlS _ hrc)
  have hlt:=tp (l:=el) (hlx _ hrc)
  simp only[bX]
  cases hdc:decide (gn el x-gn el (l.getD c 0)<0) with
  |true =>
   have hd1:dJ el x (l.getD c 0):=hlt.2 (by have:=of_decide_eq_true hdc;omega)
   have R:=And.intro @hc (And.intro @w1 (And.intro @w2 (And.intro @w3 (And.intro @w4 (And.intro @w5 (And.intro @w6 (And.intro @ov (And.intro @ou (And.intro @v1 (And.intro @v2 (And.intro @l1 (And.intro @l2 (And.intro @hdc (And.intro @cG (And.intro @dP (And.intro @aK @U))))))))))))))))
   repeat' ((first
    |(with_reducible refine .guard (fun hb =>?_) (fun hb =>?_) <;>try simp only[hb])
    |refine J.aG (by decide +kernel) rfl fun K hK =>?_
    |refine .flat _ (hcmp) rfl ?_
    |(refine .aw [0,1,2,3,4,10,11,12,13,14,15,16,17,18,19,20,21,22,23,24,28,33,50,58,80,85,103,110,140,151,171,185,199,213] hK ?_;clear hK K)
    |(with_reducible refine .done (hK _ ?_);clear hK K)
    |refine J.of rfl ?_
    |(with_reducible refine ak.aE (fun h =>?_) (fun h =>?_) <;>try simp only[h])) <;>try simp only[aH,R,List.cons_append,Nat.reduceEqDiff,reduceIte,Nat.reduceBEq])
   all_goals clear R
   refine ⟨(i,c),⟨by simp only;omega,by simp only;omega,g3,fun k hk hk2 =>?_⟩,by simp only;omega,?_⟩
   ·simp only at hk
    exact qd hsl (i:=c) (by omega) hk2 hd1
   ·refine aC.cD ?_ (fun n=>rfl)
    simp[aX,aW]
  |false =>
   have hd1:dJ el (l.getD c 0) x:=tn (hlx _ hrc) (by have:=of_decide_eq_false hdc;omega)
   have R:=And.intro @hc (And.intro @w1 (And.intro @w2 (And.intro @w3 (And.intro @w4 (And.intro @w5 (And.intro @w6 (And.intro @ov (And.intro @ou (And.intro @v1 (And.intro @v2 (And.intro @l1 (And.intro @l2 (And.intro @hdc (And.intro @cG (And.intro @dP (And.intro @aK @U))))))))))))))))
   repeat' ((first
    |(with_reducible refine .guard (fun hb =>?_) (fun hb =>?_) <;>try simp only[hb])
    |refine J.aG (by decide +kernel) rfl fun K hK =>?_
    |refine .flat _ (hcmp) rfl ?_
    |(refine .aw [0,1,2,3,4,10,11,12,13,14,15,16,17,18,19,20,21,22,23,24,28,33,50,58,80,85,103,110,140,151,171,185,199,213] hK ?_;clear hK K)
    |(with_reducible refine .done (hK _ ?_);clear hK K)
    |refine J.of rfl ?_
    |(with_reducible refine ak.aE (fun h =>?_) (fun h =>?_) <;>try simp only[h])) <;>try simp only[aH,R,List.cons_append,Nat.reduceEqDiff,reduceIte,Nat.reduceBEq])
   all_goals clear R
   refine ⟨(c+1,j),⟨by simp only;omega,g2,fun k hk =>?_,g4⟩,by simp only;omega,?_⟩
   ·simp only at hk
    exact qe hsl (j:=c) (by omega) (by omega) hd1
   ·refine aC.cD ?_ (fun n=>rfl)
    simp[aX,aW];omega
 ·have hc:decide (((a+i:Nat):Int)<((a+j:Nat):Int))=false:=by simp;omega
  have he:j=i:=by omega
  subst he
  refine J.seq (J.seq ?_)
  refine .bV (by decide +kernel) fun K hK =>?_
  simp only[Hh,U,Nat.reduceEqDiff,reduceIte]
  try simp only[hc]
  refine .done (hK _ ?_);clear hK K;try simp only[aF]
  refine J.bW ?_
  simp only[ak,U,Nat.reduceEqDiff,reduceIte]
  refine ⟨fun h =>?_,fun h =>?_⟩
  ·cases h
  refine J.exit ?_;try simp only[aF,b8,reduceIte]
  refine J.seq (J.seq ?_)
  refine .bV (by decide +kernel) fun K hK =>?_
  simp only[Hj,U,Nat.reduceEqDiff,reduceIte]
  refine .done (hK _ ?_);clear hK K;try simp only[aF]
  have hi0:=ah0 p l q x
  rw[hws,←hi0]
  refine J.block (J.loop (fun k:Nat=>aq [(0,.view 1000000 [] 1 0 n),(14,.int .i64 ((a+j:Nat):Int)),(17,.int .i64 ((a+k:Nat):Int))] (bX 1000000 (dY p l q x k))) (fun k=>j≤k∧k≤l.length) (fun k=>k-j) l.length ⟨g2,Nat.le_refl _⟩ ?_ (fun k hk =>?_))
  ·rw[hm]
   refine aC.cD ?_ (fun n=>rfl)
   simp[aX,aW]
  have hil:(dY p l q x k).length=p.length+l.length+1+q.length:=xw (by omega)
  by_cases hkj:j<k
  ·have hc2:decide (((a+j:Nat):Int)<((a+k:Nat):Int))=true:=by simp;omega
   obtain ⟨k',rfl⟩:∃ k',k=k'+1:=⟨k-1,by omega⟩
   have hstep:=IZ (p:=p) (t:=l) (rest:=q) (x:=x) (c:=k') ha (by omega)
   generalize dY p l q x (k'+1)=ws at hil hstep ⊢
   obtain ⟨i1,hi1e⟩:∃ i1,i1=a+(k'+1):=⟨_,rfl⟩
   obtain ⟨j1,hj1e⟩:∃ j1,j1=a+k':=⟨_,rfl⟩
   have hij:a+k'+1=i1:=by omega
   rw[hij,←hj1e] at hstep
   have wk:IntKind.i64.wrap ((i1:Int)-1)=(j1:Int):=by rw[dz _ (by omega) (by omega)];omega
   rw[←hi1e] at hc2 ⊢
   have hi1:i1<n:=by omega
   have hj1:j1<n:=by omega
   simp only[bX]
   have v1:=ik (n:=n) (i:=i1) hi1
   have v2:=ik (n:=n) (i:=j1) hj1
   have l1:=fL (xs:=ws) (i:=i1) (by omega)
   have l2:=fL (xs:=ws) (i:=j1) (by omega)
   have s1:=fun (A:ab) v u rest=>mY (A:=A) (n:=1000000) (xs:=ws) (i:=i1) (by omega) v u rest
   obtain ⟨ws2,hws2⟩:∃ ws2,ws2=ws.set i1 (ws.getD j1 0):=⟨_,rfl⟩
   have hw2l:ws2.length=ws.length:=by rw[hws2];simp
   have s2:=fun (A:ab) v u rest=>mY (A:=A) (n:=1000000) (xs:=ws2) (i:=j1) (by omega) v u rest
   have l3:=fL (xs:=ws2) (i:=j1) (by omega)
   have R:=And.intro @hc2 (And.intro @wk (And.intro @v1 (And.intro @v2 (And.intro @l1 (And.intro @l2 (And.intro @l3 (And.intro @s1 (And.intro @s2 (And.intro @cG (And.intro @aK @U))))))))))
   repeat' ((first
    |(with_reducible refine .guard (fun hb =>?_) (fun hb =>?_) <;>try simp only[hb])
    |refine J.aG (by decide +kernel) rfl fun K hK =>?_
    |(refine .aw [0,1,2,3,4,10,11,12,13,14,15,16,17,18,19,20,21,22,23,24,28,33,50,58,80,85,103,110,140,151,171,185,199,213] hK ?_;clear hK K)
    |(with_reducible refine .done (hK _ ?_);clear hK K)
    |refine J.of rfl ?_
    |(with_reducible refine ak.aE (fun h =>?_) (fun h =>?_) <;>try simp only[h])) <;>try simp only[aH,R,←hws2,Nat.reduceEqDiff,reduceIte,Nat.reduceBEq])
   all_goals clear R
   refine ⟨k',by omega,by omega,?_⟩
   rw[←hstep]
   simp only[kp,←hws2,←hj1e]
   refine aC.cD ?_ (fun n =>?_)
   ·simp[aX,aW]
   ·simp only[ai];split <;>rfl
  ·have hc2:decide (((a+j:Nat):Int)<((a+k:Nat):Int))=false:=by simp;omega
   have hk2:k=j:=by omega
   subst hk2
   have R:=And.intro @hc2 (And.intro @aK (And.intro @fq @U))
   repeat' ((first
    |(with_reducible refine .guard (fun hb =>?_) (fun hb =>?_) <;>try simp only[hb])
    |refine J.aG (by decide +kernel) rfl fun K hK =>?_
    |(refine .aw [0,1,2,3,4,10,11,12,13,14,15,16,17,18,19,20,21,22,23,24,28,33,50,58,80,85,103,110,140,151,171,185,199,213] hK ?_;clear hK K)
    |(with_reducible refine .done (hK _ ?_);clear hK K)
    |refine J.of rfl ?_
    |(with_reducible refine ak.aE (fun h =>?_) (fun h =>?_) <;>try simp only[h])) <;>try simp only[aH,R,Nat.reduceEqDiff,reduceIte,Nat.reduceBEq])
   all_goals clear R
   refine nG rfl rfl ⟨rfl,l.take k++x::l.drop k,?_,?_,?_⟩
   ·refine List.perm_middle.trans ?_
    rw[List.take_append_drop];exact List.perm_append_comm (l₁:=[x])
   ·refine yW hsl (fun y hy =>?_) (fun y hy =>?_)
    ·obtain ⟨i,h1,h2,rfl⟩:=tt hy;exact g3 i h1
    ·obtain ⟨i,h1,h2,rfl⟩:=pL hy;exact g4 i h1 h2
   ·rfl
theorem Om(el:List al)(hd:mi el)(hel:el.length≤60)(N:Nat)(ih:∀ (p l r q:List Int) (a m b n:Nat),l.length+r.length≤N→0<l.length→0<r.length→p.length=a→a+l.length=m→m+r.length=b→b≤n→n≤(p++l++r++q).length→n≤1000→dh el l→dh el r→(∀ x∈l,∀ y∈r,x<y)→(∀ x∈l++r,ju el x) →
  cz Tryz.prog 204 [.view 1000000 [] 1 0 n,enc (a:Int),enc (m:Int),enc (b:Int),.func 138 [.ref (enc el)]] (bX 1000000 (p++l++r++q)) (mX el p (l++r) q)) (p l r q:List Int) (a m b n:Nat) (hl0:0<l.length) (hr0:0<r.length) (ha:p.length=a) (hm:a+l.length=m) (hb:m+r.length=b) (hn:b≤n) (hnl:n≤(p++l++r++q).length) (hn1:n≤1000) (hsl:dh el l) (hsr:dh el r) (hlr:∀ x∈l,∀ y∈r,x<y) (hin:∀ x∈l++r,ju el x) (hN:l.length+r.length≤N+1) (hl1:¬ l.length=1) (hr1:¬ r.length=1) :
  cz Tryz.prog 204 [.view 1000000 [] 1 0 n,enc (a:Int),enc (m:Int),enc (b:Int),.func 138 [.ref (enc el)]] (bX 1000000 (p++l++r++q)) (mX el p (l++r) q):=by
 have hlen:(p++l++r++q).length=p.length+l.length+r.length+q.length:=by simp only[List.length_append]
 have ni:=fun i (hi:i<l.length)=>xd (p:=p) (l:=l) (r:=r) (q:=q) (i:=i) ha hi
 have gr:=fun i (hi:i<r.length)=>xe (p:=p) (l:=l) (r:=r) (q:=q) (m:=m) (i:=i) (by omega) hi
 have ml:=fun i (hi:i<l.length)=>(show l.getD i 0∈l by rw[List.getD_eq_getElem?_getD,List.getElem?_eq_getElem hi];exact List.getElem_mem _)
 have mr:=fun i (hi:i<r.length)=>(show r.getD i 0∈r by rw[List.getD_eq_getElem?_getD,List.getElem?_eq_getElem hi];exact List.getElem_mem _)
 refine cz.bn Tryz.func204 vn vq vz (Nat.le_of_ble_eq_true rfl) (Nat.le_of_ble_eq_true rfl) mO (fun hwf W0 D0 E1 =>?_)
 simp only[sq,tS,a6,Nat.zero_add,Nat.reduceAdd]
 clear hwf
 have fh:=iK (x:=m) (y:=a) (by omega) (by omega)
 refine J.seq (J.seq ?_)
 have h1:(((m-a:Nat):Int)==1)=false:=by simp;omega
 obtain ⟨ws,hws⟩:∃ ws,ws=p++l++r++q:=⟨_,rfl⟩
 rw[←hws] at hnl hlen gr ni ⊢
 have w0b:=iK (x:=b) (y:=m) (by omega) (by omega)
 refine .bV (by decide +kernel) fun K hK =>?_
 simp only[sP,U,Nat.reduceEqDiff,reduceIte]
 try simp only[fh,h1]
 refine .done (hK _ ?_);clear hK K;try simp only[aF]
 refine J.bW ?_
 try simp only[ak,U,Nat.reduceEqDiff,reduceIte]
 refine ⟨fun h =>?_,fun _ =>?_⟩
 ·simp at h
 refine J.skip ?_;try simp only[aF]
 refine J.seq (J.seq ?_)
 have h2:(((b-m:Nat):Int)==1)=false:=by simp;omega
 refine .bV (by decide +kernel) fun K hK =>?_
 simp only[wR,U,Nat.reduceEqDiff,reduceIte]
 try simp only[w0b,h2]
 refine .done (hK _ ?_);clear hK K;try simp only[aF]
 refine J.bW ?_
 try simp only[ak,U,Nat.reduceEqDiff,reduceIte]
 refine ⟨fun h =>?_,fun _ =>?_⟩
 ·simp at h
 refine J.skip ?_;try simp only[aF]
 obtain ⟨k,hk⟩:∃ k,k=(l.length+r.length) / 2:=⟨_,rfl⟩
 have w1:=lf a b (by omega)
 have w2:=nC (x:=a+b) (by omega)
 have w3:(a+b) / 2=a+k:=by omega
 have w4:=nC (x:=a+k) (by omega)
 have w5:=uB (n:=a+k) (by omega)
 have w6:=lf (a+k) m (by omega)
 refine .au (by decide +kernel) fun K hK =>?_
 simp only[Hk,U,Nat.reduceEqDiff,reduceIte]
 try simp only[w1,w2,w3,w5,ov,ou,U,Nat.reduceEqDiff,reduceIte]
 refine .done (hK _ ?_);clear hK K
 refine .au (by decide +kernel) fun K hK =>?_
 simp only[Hl,U,Nat.reduceEqDiff,reduceIte]
 try simp only[w6]
 refine .done (hK _ ?_);clear hK K
 refine .au (by decide +kernel) fun K hK =>?_
 simp only[Hm,U]
 refine .done (hK _ ?_);clear hK K
 obtain ⟨lo,hi,q1,q2,q3,q4,q5,q6,q7⟩:∃ lo hi,(if a+k<m then lo+r.length=k∧hi=k else lo=0∧hi=l.length)∧lo≤hi∧hi≤l.length∧hi≤k∧k≤lo+r.length∧(lo=0∨lo+r.length=k)∧(hi=l.length∨hi=k):=by
  by_cases h:a+k<m
  ·exact ⟨k-r.length,k,by rw[if_pos h];omega,by omega,by omega,by omega,by omega,by omega,by omega⟩
  ·exact ⟨0,l.length,by rw[if_neg h];omega,by omega,by omega,by omega,by omega,by omega,by omega⟩
 refine J.seq (J.nO (aq [(0,.view 1000000 [] 1 0 n),(1,.int .i64 a),(2,.int .i64 m),(3,.int .i64 b),(4,.func 138 [.ref (enc el)]),(18,.int .i64 ((a+k:Nat):Int)),(19,.int .i64 ((a+k+m:Nat):Int)),(20,.int .i64 ((a+lo:Nat):Int)),(21,.int .i64 ((a+hi:Nat):Int))] (bX 1000000 ws)) ?_ fun B hB=>J.sub hB ?_)
 ·by_cases h:a+k<m
  ·rw[if_pos h] at q1
   have hc:decide (((a+k:Nat):Int)<(m:Int))=true:=by simp;omega
   have w7:=iK (x:=a+k+m) (y:=b) (by omega) (by omega)
   have e1:a+k+m-b=a+lo:=by omega
   have R:=And.intro @hc (And.intro @w7 (And.intro @e1 (And.intro @aK @U)))
   repeat' ((first
    |(with_reducible refine .guard (fun hb =>?_) (fun hb =>?_) <;>try simp only[hb])
    |refine J.aG (by decide +kernel) rfl fun K hK =>?_
    |(refine .aw [0,1,2,3,4,10,11,12,13,14,15,16,17,18,19,20,21,22,23,24,28,33,50,58,80,85,103,110,140,151,171,185,199,213] hK ?_;clear hK K)
    |(with_reducible refine .done (hK _ ?_);clear hK K)
    |refine J.of rfl ?_
    |(with_reducible refine ak.aE (fun h =>?_) (fun h =>?_) <;>try simp only[h])) <;>try simp only[aH,R,Nat.reduceEqDiff,reduceIte,Nat.reduceBEq])
   all_goals clear R
   rw[q1.2]
   refine aC.cD ?_ (fun n=>rfl)
   simp[aX,aW]
  ·rw[if_neg h] at q1
   have hc:decide (((a+k:Nat):Int)<(m:Int))=false:=by simp;omega
   have R:=And.intro @hc (And.intro @aK @U)
   repeat' ((first
    |(with_reducible refine .guard (fun hb =>?_) (fun hb =>?_) <;>try simp only[hb])
    |refine J.aG (by decide +kernel) rfl fun K hK =>?_
    |(refine .aw [0,1,2,3,4,10,11,12,13,14,15,16,17,18,19,20,21,22,23,24,28,33,50,58,80,85,103,110,140,151,171,185,199,213] hK ?_;clear hK K)
    |(with_reducible refine .done (hK _ ?_);clear hK K)
    |refine J.of rfl ?_
    |(with_reducible refine ak.aE (fun h =>?_) (fun h =>?_) <;>try simp only[h])) <;>try simp only[aH,R,Nat.reduceEqDiff,reduceIte,Nat.reduceBEq])
   all_goals clear R
   rw[q1.2,q1.1,hm]
   refine aC.cD ?_ (fun n=>rfl)
   simp[aX,aW]
 clear q1 w1 w2 w3 w4 w5 w6 hl1 hr1 fh w0b
 have hcrF:∀ i,lo≤i→i≤hi→(∀ j,lo≤j→j<i→dJ el (l.getD j 0) (r.getD (k-1-j) 0))→(∀ j,i≤j→j<hi→dJ el (r.getD (k-1-j) 0) (l.getD j 0))→rS el l r k i:=fun i a1 a2 a3 a4=>V3 hsl hsr a1 a2 q6 q7 q3 q4 q5 a3 a4
 have hk2:2*k≤l.length+r.length:=by omega
 have hk3:1≤k:=by omega
 clear q6 q7 hk
 have w8:IntKind.i64.wrap (((a+k+m:Nat):Int)-1)=((a+k+m-1:Nat):Int):=by rw[dz _ (by omega) (by omega)];omega
 refine .au (by decide +kernel) fun K hK =>?_
 simp only[Ho,U,Nat.reduceEqDiff,reduceIte]
 try simp only[w8]
 refine .done (hK _ ?_);clear hK K
 refine J.seq (J.block (J.loop (fun s:Nat×Nat=>aq [(0,.view 1000000 [] 1 0 n),(1,.int .i64 a),(2,.int .i64 m),(3,.int .i64 b),(4,.func 138 [.ref (enc el)]),(18,.int .i64 ((a+k:Nat):Int)),(19,.int .i64 ((a+k+m:Nat):Int)),(22,.int .i64 ((a+k+m-1:Nat):Int)),(20,.int .i64 ((a+s.1:Nat):Int)),(21,.int .i64 ((a+s.2:Nat):Int))] (bX 1000000 ws))
  (fun s=>lo≤s.1∧s.1≤s.2∧s.2≤hi∧(∀ j,lo≤j→j<s.1→dJ el (l.getD j 0) (r.getD (k-1-j) 0))∧∀ j,s.2≤j→j<hi→dJ el (r.getD (k-1-j) 0) (l.getD j 0)) (fun s=>s.2-s.1) (lo,hi) ⟨Nat.le_refl _,q2,Nat.le_refl _,fun j h1 h2=>by simp only at h2;omega,fun j h1 h2=>by simp only at h1;omega⟩ ?_ ?_))
 ·refine aC.cD ?_ (fun n=>rfl)
  simp[aX,aW]
 rintro ⟨i,j⟩ ⟨fY,g1,g2,g3,g4⟩
 simp only at fY g1 g2 g3 g4 ⊢
 by_cases hij:i<j
 ·have hc:decide (((a+i:Nat):Int)<((a+j:Nat):Int))=true:=by simp;omega
  have w1:=lf (a+i) (a+j) (by omega)
  have w2:=nC (x:=a+i+(a+j)) (by omega)
  obtain ⟨c,hcd⟩:∃ c,c=(i+j) / 2:=⟨_,rfl⟩
  have hci:i≤c∧c<j:=by omega
  have w3:(a+i+(a+j)) / 2=a+c:=by omega
  have w4:=nC (x:=a+c) (by omega)
  have w5:=uB (n:=a+c) (by omega)
  have w6:=eH (i:=a+c) (by omega)
  have w9:=iK (x:=a+k+m-1) (y:=a+c) (by omega) (by omega)
  have e1:a+k+m-1-(a+c)=m+(k-1-c):=by omega
  have v1:=ik (n:=n) (i:=a+c) (by omega)
  have v2:=ik (n:=n) (i:=m+(k-1-c)) (by omega)
  have l1:=fL (xs:=ws) (i:=a+c) (by omega)
  have l2:=fL (xs:=ws) (i:=m+(k-1-c)) (by omega)
  rw[ni c (by omega)] at l1
  rw[gr (k-1-c) (by omega)] at l2
  have hlc:=ml c (by omega)
  have hrc:=mr (k-1-c) (by omega)
  have hcmp:=rV el hd hel (r.getD (k-1-c) 0) (l.getD c 0) (hin _ (by simp only[List.mem_append];exact .inr hrc)) (hin _ (by simp only[List.mem_append];exact .inl hlc))
  have hlt:=tp (l:=el) (hlr _ hlc _ hrc)
  simp only[bX]
  cases hdc:decide (gn el (r.getD (k-1-c) 0)-gn el (l.getD c 0)<0) with
  |true =>
   have hd1:dJ el (r.getD (k-1-c) 0) (l.getD c 0):=hlt.2 (by have:=of_decide_eq_true hdc;omega)
   have R:=And.intro @hc (And.intro @w1 (And.intro @w2 (And.intro @w3 (And.intro @w4 (And.intro @w5 (And.intro @w6 (And.intro @w9 (And.intro @e1 (And.intro @ov (And.intro @ou (And.intro @v1 (And.intro @v2 (And.intro @l1 (And.intro @l2 (And.intro @hdc (And.intro @cG (And.intro @dP (And.intro @aK @U))))))))))))))))))
   repeat' ((first
    |(with_reducible refine .guard (fun hb =>?_) (fun hb =>?_) <;>try simp only[hb])
    |refine J.aG (by decide +kernel) rfl fun K hK =>?_
    |refine .flat _ (hcmp) rfl ?_
    |(refine .aw [0,1,2,3,4,10,11,12,13,14,15,16,17,18,19,20,21,22,23,24,28,33,50,58,80,85,103,110,140,151,171,185,199,213] hK ?_;clear hK K)
    |(with_reducible refine .done (hK _ ?_);clear hK K)
    |refine J.of rfl ?_
    |(with_reducible refine ak.aE (fun h =>?_) (fun h =>?_) <;>try simp only[h])) <;>try simp only[aH,R,List.cons_append,Nat.reduceEqDiff,reduceIte,Nat.reduceBEq])
   all_goals clear R
   refine ⟨(i,c),⟨fY,by simp only;omega,by simp only;omega,g3,fun t ht ht2 =>?_⟩,by simp only;omega,?_⟩
   ·simp only at ht
    exact qe hsr (j:=k-1-c) (by omega) (by omega) (qd hsl (i:=c) (by omega) (by omega) hd1)
   ·refine aC.cD ?_ (fun n=>rfl)
    simp[aX,aW]
  |false =>
   have hd1:dJ el (l.getD c 0) (r.getD (k-1-c) 0):=tn (hlr _ hlc _ hrc) (by have:=of_decide_eq_false hdc;omega)
   have R:=And.intro @hc (And.intro @w1 (And.intro @w2 (And.intro @w3 (And.intro @w4 (And.intro @w5 (And.intro @w6 (And.intro @w9 (And.intro @e1 (And.intro @ov (And.intro @ou (And.intro @v1 (And.intro @v2 (And.intro @l1 (And.intro @l2 (And.intro @hdc (And.intro @cG (And.intro @dP (And.intro @aK @U))))))))))))))))))
   repeat' ((first
    |(with_reducible refine .guard (fun hb =>?_) (fun hb =>?_) <;>try simp only[hb])
    |refine J.aG (by decide +kernel) rfl fun K hK =>?_
    |refine .flat _ (hcmp) rfl ?_
    |(refine .aw [0,1,2,3,4,10,11,12,13,14,15,16,17,18,19,20,21,22,23,24,28,33,50,58,80,85,103,110,140,151,171,185,199,213] hK ?_;clear hK K)
    |(with_reducible refine .done (hK _ ?_);clear hK K)
    |refine J.of rfl ?_
    |(with_reducible refine ak.aE (fun h =>?_) (fun h =>?_) <;>try simp only[h])) <;>try simp only[aH,R,List.cons_append,Nat.reduceEqDiff,reduceIte,Nat.reduceBEq])
   all_goals clear R
   refine ⟨(c+1,j),⟨by simp only;omega,by simp only;omega,g2,fun t ht ht2 =>?_,g4⟩,by simp only;omega,?_⟩
   ·simp only at ht2
    exact qe hsl (j:=c) (by omega) (by omega) (qd hsr (i:=k-1-c) (by omega) (by omega) hd1)
   ·refine aC.cD ?_ (fun n=>rfl)
    simp[aX,aW];omega
 have hc:decide (((a+i:Nat):Int)<((a+j:Nat):Int))=false:=by simp;omega
 have he:j=i:=by omega
 subst he
 have hcr:rS el l r k j:=hcrF _ fY g2 g3 g4
 refine J.seq (J.seq ?_)
 refine .bV (by decide +kernel) fun K hK =>?_
 simp only[Hp,U,Nat.reduceEqDiff,reduceIte]
 try simp only[hc]
 refine .done (hK _ ?_);clear hK K;try simp only[aF]
 refine J.bW ?_
 simp only[ak,U,Nat.reduceEqDiff,reduceIte]
 refine ⟨fun h =>?_,fun h =>?_⟩
 ·cases h
 refine J.exit ?_;try simp only[aF,b8,reduceIte]
 have w10:=iK (x:=a+k+m) (y:=a+j) (by omega) (by omega)
 have e2:a+k+m-(a+j)=m+(k-j):=by omega
 refine .au (by decide +kernel) fun K hK =>?_
 simp only[Hq,U,Nat.reduceEqDiff,reduceIte]
 try simp only[w10,e2]
 refine .done (hK _ ?_);clear hK K
 -- the four parts
 have hl12:l.take j++l.drop j=l:=List.take_append_drop _ _
 have hr12:r.take (k-j)++r.drop (k-j)=r:=List.take_append_drop _ _
 obtain ⟨l1,hl1e⟩:∃ l1,l1=l.take j:=⟨_,rfl⟩
 obtain ⟨l2,hl2e⟩:∃ l2,l2=l.drop j:=⟨_,rfl⟩
 obtain ⟨r1,hr1e⟩:∃ r1,r1=r.take (k-j):=⟨_,rfl⟩
 obtain ⟨dV,hr2e⟩:∃ dV,dV=r.drop (k-j):=⟨_,rfl⟩
 have ll1:l1.length=j:=by rw[hl1e,List.length_take];omega
 have ll2:l2.length=l.length-j:=by rw[hl2e,List.length_drop]
 have lr1:r1.length=k-j:=by rw[hr1e,List.length_take];omega
 have lr2:dV.length=r.length-(k-j):=by rw[hr2e,List.length_drop]
 have sl1:dh el l1:=hl1e▸MK hsl _
 have sl2:dh el l2:=hl2e▸MJ hsl _
 have sr1:dh el r1:=hr1e▸MK hsr _
 have sr2:dh el dV:=hr2e▸MJ hsr _
 have ml1:∀ x∈l1,x∈l:=fun x hx=>List.mem_of_mem_take (hl1e▸hx)
 have ml2:∀ x∈l2,x∈l:=fun x hx=>List.mem_of_mem_drop (hl2e▸hx)
 have mr1:∀ x∈r1,x∈r:=fun x hx=>List.mem_of_mem_take (hr1e▸hx)
 have mr2:∀ x∈dV,x∈r:=fun x hx=>List.mem_of_mem_drop (hr2e▸hx)
 rw[←hl1e,←hl2e] at hl12
 rw[←hr1e,←hr2e] at hr12
 have hws4:ws=(p++l1)++l2++r1++(dV++q):=by rw[hws,←hl12,←hr12];simp only[List.append_assoc]
 have e3:((a+j:Nat):Int)<m↔j<l.length:=by omega
 -- the parts change places
 refine J.seq (J.nO (aq [(0,.view 1000000 [] 1 0 n),(1,.int .i64 a),(3,.int .i64 b),(4,.func 138 [.ref (enc el)]),(18,.int .i64 ((a+k:Nat):Int)),(20,.int .i64 ((a+j:Nat):Int)),(24,.int .i64 ((m+(k-j):Nat):Int))] (bX 1000000 (p++l1++r1++(l2++dV++q)))) ?_ fun B hB=>J.sub hB ?_)
 ·by_cases h1:j<l.length
  ·have hc1:decide (((a+j:Nat):Int)<(m:Int))=true:=by simp;omega
   by_cases h2:j<k
   ·have hc2:decide ((m:Int)<((m+(k-j):Nat):Int))=true:=by simp;omega
    have hrot:=Oq (p++l1) l2 r1 (dV++q) (a+j) m (m+(k-j)) n 138 [.ref (enc el)] (by simp[I.bU,I.br,dP]) (by rw[List.length_append];omega) (by omega) (by omega) (by omega) (by omega) (by omega) hn1
    rw[←hws4] at hrot
    have R:=And.intro @hc1 (And.intro @hc2 (And.intro @aK @U))
    repeat' ((first
     |(with_reducible refine .guard (fun hb =>?_) (fun hb =>?_) <;>try simp only[hb])
     |refine J.aG (by decide +kernel) rfl fun K hK =>?_
     |(refine .aw [0,1,2,3,4,10,11,12,13,14,15,16,17,18,19,20,21,22,23,24,28,33,50,58,80,85,103,110,140,151,171,185,199,213] hK ?_;clear hK K)
     |(with_reducible refine .done (hK _ ?_);clear hK K)
     |refine J.of rfl ?_
     |(with_reducible refine ak.aE (fun h =>?_) (fun h =>?_) <;>try simp only[h])) <;>try simp only[aH,R,Nat.reduceEqDiff,reduceIte,Nat.reduceBEq])
    all_goals clear R
    refine bj.kW hrot (kB _ n 138 [.ref (enc el)] (by simp[I.bU,I.br,dP]) [_,_,_]) ?_
    rintro eJ os' ⟨rfl,rfl⟩
    refine ⟨_,rfl,rfl,?_⟩
    try simp only[U]
    refine .done (hK _ ?_);clear hK K
    have e5:p++l1++r1++l2++(dV++q)=p++l1++r1++(l2++dV++q):=by simp only[List.append_assoc]
    rw[e5]
    refine aC.cD ?_ (fun n=>rfl)
    simp[aX,aW]
   ·have hc2:decide ((m:Int)<((m+(k-j):Nat):Int))=false:=by simp;omega
    have hn0:r1=[]:=List.length_eq_zero_iff.1 (by omega)
    have e5:ws=p++l1++r1++(l2++dV++q):=by rw[hws4,hn0];simp only[List.append_assoc,List.append_nil]
    rw[e5]
    have R:=And.intro @hc1 (And.intro @hc2 (And.intro @aK @U))
    repeat' ((first
     |(with_reducible refine .guard (fun hb =>?_) (fun hb =>?_) <;>try simp only[hb])
     |refine J.aG (by decide +kernel) rfl fun K hK =>?_
     |(refine .aw [0,1,2,3,4,10,11,12,13,14,15,16,17,18,19,20,21,22,23,24,28,33,50,58,80,85,103,110,140,151,171,185,199,213] hK ?_;clear hK K)
     |(with_reducible refine .done (hK _ ?_);clear hK K)
     |refine J.of rfl ?_
     |(with_reducible refine ak.aE (fun h =>?_) (fun h =>?_) <;>try simp only[h])) <;>try simp only[aH,R,Nat.reduceEqDiff,reduceIte,Nat.reduceBEq])
    all_goals clear R
    refine aC.cD ?_ (fun n=>rfl)
    simp[aX,aW]
  ·have hc1:decide (((a+j:Nat):Int)<(m:Int))=false:=by simp;omega
   have hn0:l2=[]:=List.length_eq_zero_iff.1 (by omega)
   have e5:ws=p++l1++r1++(l2++dV++q):=by rw[hws4,hn0];simp only[List.append_assoc,List.append_nil,List.nil_append]
   rw[e5]
   have R:=And.intro @hc1 (And.intro @aK @U)
   repeat' ((first
    |(with_reducible refine .guard (fun hb =>?_) (fun hb =>?_) <;>try simp only[hb])
    |refine J.aG (by decide +kernel) rfl fun K hK =>?_
    |(refine .aw [0,1,2,3,4,10,11,12,13,14,15,16,17,18,19,20,21,22,23,24,28,33,50,58,80,85,103,110,140,151,171,185,199,213] hK ?_;clear hK K)
    |(with_reducible refine .done (hK _ ?_);clear hK K)
    |refine J.of rfl ?_
    |(with_reducible refine ak.aE (fun h =>?_) (fun h =>?_) <;>try simp only[h])) <;>try simp only[aH,R,Nat.reduceEqDiff,reduceIte,Nat.reduceBEq])
   all_goals clear R
   refine aC.cD ?_ (fun n=>rfl)
   simp[aX,aW]
 -- the lower half
 refine J.seq (J.al7 (fun s1:List Int=>aq [(0,.view 1000000 [] 1 0 n),(3,.int .i64 b),(4,.func 138 [.ref (enc el)]),(18,.int .i64 ((a+k:Nat):Int)),(24,.int .i64 ((m+(k-j):Nat):Int))] (bX 1000000 (p++s1++l2++dV++q))) (fun s1=>s1.Perm (l1++r1)∧dh el s1) ?_ fun s1 B hC hB=>J.sub hB ?_)
 ·by_cases h1:0<j
  ·have hc1:decide ((a:Int)<((a+j:Nat):Int))=true:=by simp;omega
   by_cases h2:j<k
   ·have hc2:decide (((a+j:Nat):Int)<((a+k:Nat):Int))=true:=by simp;omega
    have hrec:=ih p l1 r1 (l2++dV++q) a (a+j) (a+k) n (by omega) (by omega) (by omega) ha (by omega) (by omega) (by omega) (by simp only[List.length_append];omega) hn1 sl1 sr1 (fun x hx y hy=>hlr x (ml1 x hx) y (mr1 y hy)) (fun x hx=>hin x (by
     rcases List.mem_append.1 hx with h | h
     ·exact List.mem_append.2 (.inl (ml1 x h))
     ·exact List.mem_append.2 (.inr (mr1 x h))))
    have R:=And.intro @hc1 (And.intro @hc2 (And.intro @aK @U))
    repeat' ((first
     |(with_reducible refine .guard (fun hb =>?_) (fun hb =>?_) <;>try simp only[hb])
     |refine J.aG (by decide +kernel) rfl fun K hK =>?_
     |(refine .aw [0,1,2,3,4,10,11,12,13,14,15,16,17,18,19,20,21,22,23,24,28,33,50,58,80,85,103,110,140,151,171,185,199,213] hK ?_;clear hK K)
     |(with_reducible refine .done (hK _ ?_);clear hK K)
     |refine J.of rfl ?_
     |(with_reducible refine ak.aE (fun h =>?_) (fun h =>?_) <;>try simp only[h])) <;>try simp only[aH,R,Nat.reduceEqDiff,reduceIte,Nat.reduceBEq])
    all_goals clear R
    refine bj.kW hrec (kB _ n 138 [.ref (enc el)] (by simp[I.bU,I.br,dP]) [_,_,_]) ?_
    rintro eJ os' ⟨rfl,s1,k1,k2,rfl⟩
    refine ⟨_,rfl,rfl,?_⟩
    try simp only[U]
    refine .done (hK _ ?_);clear hK K
    refine ⟨s1,⟨k1,k2⟩,?_⟩
    have e5:p++s1++(l2++dV++q)=p++s1++l2++dV++q:=by simp only[List.append_assoc]
    rw[e5]
    refine aC.cD ?_ (fun n=>rfl)
    simp[aX,aW]
   ·have hc2:decide (((a+j:Nat):Int)<((a+k:Nat):Int))=false:=by simp;omega
    have hn0:r1=[]:=List.length_eq_zero_iff.1 (by omega)
    have R:=And.intro @hc1 (And.intro @hc2 (And.intro @aK @U))
    repeat' ((first
     |(with_reducible refine .guard (fun hb =>?_) (fun hb =>?_) <;>try simp only[hb])
     |refine J.aG (by decide +kernel) rfl fun K hK =>?_
     |(refine .aw [0,1,2,3,4,10,11,12,13,14,15,16,17,18,19,20,21,22,23,24,28,33,50,58,80,85,103,110,140,151,171,185,199,213] hK ?_;clear hK K)
     |(with_reducible refine .done (hK _ ?_);clear hK K)
     |refine J.of rfl ?_
     |(with_reducible refine ak.aE (fun h =>?_) (fun h =>?_) <;>try simp only[h])) <;>try simp only[aH,R,Nat.reduceEqDiff,reduceIte,Nat.reduceBEq])
    all_goals clear R
    refine ⟨l1++r1,⟨.refl _,by rw[hn0,List.append_nil];exact sl1⟩,?_⟩
    have e5:p++l1++r1++(l2++dV++q)=p++(l1++r1)++l2++dV++q:=by simp only[List.append_assoc]
    rw[e5]
    refine aC.cD ?_ (fun n=>rfl)
    simp[aX,aW]
  ·have hc1:decide ((a:Int)<((a+j:Nat):Int))=false:=by simp;omega
   have hn0:l1=[]:=List.length_eq_zero_iff.1 (by omega)
   have R:=And.intro @hc1 (And.intro @aK @U)
   repeat' ((first
    |(with_reducible refine .guard (fun hb =>?_) (fun hb =>?_) <;>try simp only[hb])
    |refine J.aG (by decide +kernel) rfl fun K hK =>?_
    |(refine .aw [0,1,2,3,4,10,11,12,13,14,15,16,17,18,19,20,21,22,23,24,28,33,50,58,80,85,103,110,140,151,171,185,199,213] hK ?_;clear hK K)
    |(with_reducible refine .done (hK _ ?_);clear hK K)
    |refine J.of rfl ?_
    |(with_reducible refine ak.aE (fun h =>?_) (fun h =>?_) <;>try simp only[h])) <;>try simp only[aH,R,Nat.reduceEqDiff,reduceIte,Nat.reduceBEq])
   all_goals clear R
   refine ⟨l1++r1,⟨.refl _,by rw[hn0,List.nil_append];exact sr1⟩,?_⟩
   have e5:p++l1++r1++(l2++dV++q)=p++(l1++r1)++l2++dV++q:=by simp only[List.append_assoc]
   rw[e5]
   refine aC.cD ?_ (fun n=>rfl)
   simp[aX,aW]
 -- the upper half
 obtain ⟨k1,k2⟩:=hC
 have ls1:s1.length=k:=by rw[k1.length_eq,List.length_append];omega
 have done:∀ s2,s2.Perm (l2++dV)→dh el s2→∀ ts ws',ws'=p++s1++s2++q→lh [] (mX el p (l++r) q) (aq ts (bX 1000000 ws')):=fun s2 k3 k4 ts ws' he=>by
  obtain ⟨j1,j2⟩:=als hcr (hl1e▸hr1e▸k1) (hl2e▸hr2e▸k3) k2 k4
  exact nG rfl (he.trans (by simp only[List.append_assoc])) ⟨rfl,s1++s2,j1,j2,rfl⟩
 by_cases h1:j<l.length
 ·have hc1:decide (((a+k:Nat):Int)<((m+(k-j):Nat):Int))=true:=by simp;omega
  by_cases h2:k-j<r.length
  ·have hc2:decide (((m+(k-j):Nat):Int)<(b:Int))=true:=by simp;omega
   have hrec:=ih (p++s1) l2 dV q (a+k) (m+(k-j)) b n (by omega) (by omega) (by omega) (by rw[List.length_append];omega) (by omega) (by omega) hn (by simp only[List.length_append];omega) hn1 sl2 sr2 (fun x hx y hy=>hlr x (ml2 x hx) y (mr2 y hy)) (fun x hx=>hin x (by
    rcases List.mem_append.1 hx with h | h
    ·exact List.mem_append.2 (.inl (ml2 x h))
    ·exact List.mem_append.2 (.inr (mr2 x h))))
   have R:=And.intro @hc1 (And.intro @hc2 (And.intro @aK @U))
   repeat' ((first
    |(with_reducible refine .guard (fun hb =>?_) (fun hb =>?_) <;>try simp only[hb])
    |refine J.aG (by decide +kernel) rfl fun K hK =>?_
    |(refine .aw [0,1,2,3,4,10,11,12,13,14,15,16,17,18,19,20,21,22,23,24,28,33,50,58,80,85,103,110,140,151,171,185,199,213] hK ?_;clear hK K)
    |(with_reducible refine .done (hK _ ?_);clear hK K)
    |refine J.of rfl ?_
    |(with_reducible refine ak.aE (fun h =>?_) (fun h =>?_) <;>try simp only[h])) <;>try simp only[aH,R,Nat.reduceEqDiff,reduceIte,Nat.reduceBEq])
   all_goals clear R
   refine bj.kW hrec (kB _ n 138 [.ref (enc el)] (by simp[I.bU,I.br,dP]) [_,_,_]) ?_
   rintro eJ os' ⟨rfl,s2,k3,k4,rfl⟩
   refine ⟨_,rfl,rfl,?_⟩
   try simp only[U]
   refine .done (hK _ ?_)
   clear hK K
   rw[lX]
   exact done s2 k3 k4 _ _ rfl
  ·have hc2:decide (((m+(k-j):Nat):Int)<(b:Int))=false:=by simp;omega
   have hn0:dV=[]:=List.length_eq_zero_iff.1 (by omega)
   have R:=And.intro @hc1 (And.intro @hc2 (And.intro @aK @U))
   repeat' ((first
    |(with_reducible refine .guard (fun hb =>?_) (fun hb =>?_) <;>try simp only[hb])
    |refine J.aG (by decide +kernel) rfl fun K hK =>?_
    |(refine .aw [0,1,2,3,4,10,11,12,13,14,15,16,17,18,19,20,21,22,23,24,28,33,50,58,80,85,103,110,140,151,171,185,199,213] hK ?_;clear hK K)
    |(with_reducible refine .done (hK _ ?_);clear hK K)
    |refine J.of rfl ?_
    |(with_reducible refine ak.aE (fun h =>?_) (fun h =>?_) <;>try simp only[h])) <;>try simp only[aH,R,Nat.reduceEqDiff,reduceIte,Nat.reduceBEq])
   all_goals clear R
   rw[lX]
   exact done (l2++dV) (.refl _) (by rw[hn0,List.append_nil];exact sl2) _ (p++s1++l2++dV++q) (by simp only[List.append_assoc])
 ·have hc1:decide (((a+k:Nat):Int)<((m+(k-j):Nat):Int))=false:=by simp;omega
  have hn0:l2=[]:=List.length_eq_zero_iff.1 (by omega)
  have R:=And.intro @hc1 (And.intro @aK @U)
  repeat' ((first
   |(with_reducible refine .guard (fun hb =>?_) (fun hb =>?_) <;>try simp only[hb])
   |refine J.aG (by decide +kernel) rfl fun K hK =>?_
   |(refine .aw [0,1,2,3,4,10,11,12,13,14,15,16,17,18,19,20,21,22,23,24,28,33,50,58,80,85,103,110,140,151,171,185,199,213] hK ?_;clear hK K)
   |(with_reducible refine .done (hK _ ?_);clear hK K)
   |refine J.of rfl ?_
   |(with_reducible refine ak.aE (fun h =>?_) (fun h =>?_) <;>try simp only[h])) <;>try simp only[aH,R,Nat.reduceEqDiff,reduceIte,Nat.reduceBEq])
  all_goals clear R
  rw[lX]
  exact done (l2++dV) (.refl _) (by rw[hn0,List.nil_append];exact sr2) _ (p++s1++l2++dV++q) (by simp only[List.append_assoc])
theorem zF(el:List al)(hd:mi el)(hel:el.length≤60):∀ (N:Nat) (p l r q:List Int) (a m b n:Nat),l.length+r.length≤N→0<l.length→0<r.length→p.length=a→a+l.length=m→m+r.length=b→b≤n→n≤(p++l++r++q).length→n≤1000→dh el l→dh el r→(∀ x∈l,∀ y∈r,x<y)→(∀ x∈l++r,ju el x) →
  cz Tryz.prog 204 [.view 1000000 [] 1 0 n,enc (a:Int),enc (m:Int),enc (b:Int),.func 138 [.ref (enc el)]] (bX 1000000 (p++l++r++q)) (mX el p (l++r) q):=by
 intro N
 induction N with
 |zero=>intro p l r q a m b n h1 h2;omega
 |succ N ih =>
  intro p l r q a m b n hN hl0 hr0 ha hm hb hn hnl hn1 hsl hsr hlr hin
  by_cases hl1:l.length=1
  ·exact Oj el hd hel p l r q a m b n hl0 hr0 ha hm hb hn hnl hn1 hsl hsr hlr hin hl1
  by_cases hr1:r.length=1
  ·exact Ol el hd hel p l r q a m b n hl0 hr0 ha hm hb hn hnl hn1 hsl hsr hlr hin hl1 hr1
  ·exact Om el hd hel N ih p l r q a m b n hl0 hr0 ha hm hb hn hnl hn1 hsl hsr hlr hin hN hl1 hr1
def dG(ws:List Int)(bs t:Nat):List Int:=(ws.drop (t*bs)).take bs
theorem CG(ws:List Int)(bs u:Nat):dG ws (2*bs) u=dG ws bs (2*u)++dG ws bs (2*u+1):=by
 simp only[dG]
 rw[show 2*bs=bs+bs by omega,List.take_add,List.drop_drop]
 have e1:u*(bs+bs)=2*u*bs:=by rw[Nat.mul_add,show 2*u=u+u by omega,Nat.add_mul]
 have e2:2*u*bs+bs=(2*u+1)*bs:=by rw[Nat.add_mul];omega
 rw[e1,e2]
def mb(el:List al)(bs:Nat)(o d:List Int):Prop:=o.length=d.length∧∀ t,(dG d bs t).Perm (dG o bs t)∧dh el (dG d bs t)
theorem zR(el:List al)(bs:Nat):mb el bs [] []:=⟨rfl,fun t=>by simp[dG,dh]⟩
theorem CF{o b:List Int}{bs t t':Nat}(ho:o.length=t*bs)(hb:b.length≤bs):dG (o++b) bs t'=if t'<t then dG o bs t' else if t'=t then b else []:=by
 simp only[dG]
 by_cases h1:t'<t
 ·rw[if_pos h1]
  have h2:(t'+1)*bs≤t*bs:=Nat.mul_le_mul_right _ h1
  rw[Nat.add_mul,Nat.one_mul] at h2
  rw[List.drop_append_of_le_length (by omega),List.take_append_of_le_length (by rw[List.length_drop];omega)]
 ·rw[if_neg h1]
  by_cases h2:t'=t
  ·subst h2
   rw[if_pos rfl,←ho,List.drop_left,List.take_of_length_le hb]
  ·rw[if_neg h2]
   have h3:(t+1)*bs≤t'*bs:=Nat.mul_le_mul_right _ (by omega)
   rw[Nat.add_mul,Nat.one_mul] at h3
   rw[List.drop_eq_nil_of_le (by rw[List.length_append];omega)]
   exact List.take_nil
theorem r4{el:List al}{bs t:Nat}{o d b b':List Int}(h:mb el bs o d)(ho:o.length=t*bs)(hp:b'.Perm b)(hs:dh el b')(hl:b.length≤bs):mb el bs (o++b) (d++b'):=by
 refine ⟨by rw[List.length_append,List.length_append,h.1,hp.length_eq],fun t' =>?_⟩
 rw[CF (by rw[←h.1];exact ho) (by rw[hp.length_eq];exact hl),CF ho hl]
 split
 ·exact h.2 t'
 ·split
  ·exact ⟨hp,hs⟩
  ·exact ⟨.refl _,List.Pairwise.nil⟩
theorem OU{el:List al}{bs:Nat}{o d:List Int}(h:mb el bs o d)(hn:o.length≤bs):d.Perm o∧dh el d:=by
 have:=h.2 0
 simp only[dG,Nat.zero_mul,List.drop_zero] at this
 rw[List.take_of_length_le (by rw[←h.1];exact hn),List.take_of_length_le hn] at this
 exact this
theorem TU{xs:List Int}(hx:xs.Pairwise (· < ·))(bs u:Nat):∀ x∈dG xs bs (2*u),∀ y∈dG xs bs (2*u+1),x<y:=by
 have h:(dG xs (2*bs) u).Pairwise (· < ·):=(hx.sublist (List.drop_sublist _ _)).sublist (List.take_sublist _ _)
 rw[CG,List.pairwise_append] at h
 exact h.2.2
theorem vv{xs:List Int}{bs t:Nat}{x:Int}(h:x∈dG xs bs t):x∈xs:=List.mem_of_mem_drop (List.mem_of_mem_take h)
theorem M3(xs:List Int)(bs t:Nat):xs.take ((t+1)*bs)=xs.take (t*bs)++dG xs bs t:=by
 rw[Nat.add_mul,Nat.one_mul,List.take_add];rfl
theorem qB(xs:List Int)(bs t:Nat):xs.drop (t*bs)=dG xs bs t++xs.drop ((t+1)*bs):=by
 simp only[dG]
 rw[Nat.add_mul,Nat.one_mul,←List.drop_drop,List.take_append_drop]
theorem qA{xs:List Int}{bs t:Nat}(h:(t+1)*bs≤xs.length):(dG xs bs t).length=bs:=by
 rw[Nat.add_mul,Nat.one_mul] at h
 simp only[dG,List.length_take,List.length_drop];omega
theorem amb{x:Nat}(h:x<1000000):IntKind.i64.wrap (2*(x:Int))=((2*x:Nat):Int):=by rw[dz _ (by omega) (by omega)];omega
theorem amc{x:Nat}(h:x<1000000):IntKind.i64.wrap ((x:Int)*2)=((2*x:Nat):Int):=by rw[dz _ (by omega) (by omega)];omega
theorem Je{i n:Nat}(h:i≤n):decide ((i:Int)≤(n:Int))=true:=by simp;omega
theorem JA{i n:Nat}(h:¬ i≤n):decide ((i:Int)≤(n:Int))=false:=by simp;omega
structure OV where
 bs:Nat
 d:List Int
theorem N3(el:List al)(hd:mi el)(hel:el.length≤60)(xs q:List Int)(hx:xs.Pairwise (· < ·))(hS:∀ x∈xs,ju el x)(hn:xs.length≤60) :
  cz Tryz.prog 171 [.view 1000000 [] 1 0 xs.length,enc (xs.length:Int),.func 138 [.ref (enc el)]] (bX 1000000 (xs++q)) (mX el [] xs q):=by
 refine cz.bn Tryz.func171 Cp Cy CR (Nat.le_of_ble_eq_true rfl) (Nat.le_of_ble_eq_true rfl) mO (fun hwf W0 D0 E1 =>?_)
 simp only[vh,yn,a6,Nat.zero_add,Nat.reduceAdd]
 clear hwf
 have hcl:I.bU [.ref (enc el)]=true:=by simp[I.bU,I.br,dP]
 refine .au (by decide +kernel) fun K hK =>?_
 simp only[wH,U,simprocAttr]
 refine .done (hK _ ?_);clear hK K
 refine .au (by decide +kernel) fun K hK =>?_
 simp only[wI,U,simprocAttr]
 refine .done (hK _ ?_);clear hK K
 -- blocks of twenty
 refine J.seq (J.block (J.loop (fun s:Nat×List Int=>aq [(0,.view 1000000 [] 1 0 xs.length),(1,.int .i64 xs.length),(2,.func 138 [.ref (enc el)]),(6,.int .i64 20),(7,.int .i64 ((s.1*20:Nat):Int)),(8,.int .i64 (((s.1+1)*20:Nat):Int))] (bX 1000000 (s.2++xs.drop (s.1*20)++q)))
  (fun s=>s.1*20≤xs.length∧mb el 20 (xs.take (s.1*20)) s.2) (fun s=>xs.length-s.1*20) (0,[]) ⟨Nat.zero_le _,zR el 20⟩ ?_ ?_))
 ·refine aC.cD ?_ (fun n=>rfl)
  simp[aX,aW]
 rintro ⟨t,d⟩ ⟨g1,g2⟩
 simp only at g1 g2 ⊢
 have ht:(xs.take (t*20)).length=t*20:=by rw[List.length_take];omega
 have hdl:d.length=t*20:=by rw[←g2.1,ht]
 by_cases hb:(t+1)*20≤xs.length
 ·have hc:=Je hb
  have w1:IntKind.i64.wrap ((((t+1)*20:Nat):Int)+20)=(((t+1+1)*20:Nat):Int):=by rw[dz _ (by omega) (by omega)];omega
  have hcl2:=qA hb
  have hins:=zE el hd hel d (dG xs 20 t) (xs.drop ((t+1)*20)++q) (t*20) ((t+1)*20) xs.length hdl (by omega) hb (by simp only[List.length_append,List.length_drop];omega) (by omega) ((hx.sublist (List.drop_sublist _ _)).sublist (List.take_sublist _ _)) (fun x hx=>hS x (vv hx))
  have e1:d++dG xs 20 t++(xs.drop ((t+1)*20)++q)=d++xs.drop (t*20)++q:=by rw[qB xs 20 t];simp only[List.append_assoc]
  rw[e1] at hins
  have R:=And.intro @hc (And.intro @aK @U)
  repeat' ((first
   |(with_reducible refine .guard (fun hb =>?_) (fun hb =>?_) <;>try simp only[hb])
   |refine J.aG (by decide +kernel) rfl fun K hK =>?_
   |(refine .aw [0,1,2,6,7,8,9,13,30,35,54] hK ?_;clear hK K)
   |(with_reducible refine .done (hK _ ?_);clear hK K)
   |refine J.of rfl ?_
   |(with_reducible refine ak.aE (fun h =>?_) (fun h =>?_) <;>try simp only[h])) <;>try simp only[aH,R,simprocAttr])
  all_goals clear R
  refine bj.kW hins (kB _ xs.length 138 [.ref (enc el)] hcl [_,_]) ?_
  rintro eJ os' ⟨rfl,s',k1,k2,rfl⟩
  refine ⟨_,rfl,rfl,?_⟩
  try simp only[U,simprocAttr]
  refine .done (hK _ ?_);clear hK K
  have R:=And.intro @w1 (And.intro @aK @U)
  repeat' ((first
   |(with_reducible refine .guard (fun hb =>?_) (fun hb =>?_) <;>try simp only[hb])
   |refine J.aG (by decide +kernel) rfl fun K hK =>?_
   |(refine .aw [0,1,2,6,7,8,9,13,30,35,54] hK ?_;clear hK K)
   |(with_reducible refine .done (hK _ ?_);clear hK K)
   |refine J.of rfl ?_
   |(with_reducible refine ak.aE (fun h =>?_) (fun h =>?_) <;>try simp only[h])) <;>try simp only[aH,R,simprocAttr])
  all_goals clear R
  refine ⟨(t+1,d++s'),⟨hb,?_⟩,by simp only;omega,?_⟩
  ·simp only
   rw[M3]
   exact r4 g2 ht k1 k2 (by omega)
  ·simp only[←List.append_assoc]
   refine aC.cD ?_ (fun n=>rfl)
   simp[aX,aW]
 have hc:=JA hb
 refine J.seq (J.seq ?_)
 refine .bV (by decide +kernel) fun K hK =>?_
 simp only[Gp,U,simprocAttr]
 try simp only[hc,simprocAttr]
 refine .done (hK _ ?_);clear hK K;try simp only[aF]
 refine J.bW ?_
 simp only[ak,U,simprocAttr]
 refine ⟨fun h =>?_,fun h =>?_⟩
 ·cases h
 refine J.exit ?_;try simp only[aF,b8,simprocAttr]
 -- what is left
 have hins:=zE el hd hel d (xs.drop (t*20)) q (t*20) xs.length xs.length hdl (by rw[List.length_drop];omega) (Nat.le_refl _) (by simp only[List.length_append,List.length_drop];omega) (by omega) (hx.sublist (List.drop_sublist _ _)) (fun x hx=>hS x (List.mem_of_mem_drop hx))
 refine .au (by decide +kernel) fun K hK =>?_
 simp only[Gq,U,simprocAttr]
 refine bj.kW hins (kB _ xs.length 138 [.ref (enc el)] hcl [_,_]) ?_
 rintro eJ os' ⟨rfl,s',k1,k2,rfl⟩
 refine ⟨_,rfl,rfl,?_⟩
 try simp only[U,simprocAttr]
 refine .done (hK _ ?_);clear hK K
 have hSB:mb el 20 xs (d++s'):=by
  have:=r4 g2 ht k1 k2 (by rw[List.length_drop];omega)
  rwa [List.take_append_drop] at this
 clear k1 k2 hins g2 ht hdl hb hc g1
 generalize d++s'=d0 at hSB ⊢
 -- blocks are merged
 refine J.block (J.loop (fun s:OV=>aq [(0,.view 1000000 [] 1 0 xs.length),(1,.int .i64 xs.length),(2,.func 138 [.ref (enc el)]),(6,.int .i64 s.bs)] (bX 1000000 (s.d++q))) (fun s=>20≤s.bs∧s.bs≤120∧mb el s.bs xs s.d) (fun s=>200-s.bs) ⟨20,d0⟩ ⟨Nat.le_refl _,(by show 20≤120;omega),hSB⟩ ?_ ?_)
 ·refine aC.cD ?_ (fun n=>rfl)
  simp[aX,aW]
 rintro ⟨bs,d1⟩ ⟨g1,g2,g3⟩
 simp only at g1 g2 g3 ⊢
 have hdl:=g3.1
 by_cases hb:bs<xs.length
 case neg =>
  have hc:=fD hb
  refine J.seq (J.seq ?_)
  refine .bV (by decide +kernel) fun K hK =>?_
  simp only[wJ,U,simprocAttr]
  try simp only[hc,simprocAttr]
  refine .done (hK _ ?_);clear hK K;try simp only[aF]
  refine J.bW ?_
  simp only[ak,U,simprocAttr]
  refine ⟨fun h =>?_,fun h =>?_⟩
  ·cases h
  refine J.exit ?_;try simp only[aF,b8,simprocAttr]
  rw[lX]
  obtain ⟨k1,k2⟩:=OU g3 (by omega)
  exact nG rfl rfl ⟨rfl,d1,k1,k2,rfl⟩
 have hc:=fy hb
 have w1:=amb (x:=bs) (by omega)
 refine J.seq (J.seq ?_)
 refine .bV (by decide +kernel) fun K hK =>?_
 simp only[wJ,U,simprocAttr]
 try simp only[hc,simprocAttr]
 refine .done (hK _ ?_);clear hK K;try simp only[aF]
 refine J.bW ?_
 simp only[ak,U,simprocAttr]
 refine ⟨fun h =>?_,fun h =>?_⟩
 rotate_left
 ·cases h
 refine J.skip ?_;try simp only[aF,simprocAttr]
 refine J.block (J.seq ?_)
 refine .bV (by decide +kernel) fun K hK =>?_
 simp only[Gr,U,simprocAttr]
 try simp only[w1,simprocAttr]
 refine .done (hK _ ?_);clear hK K;try simp only[aF]
 refine J.seq (J.block (J.loop (fun s:Nat×List Int=>aq [(0,.view 1000000 [] 1 0 xs.length),(1,.int .i64 xs.length),(2,.func 138 [.ref (enc el)]),(6,.int .i64 bs),(7,.int .i64 ((s.1*(2*bs):Nat):Int)),(8,.int .i64 (((s.1+1)*(2*bs):Nat):Int))] (bX 1000000 (s.2++d1.drop (s.1*(2*bs))++q)))
  (fun s=>s.1*(2*bs)≤xs.length∧mb el (2*bs) (xs.take (s.1*(2*bs))) s.2) (fun s=>xs.length-s.1*(2*bs)) (0,[]) ⟨by simp,by simp only[Nat.zero_mul,List.take_zero];exact zR el _⟩ ?_ ?_))
 ·simp only[Nat.zero_mul,Nat.zero_add,Nat.one_mul,List.drop_zero,List.nil_append]
  refine aC.cD ?_ (fun n=>rfl)
  simp[aX,aW]
 rintro ⟨u,e⟩ ⟨q1,q2⟩
 simp only at q1 q2 ⊢
 obtain ⟨A,hA⟩:∃ A,A=u*(2*bs):=⟨_,rfl⟩
 have hA1:(u+1)*(2*bs)=A+2*bs:=by rw[hA,Nat.add_mul];omega
 have hA2:2*u*bs=A:=by rw[hA,Nat.mul_comm 2 u,Nat.mul_assoc]
 have hA3:(2*u+1)*bs=A+bs:=by rw[Nat.add_mul,hA2];omega
 have hA4:(2*u+1+1)*bs=A+2*bs:=by rw[Nat.add_mul,hA3];omega
 have ht:(xs.take A).length=A:=by rw[List.length_take,hA];omega
 have hel2:e.length=A:=by rw[←q2.1,←hA,ht]
 obtain ⟨kl1,kl2⟩:=g3.2 (2*u)
 obtain ⟨kr1,kr2⟩:=g3.2 (2*u+1)
 have hlt2:=TU hx bs u
 have hd2:d1.drop A=dG d1 bs (2*u)++d1.drop (A+bs):=by
  have:=qB d1 bs (2*u)
  rwa [hA2,hA3] at this
 have hd3:d1.drop (A+bs)=dG d1 bs (2*u+1)++d1.drop (A+2*bs):=by
  have:=qB d1 bs (2*u+1)
  rwa [hA3,hA4] at this
 have hlr:∀ x∈dG d1 bs (2*u),∀ y∈dG d1 bs (2*u+1),x<y:=fun x h1 y h2=>hlt2 x (kl1.mem_iff.1 h1) y (kr1.mem_iff.1 h2)
 have hin:∀ x∈dG d1 bs (2*u)++dG d1 bs (2*u+1),ju el x:=fun x h1=>by
  rcases List.mem_append.1 h1 with h1 | h1
  ·exact hS x (vv (kl1.mem_iff.1 h1))
  ·exact hS x (vv (kr1.mem_iff.1 h1))
 rw[hA1]
 rw[←hA] at q1 q2 ⊢
 by_cases hb2:A+2*bs≤xs.length
 ·have hc2:=Je hb2
  have w2:=lf A bs (by omega)
  have w3:IntKind.i64.wrap (((A+2*bs:Nat):Int)+((2*bs:Nat):Int))=((A+2*bs+2*bs:Nat):Int):=lf _ _ (by omega)
  have ll:(dG d1 bs (2*u)).length=bs:=qA (by rw[hA3];omega)
  have lr:(dG d1 bs (2*u+1)).length=bs:=qA (by rw[hA4];omega)
  have hm:=zF el hd hel _ e (dG d1 bs (2*u)) (dG d1 bs (2*u+1)) (d1.drop (A+2*bs)++q) A (A+bs) (A+2*bs) xs.length (Nat.le_refl _) (by omega) (by omega) hel2 (by omega) (by omega) hb2 (by simp only[List.length_append,List.length_drop];omega) (by omega) kl2 kr2 hlr hin
  have e1:e++dG d1 bs (2*u)++dG d1 bs (2*u+1)++(d1.drop (A+2*bs)++q)=e++d1.drop A++q:=by rw[hd2,hd3];simp only[List.append_assoc]
  rw[e1] at hm
  have R:=And.intro @hc2 (And.intro @w2 (And.intro @aK @U))
  repeat' ((first
   |(with_reducible refine .guard (fun hb =>?_) (fun hb =>?_) <;>try simp only[hb])
   |refine J.aG (by decide +kernel) rfl fun K hK =>?_
   |(refine .aw [0,1,2,6,7,8,9,13,30,35,54] hK ?_;clear hK K)
   |(with_reducible refine .done (hK _ ?_);clear hK K)
   |refine J.of rfl ?_
   |(with_reducible refine ak.aE (fun h =>?_) (fun h =>?_) <;>try simp only[h])) <;>try simp only[aH,R,simprocAttr])
  all_goals clear R
  refine bj.kW hm (kB _ xs.length 138 [.ref (enc el)] hcl [_,_,_]) ?_
  rintro eJ os' ⟨rfl,s',k1,k2,rfl⟩
  refine ⟨_,rfl,rfl,?_⟩
  try simp only[U,simprocAttr]
  refine .done (hK _ ?_);clear hK K;try simp only[aF]
  have R:=And.intro @w1 (And.intro @w3 (And.intro @aK @U))
  repeat' ((first
   |(with_reducible refine .guard (fun hb =>?_) (fun hb =>?_) <;>try simp only[hb])
   |refine J.aG (by decide +kernel) rfl fun K hK =>?_
   |(refine .aw [0,1,2,6,7,8,9,13,30,35,54] hK ?_;clear hK K)
   |(with_reducible refine .done (hK _ ?_);clear hK K)
   |refine J.of rfl ?_
   |(with_reducible refine ak.aE (fun h =>?_) (fun h =>?_) <;>try simp only[h])) <;>try simp only[aH,R,simprocAttr])
  all_goals clear R
  refine ⟨(u+1,e++s'),⟨by simp only;omega,?_⟩,by simp only;omega,?_⟩
  ·simp only
   rw[M3,←hA]
   refine r4 q2 (ht.trans hA) (k1.trans ?_) k2 (by rw[qA (by omega)];omega)
   rw[CG]
   exact kl1.append kr1
  ·have e2:(u+1+1)*(2*bs)=A+2*bs+2*bs:=by rw[Nat.add_mul,hA1];omega
   simp only[hA1,e2,←List.append_assoc]
   refine aC.cD ?_ (fun n=>rfl)
   simp[aX,aW]
 have hc2:=JA hb2
 refine J.seq (J.seq ?_)
 refine .bV (by decide +kernel) fun K hK =>?_
 simp only[Gs,U,simprocAttr]
 try simp only[hc2,simprocAttr]
 refine .done (hK _ ?_);clear hK K;try simp only[aF]
 refine J.bW ?_
 simp only[ak,U,simprocAttr]
 refine ⟨fun h =>?_,fun h =>?_⟩
 ·cases h
 refine J.exit ?_;try simp only[aF,b8,simprocAttr]
 have w2:=lf A bs (by omega)
 have w4:=amc (x:=bs) (by omega)
 have bd:∀ s',s'.Perm (xs.drop A)→dh el s'→mb el (2*bs) xs (e++s'):=fun s' k1 k2=>by
  have:=r4 q2 (ht.trans hA) k1 k2 (by rw[List.length_drop];omega)
  rwa [List.take_append_drop] at this
 have hx1:xs.drop A=dG xs bs (2*u)++xs.drop (A+bs):=by
  have:=qB xs bs (2*u)
  rwa [hA2,hA3] at this
 have hx2:xs.drop (A+bs)=dG xs bs (2*u+1)++xs.drop (A+2*bs):=by
  have:=qB xs bs (2*u+1)
  rwa [hA3,hA4] at this
 by_cases hb3:A+bs<xs.length
 ·have hc3:=fy hb3
  have ll:(dG d1 bs (2*u)).length=bs:=qA (by rw[hA3];omega)
  have hdn:d1.drop (A+2*bs)=[]:=List.drop_eq_nil_of_le (by omega)
  have hxn:xs.drop (A+2*bs)=[]:=List.drop_eq_nil_of_le (by omega)
  have lr:(dG d1 bs (2*u+1)).length=xs.length-(A+bs):=by
   have:=congrArg List.length hd3
   rw[hdn,List.append_nil,List.length_drop] at this
   omega
  have hm:=zF el hd hel _ e (dG d1 bs (2*u)) (dG d1 bs (2*u+1)) q A (A+bs) xs.length xs.length (Nat.le_refl _) (by omega) (by omega) hel2 (by omega) (by omega) (Nat.le_refl _) (by simp only[List.length_append];omega) (by omega) kl2 kr2 hlr hin
  have e1:e++dG d1 bs (2*u)++dG d1 bs (2*u+1)++q=e++d1.drop A++q:=by rw[hd2,hd3,hdn];simp only[List.append_assoc,List.append_nil]
  rw[e1] at hm
  have R:=And.intro @hc3 (And.intro @w2 (And.intro @aK @U))
  repeat' ((first
   |(with_reducible refine .guard (fun hb =>?_) (fun hb =>?_) <;>try simp only[hb])
   |refine J.aG (by decide +kernel) rfl fun K hK =>?_
   |(refine .aw [0,1,2,6,7,8,9,13,30,35,54] hK ?_;clear hK K)
   |(with_reducible refine .done (hK _ ?_);clear hK K)
   |refine J.of rfl ?_
   |(with_reducible refine ak.aE (fun h =>?_) (fun h =>?_) <;>try simp only[h])) <;>try simp only[aH,R,simprocAttr])
  all_goals clear R
  refine bj.kW hm (kB _ xs.length 138 [.ref (enc el)] hcl [_,_,_]) ?_
  rintro eJ os' ⟨rfl,s',k1,k2,rfl⟩
  refine ⟨_,rfl,rfl,?_⟩
  try simp only[U,simprocAttr]
  refine .done (hK _ ?_);clear hK K;try simp only[aF]
  have R:=And.intro @w4 (And.intro @aK @U)
  repeat' ((first
   |(with_reducible refine .guard (fun hb =>?_) (fun hb =>?_) <;>try simp only[hb])
   |refine J.aG (by decide +kernel) rfl fun K hK =>?_
   |(refine .aw [0,1,2,6,7,8,9,13,30,35,54] hK ?_;clear hK K)
   |(with_reducible refine .done (hK _ ?_);clear hK K)
   |refine J.of rfl ?_
   |(with_reducible refine ak.aE (fun h =>?_) (fun h =>?_) <;>try simp only[h])) <;>try simp only[aH,R,simprocAttr])
  all_goals clear R
  refine ⟨⟨2*bs,e++s'⟩,⟨by simp only;omega,by simp only;omega,bd s' (k1.trans ?_) k2⟩,by simp only;omega,?_⟩
  ·rw[hx1,hx2,hxn,List.append_nil]
   exact kl1.append kr1
  ·refine aC.cD ?_ (fun n=>rfl)
   simp[aX,aW]
 ·have hc3:=fD hb3
  have hdn:d1.drop (A+bs)=[]:=List.drop_eq_nil_of_le (by omega)
  have hxn:xs.drop (A+bs)=[]:=List.drop_eq_nil_of_le (by omega)
  rw[hdn,List.append_nil] at hd2
  rw[hxn,List.append_nil] at hx1
  have R:=And.intro @hc3 (And.intro @w2 (And.intro @w4 (And.intro @aK @U)))
  repeat' ((first
   |(with_reducible refine .guard (fun hb =>?_) (fun hb =>?_) <;>try simp only[hb])
   |refine J.aG (by decide +kernel) rfl fun K hK =>?_
   |(refine .aw [0,1,2,6,7,8,9,13,30,35,54] hK ?_;clear hK K)
   |(with_reducible refine .done (hK _ ?_);clear hK K)
   |refine J.of rfl ?_
   |(with_reducible refine ak.aE (fun h =>?_) (fun h =>?_) <;>try simp only[h])) <;>try simp only[aH,R,simprocAttr])
  all_goals clear R
  refine ⟨⟨2*bs,e++d1.drop A⟩,⟨by simp only;omega,by simp only;omega,bd _ (by rw[hd2,hx1];exact kl1) (by rw[hd2];exact kl2)⟩,by simp only;omega,?_⟩
  refine aC.cD ?_ (fun n=>rfl)
  simp[aX,aW]
theorem NK(el:List al)(hd:mi el)(hel:el.length≤60)(xs q:List Int)(hx:xs.Pairwise (· < ·))(hS:∀ x∈xs,ju el x)(hn:xs.length≤60) :
  cz Tryz.prog 137 [.view 1000000 [] 1 0 xs.length,.func 138 [.ref (enc el)]] (bX 1000000 (xs++q)) (mX el [] xs q):=by
 refine cz.bn Tryz.func137 Co Cx CQ (Nat.le_of_ble_eq_true rfl) (Nat.le_of_ble_eq_true rfl) mO (fun hwf W0 D0 E1 =>?_)
 simp only[vg,ym,a6,Nat.zero_add]
 clear hwf
 refine .bV (by decide +kernel) fun K hK =>?_
 simp only[E5,U,simprocAttr]
 try simp only[cG,U,simprocAttr]
 refine bj.kW (N3 el hd hel xs q hx hS hn) (kB _ xs.length 138 [.ref (enc el)] (by simp[I.bU,I.br,dP]) [_]) ?_
 rintro eJ os' ⟨rfl,s',k1,k2,rfl⟩
 refine ⟨_,rfl,rfl,?_⟩
 try simp only[U,simprocAttr]
 refine .done (hK _ ?_)
 clear hK K
 rw[lX]
 exact nG rfl rfl ⟨rfl,s',k1,k2,rfl⟩
def jo(l:List al)(day:Int)(xs:List Int):List (Nat×ah):=[(1000008,.box (.own 1000080 xs.length)),(1000080,.cM 3 xs),(1000003,.box (enc l)),(1000004,.box (enc day))]
theorem alF(l:List al)(day:Int)(xs ys:List Int):fr (jo l day xs) (jo l day ys):=by
 refine ⟨fun n=>by simp only[jo,ao,ai];(repeat' split) <;>rfl,fun n x h =>?_,fun n h =>?_⟩
 ·simp only[jo,ai] at h
  repeat' split at h
  all_goals first | (cases h;done) | (simp only[Option.some.injEq] at h;subst h;exact ⟨by simp[jo,ao,ai,ah.only,bB,I.only],rfl⟩)
 ·simp only[jo,ao,ai] at h
  repeat' split at h
  all_goals first | omega | (simp at h;done)
def ny(l:List al)(day:Int)(i:Nat):Bool:=decide ((ae l i).kind≠0)&&decide ((ae l i).day≤day)
def lB(l:List al)(day known:Int)(k:Nat):List Nat:=((ed l known).take k).filter (ny l day)
theorem Xn{l:List al}{day known:Int}{k:Nat}(hk:k<(ed l known).length):lB l day known (k+1)=lB l day known k++(if ny l day ((ed l known).getD k 0) then [(ed l known).getD k 0] else []):=by
 have e:(ed l known).getD k 0=(ed l known)[k]:=by rw[List.getD_eq_getElem?_getD,List.getElem?_eq_getElem hk];rfl
 simp only[lB]
 rw[List.take_succ_eq_append_getElem hk,List.filter_append,e]
 simp only[List.filter_cons,List.filter_nil]
theorem Xl(l:List al)(day known:Int):lB l day known (ed l known).length=iS l day known:=by
 simp only[lB,List.take_length];rfl
theorem Xm(l:List al)(day known:Int)(k:Nat):(lB l day known k).length≤l.length:=by
 have h1:=List.length_filter_le (ny l day) ((ed l known).take k)
 have h2:((ed l known).take k).length≤(ed l known).length:=by rw[List.length_take];omega
 have h3:(ed l known).length≤l.length:=by
  have:=List.length_filter_le (fun i=>(ep l known).getD i false) (List.range l.length)
  rwa [List.length_range] at this
 exact Nat.le_trans h1 (Nat.le_trans h2 h3)
theorem MQ:(∀ (A:ab) n b m k m' k' rest,dg A none n [] b (.own m k) rest (some (.own m' k'))=ay rest (A.aN n (.box (.own m k)))) :=
 fun _ _ _ m k m' k' _=>by rw[eD (s:=none) (v:=.own m k) (old:=.own m' k') rfl rfl rfl,gP]
theorem MZ:(∀ n k,fg n k (.own n k)=.view n [] 1 0 k)∧(∀ n k m p,fg n k (.ptr m p)=.ptr m p)∧(∀ n k z,fg n k (.nils z)=.nils z)∧(∀ {α:Type} [Enc α] n k (x:α),fg n k (enc x)=enc x)∧(∀ n k i (x:Int),fg n k (.int i x)=.int i x)∧(∀ n k f xs,fg n k (.func f xs)=.func f xs)∧(∀ n k ks vs,fg n k (.cU ks vs)=.cU ks vs)∧(∀ n k b,fg n k (.bool b)=.bool b) ∧
  (∀ n,fJ n (.own n 0)=.nils 1)∧(∀ n m p,fJ n (.ptr m p)=.ptr m p)∧(∀ n z,fJ n (.nils z)=.nils z)∧(∀ {α:Type} [Enc α] n (x:α),fJ n (enc x)=enc x)∧(∀ n i (x:Int),fJ n (.int i x)=.int i x)∧(∀ n f xs,fJ n (.func f xs)=.func f xs)∧(∀ n ks vs,fJ n (.cU ks vs)=.cU ks vs)∧(∀ n b,fJ n (.bool b)=.bool b) ∧
  (∀ f v,ir f (.box v)=.box (f v))∧(∀ f T xs,ir f (.cM T xs)=.cM T xs)∧(∀ f ks vs,ir f (.ct ks vs)=.ct ks vs) :=
 ⟨fun _ _=>by simp[fg],fun _ _ _ _=>rfl,fun _ _ _=>rfl,fun _ _ x=>qh (bB _ x),fun _ _ _ _=>rfl,fun _ _ _ _=>rfl,fun _ _ _ _=>rfl,fun _ _ _=>rfl,fun _=>by simp[fJ],fun _ _ _=>rfl,fun _ _=>rfl,fun _ x=>y8 (bB _ x),fun _ _ _=>rfl,fun _ _ _=>rfl,fun _ _ _=>rfl,fun _ _=>rfl,fun _ _=>rfl,fun _ _ _=>rfl,fun _ _ _=>rfl⟩
theorem qn(l:List al)(day known:Int)(hok:df l=true):av Tryz.prog 88 [enc l,enc day,enc known] (rr l day known):=by
 have hl:=ke hok
 have hd:mi l:=fun i hi=>ajN (tK hok hi)
 refine av.bn Tryz.func88 RM TK VU (Nat.le_of_ble_eq_true rfl) (fun hwf W0 D0 E1 =>?_)
 simp only[Cd,LV,a6,Nat.zero_add,Nat.reduceAdd]
 clear hwf
 refine .au (by decide +kernel) fun K hK =>?_
 simp only[Il,U,simprocAttr]
 refine .done (hK _ ?_);clear hK K
 refine .au (by decide +kernel) fun K hK =>?_
 simp only[Im,U,simprocAttr]
 refine .done (hK _ ?_);clear hK K
 refine J.seq (J.seq ?_)
 refine .bV (by decide +kernel) fun K hK =>?_
 simp only[Is,U,simprocAttr]
 try simp only[cC,aK,U,simprocAttr]
 refine .lead _ (zj l known hl) ?_
 try simp only[U,simprocAttr]
 refine .done (hK _ ?_);clear hK K;try simp only[aF]
 refine J.sub (aC.Pa 8 80 3 1 [] _ rfl rfl rfl (B:=aq [(3,.ptr 3 []),(4,.ptr 4 []),(8,.ptr 8 []),(9,.nils 1),(17,.func 146 [.ref (enc l),.ref (enc (ep l known))])] [(8,.box (.own 80 0)),(80,.cM 3 []),(3,.box (enc l)),(4,.box (enc day))]) ?_) ?_
 ·simp only[gP]
  refine aC.bZ ?_ ?_ ?_ ?_ <;>simp[aX,bO,bM,bt,ao,aW,cA,I.only,I.bP,ah.only,bB,ij]
 refine J.block (J.jU (osb0:=jo l day []) (tsR:=[(3,.ptr 1000003 []),(4,.ptr 1000004 []),(8,.ptr 1000008 [])]) (ρ:=[(1999999,999999),(1000003,3),(1000004,4),(1000008,8),(1000080,80)])
  (fun k os=>os=jo l day (bL (lB l day known k)))
  (fun _ _=>False)
  rfl (Nat.le_of_ble_eq_true rfl) (by simp only[U,simprocAttr]) (by simp[I.bU,I.br,dP]) vm (zu l (ep l known) hl (uv l known)) (fun _=>rfl) rfl rfl rfl (fun o=>⟨?_,?_⟩) ?_ ?_ ?_ ?_ ?_ ?_ ?_)
 ·intro n x hx
  simp only[dc,jo,ai] at hx
  repeat' split at hx
  all_goals first | (cases hx;done) | (subst_vars;simp only[Option.some.injEq] at hx;subst hx;simp[dc,jo,ao,bA,ai,ah.aM,I.aM,jM,ah.only,I.only,bB,ah.eO,ij])
 ·intro a b ha hb
  simp only[dc,jo,ao,ai] at ha hb
  repeat' split at ha
  all_goals first | (simp at ha;done) | skip
  all_goals (repeat' split at hb)
  all_goals first | (simp at hb;done) | (subst_vars;simp[bA])
 ·simp[l7,aW,I.aM,bA,I.only,jo,ao,ai]
 ·rintro k os rfl;exact alF ..
 ·rintro e os h;exact h.elim
 ·simp[jo,lB,bL]
 ·rintro k osb hk rfl W1 D1 E1 qV o1 o2
  have hk':k<(ed l known).length:=hk
  have hdl:=Xm l day known k
  have hsu:=Xn (day:=day) hk'
  generalize lB l day known k=dk at hsu hdl ⊢
  obtain ⟨i,hi⟩:∃ i,i=(ed l known).getD k 0:=⟨_,rfl⟩
  have hil:i<l.length:=by
   rw[hi,List.getD_eq_getElem?_getD,List.getElem?_eq_getElem hk']
   exact MW (List.getElem_mem hk')
  have hit:((gB (fun i=>(ep l known).getD i false) l.length).getD k 0)=i:=hi.symm
  rw[←hi] at hsu
  have he:=gJ hil
  simp only[hit,p8,dc,jo]
  have R:=And.intro @aK @U
  repeat' ((first
   |(with_reducible refine .guard (fun hb =>?_) (fun hb =>?_) <;>try simp only[hb])
   |refine J.aG (by decide +kernel) rfl fun K hK =>?_
   |(refine .aw [0,1,2,3,4,6,7,8,9,10,11,12,14,17,18,33,45,46,47,48,64] hK ?_;clear hK K)
   |(with_reducible refine .done (hK _ ?_);clear hK K)
   |refine J.of rfl ?_
   |(with_reducible refine ak.aE (fun h =>?_) (fun h =>?_) <;>try simp only[h])) <;>try simp only[aH,R,simprocAttr])
  all_goals clear R
  refine ⟨by simp[],?_⟩
  have hap:=fun (A:ab) d rest=>sa (A:=A) (d:=d) (e:=3) (bytes:=8) (n:=1000080) (l:=(bL dk).length) (xs:=bL dk) (y:=(i:Int)) (rest:=rest) rfl (by simp[bL,maxLen];omega) (by simp[bL];omega)
  rcases h1:((ae l i).kind != 0) <;>rcases h2:decide ((ae l i).day≤day)
  all_goals
   have R:=And.intro @h1 (And.intro @h2 (And.intro @he (And.intro @hap (And.intro @cC (And.intro @MQ (And.intro @eB (And.intro @bh (And.intro @aK @U))))))))
   repeat' ((first
    |(with_reducible refine .guard (fun hb =>?_) (fun hb =>?_) <;>try simp only[hb])
    |refine J.aG (by decide +kernel) rfl fun K hK =>?_
    |(refine .aw [0,1,2,3,4,6,7,8,9,10,11,12,14,17,18,33,45,46,47,48,64] hK ?_;clear hK K)
    |(with_reducible refine .done (hK _ ?_);clear hK K)
    |refine J.of rfl ?_
    |(with_reducible refine ak.aE (fun h =>?_) (fun h =>?_) <;>try simp only[h])) <;>try simp only[aH,R,simprocAttr])
   all_goals clear R
  all_goals
   have hdue:ny l day i=(((ae l i).kind != 0)&&decide ((ae l i).day≤day)):=by simp only[ny,bne,ne_eq,decide_not];rfl
   rw[h1,h2] at hdue
   rw[hdue] at hsu
   refine ⟨_,?_,rfl⟩
   rw[hsu]
   intro n x hx
   simp only[dc,ai,if_true,Bool.false_eq_true,Bool.and_self,Bool.and_true,Bool.and_false,if_false,List.append_nil] at hx
   (repeat' split at hx) <;>first
    |(cases hx;done)
    |(subst_vars;simp only[Option.some.injEq] at hx;subst hx;simp[dc,ao,aq,ai,ah.only,I.only,bB,ah.eO,bL])
 ·rintro os rfl
  have eN:lB l day known (gB (fun i=>(ep l known).getD i false) l.length).length=iS l day known:=Xl l day known
  simp only[eN,jo,dC,List.map_cons,List.map_nil,bA,ah.aM,I.aM,jM,aF,b8,reduceIte,Nat.reduceEqDiff,List.cons_append,List.nil_append]
  refine J.sub (B:=aq [(3,.ptr 3 []),(8,.ptr 8 []),(9,.nils 1)] [(8,.box (.own 80 (lA l day known).length)),(80,.cM 3 (lA l day known)),(3,.box (enc l))]) ?_ ?_
  ·refine aC.bZ ?_ ?_ ?_ ?_ <;>simp[*,aX,bO,bM,bt,ao,aW,cA,I.only,ah.only,bB,ij,lA]
  have hlen:(lA l day known).length≤60:=by simp only[lA,bL,List.length_map];exact Nat.le_trans (qC l day known) hl
  have hris:=Xk l day known
  have hin:=Xj (l:=l) (day:=day) (known:=known)
  have heq:=fun s=>akc (l:=l) (day:=day) (known:=known) (s:=s)
  generalize lA l day known=xs at hlen hris hin heq ⊢
  by_cases hx0:xs=[]
  ·subst hx0
   have ho0:pX l day known=[]:=(heq [] (List.Perm.refl _) List.Pairwise.nil).symm
   refine J.sub (aC.M5 (n:=80) (T:=3) rfl (B:=aq [(3,.ptr 3 []),(8,.ptr 8 []),(9,.nils 1)] [(8,.box (.nils 1)),(3,.box (enc l))]) ?_) ?_
   ·simp only[List.map_cons,List.map_nil,MZ,List.length_nil]
    refine aC.bZ ?_ ?_ ?_ ?_ <;>simp[aX,bO,bM,bt,ao,aW,cA,I.only,ah.only,bB]
   refine .au (by decide +kernel) fun K hK =>?_
   simp only[wV,U,simprocAttr]
   try simp only[pN,kE,U,simprocAttr]
   refine .flat _ (NL l) rfl ?_
   try simp only[U,simprocAttr]
   refine .done (hK _ ?_);clear hK K
   refine .au (by decide +kernel) fun K hK =>?_
   simp only[wW,U,simprocAttr]
   try simp only[eB,U,simprocAttr]
   refine .done (hK _ ?_);clear hK K
   refine .au (by decide +kernel) fun K hK =>?_
   simp only[wX,U,simprocAttr]
   refine .lead _ zt ?_
   try simp only[U,simprocAttr]
   refine .done (hK _ ?_);clear hK K
   refine J.seq (J.seq ?_)
   refine .bV (by decide +kernel) fun K hK =>?_
   simp only[wY,U,simprocAttr]
   try simp only[cC,cG,bh,eB,U,simprocAttr]
   refine .done (hK _ ?_);clear hK K;try simp only[aF]
   have hF:=zK l day known hok (W0:=W0) (D0:=D0) (E1:=E1)
   rw[ho0] at hF
   refine J.sub (aC.oe [8] 45 (x:=.nils 1) (y:=enc ([]:List Int)) rfl (by rfl) ?_ ?_ ?_ ?_ ?_) hF
   ·simp[cw,bt,ah.only,I.only,I.bP,bB]
   ·simp[aX,fG,aW,I.only,I.bP,kF]
   ·simp[bO,cw,ai]
   ·simp[bM,ao,ai,I.only,I.bP,bB,kF]
   ·simp[bt,ao,ai,ah.only,I.only,I.bP,bB]
  ·refine J.zd (n:=80) rfl hx0 (by omega) (pU (by simp[kR,I.only])) ?_ (fun q =>?_)
   ·intro m y hy hm
    simp only[ai] at hy
    repeat' split at hy
    all_goals first | (cases hy;done) | (exact absurd (by assumption) hm) | (simp only[Option.some.injEq] at hy;subst hy;first | exact .inl rfl | exact .inr (by simp[ah.only,bB]))
   simp only[List.map_cons,List.map_nil,MZ]
   refine .au (by decide +kernel) fun K hK =>?_
   simp only[wV,U,simprocAttr]
   try simp only[cC,pN,kE,U,simprocAttr]
   refine .bQ true [(1000000,80)] (bX 1000000 (xs++List.replicate q 0)) [.view 1000000 [] 1 0 xs.length,.func 138 [.ref (enc l)]] _ rfl (NK l hd hl xs _ hris hin hlen) ?_ ?_ ?_ ?_
   ·refine ⟨fun m y hy =>?_,fun m m' h h' _=>by rw[cQ.1 h,cQ.1 h']⟩
    simp only[bX,ai] at hy
    split at hy
    ·rename_i hm
     cases hy
     subst hm
     exact ⟨by simp only[bA,if_true,ai,ah.aM,I.aM,gw],jv _ _,rfl⟩
    ·cases hy
   ·refine ⟨.inl ⟨by simp[I.aM,bA],cQ.2 rfl,rfl⟩,.inr ?_,trivial⟩
    simp[bd,bY,cu,aq,cw,jQ,bX,bA,ai,dP,m7]
   ·rintro eJ os' ⟨rfl,s',k1,k2,rfl⟩
    refine ⟨fun m y hy =>?_,fun m m' h h' _=>by rw[cQ.1 h,cQ.1 h'],fun m hm=>by rw[cQ.1 hm];exact cQ.2 rfl,fun m a b=>by rw[cQ.1 a] at b;simp[bX,ao,ai] at b,rfl,fun _=>rfl⟩
    simp only[bX,ai] at hy
    split at hy
    ·cases hy;exact ⟨jv _ _,rfl,fun _=>aiD _⟩
    ·cases hy
   ·rintro eJ os' ⟨rfl,s',k1,k2,rfl⟩
    have hs':=heq s' k1 k2
    have hsl:xs.length=s'.length:=k1.length_eq.symm
    try simp only[bX,dC,List.map_cons,List.map_nil,ah.aM,I.aM,gw,bA,reduceIte,List.cons_append,List.nil_append,I.cR,U,simprocAttr]
    refine .done (hK _ ?_);clear hK K
    refine .au (by decide +kernel) fun K hK =>?_
    simp only[wW,U,simprocAttr]
    try simp only[eB,U,simprocAttr]
    refine .done (hK _ ?_);clear hK K
    refine .au (by decide +kernel) fun K hK =>?_
    simp only[wX,U,simprocAttr]
    refine .lead _ zt ?_
    try simp only[U,simprocAttr]
    refine .done (hK _ ?_);clear hK K
    refine J.seq (J.seq ?_)
    refine .bV (by decide +kernel) fun K hK =>?_
    simp only[wY,U,simprocAttr]
    try simp only[cC,cG,U,simprocAttr]
    refine .done (hK _ ?_);clear hK K;try simp only[aF]
    have hF:=zK l day known hok (W0:=W0) (D0:=D0) (E1:=E1)
    rw[←hs'] at hF
    refine J.sub (aC.oe [80,8] 45 (x:=.view 80 [] 1 0 xs.length) (y:=enc s') rfl ?_ ?_ ?_ ?_ ?_ ?_) hF
    ·have:ai (fS [80,8] [(43,ah.box (I.agg ([I.raw (Value.map none)].set 0 (I.mref 41)))),(41,ah.ct [] []),(80,ah.box (I.agg ((s'++List.replicate q 0).map enc))),(80,ah.box (I.agg ((xs++List.replicate q 0).map enc))),(8,ah.box (I.view 80 [] 1 0 xs.length)),(80,ah.cM 3 xs),(3,ah.box (enc l))]) 80=some (.box (.agg ((s'++List.replicate q 0).map enc))):=by
      rw[lN];simp[ai]
     try simp only[this,U,simprocAttr]
     exact vV hsl.symm
    ·simp[cw,bt,ah.only,I.only,I.bP,bB]
    ·simp[aX,fG,aW,I.only,I.bP,kF,hsl]
    ·simp[bO,cw,ai]
    ·simp[bM,ao,ai,I.only,I.bP,bB,kF]
    ·simp[bt,ao,ai,ah.only,I.only,I.bP,bB]
 ·rintro e os h;exact h.elim
theorem Nx(n:Int):av Tryz.prog 126 [enc n] (enc (!ca 0 100000 n)):=by
 refine av.bn Tryz.func126 Qm Sg Ut (Nat.le_of_ble_eq_true rfl) (fun hwf W0 D0 E1 =>?_)
 simp only[AG,Ks,a6]
 have R:=And.intro @aK @U
 repeat' ((first
  |(with_reducible refine .guard (fun hb =>?_) (fun hb =>?_) <;>try simp only[hb])
  |refine J.aG (by decide +kernel) rfl fun K hK =>?_
  |refine .flat _ (uH _) rfl ?_
  |(refine .aw [0,2] hK ?_;clear hK K)
  |(with_reducible refine .done (hK _ ?_);clear hK K)
  |refine J.of rfl ?_
  |(with_reducible refine ak.aE (fun h =>?_) (fun h =>?_) <;>try simp only[h])) <;>try simp only[aH,R,simprocAttr])
 all_goals clear R
abbrev kz:=bI 2 Int
def eR(a b:Int):kz:=⟨[a,b],rfl⟩
def dX(l:List al)(ns:List kz)(ds:List Int):Int:=if df l then (if ns.all (fun n=>ca 1 (n.g 1) (n.g 0)) then (if ds.any (fun d => !ca 0 100000 d) then 6 else 0) else 1) else 41
theorem MP{A:ab}{n:Nat}{b:I}{x:kz}{u v:Int}{rest:List az} : dg A (some 2) n [] b (enc x) rest (some (.agg [.int .i64 u,.int .i64 v]))=ay rest (A.aN n (.box (enc x))):=by
 have:=eD (A:=A) (n:=n) (p:=[]) (b:=b) (v:=enc x) (old:=.agg [.int .i64 u,.int .i64 v]) (rest:=rest) (s:=some 2) (dQ _) (by rw[fX];rfl) (eM x)
 rw[this,gP]
theorem Jl :
  (∀ (x:kz) y,iY (0:Int) 2 (iX 2 1 (x.l.map enc) y)=y)∧(∀ (x:kz) y,iY (1:Int) 2 (iX 2 1 (x.l.map enc) y)=y)∧(∀ x:kz,(x.l.map (enc (α:=Int)))[0]?=some (I.int .i64 (x.g 0)))∧(∀ x:kz,(x.l.map (enc (α:=Int)))[1]?=some (I.int .i64 (x.g 1))) ∧
  (∀ x:kz,(enc x:I).dn=some (x.l.map enc))∧(∀ x:kz,b6 (some 2) (enc x)=true)∧((0:Int).toNat=0)∧((1:Int).toNat=1) :=
 ⟨fun x y=>xq 1 x (by decide) rfl,fun x y=>xq 1 x (by decide) rfl,fun x=>sY x (by decide),fun x=>sY x (by decide),fun _=>rfl,fun x=>by rw[fX];rfl,rfl,rfl⟩
theorem m0(l:List al)(ns:List kz)(ds:List Int):av Tryz.prog 67 [enc l,enc ns,enc ds] (enc (dX l ns ds)):=by
 refine av.bn Tryz.func67 Rz Tx VH (Nat.le_of_ble_eq_true rfl) (fun hwf W0 D0 E1 =>?_)
 simp only[BY,LH,a6,Nat.zero_add,Nat.reduceAdd]
 have hnl:ns.length≤maxLen:=((jZ ns).1 hwf.2.1).1
 simp only[maxLen] at hnl
 have hF64:=zI l
 simp only[dX]
 rcases hok:df l
 ·rw[hok,if_neg (by decide)] at hF64
  have R:=And.intro @hok (And.intro @bh (And.intro @aK @U))
  repeat' ((first
   |(with_reducible refine .guard (fun hb =>?_) (fun hb =>?_) <;>try simp only[hb])
   |refine J.aG (by decide +kernel) rfl fun K hK =>?_
   |refine .flat _ (hF64) rfl ?_
   |(refine .aw [0,1,2,6,7,9,13,15,16,17,18,26,29] hK ?_;clear hK K)
   |(with_reducible refine .done (hK _ ?_);clear hK K)
   |refine J.of rfl ?_
   |(with_reducible refine ak.aE (fun h =>?_) (fun h =>?_) <;>try simp only[h])) <;>try simp only[aH,R,simprocAttr])
  all_goals clear R
 rw[hok,if_pos rfl] at hF64
 have R:=And.intro @hok (And.intro @bh (And.intro @aK @U))
 repeat' ((first
  |(with_reducible refine .guard (fun hb =>?_) (fun hb =>?_) <;>try simp only[hb])
  |refine J.aG (by decide +kernel) rfl fun K hK =>?_
  |refine .flat _ (hF64) rfl ?_
  |(refine .aw [0,1,2,6,7,9,13,15,16,17,18,26,29] hK ?_;clear hK K)
  |(with_reducible refine .done (hK _ ?_);clear hK K)
  |refine J.of rfl ?_
  |(with_reducible refine ak.aE (fun h =>?_) (fun h =>?_) <;>try simp only[h])) <;>try simp only[aH,R,simprocAttr])
 all_goals clear R
 refine J.loop (fun i:Nat=>aq [(2,enc ds),(15,enc ns),(16,.int .i64 ns.length),(17,.int .i64 i)] []) (fun i=>i≤ns.length∧∀ k,(h:k<ns.length)→k<i→ca 1 ((ns[k]).g 1) ((ns[k]).g 0)=true) (fun i=>ns.length-i) 0 ⟨Nat.zero_le _,fun k _ hk=>by omega⟩ ?_ (fun i hi =>?_)
 ·refine aC.bZ ?_ ?_ ?_ ?_ <;>simp[aX,bO,bM,bt,aW,I.only,bB]
 obtain ⟨hi1,hi2⟩:=hi
 by_cases hlt:i<ns.length
 ·have hc:=fy hlt
  have he:=fun A=>eA (A:=A) 2 hlt rfl
  have hw:=eH (i:=i) (by omega)
  obtain ⟨x,hx⟩:∃ x,x=ns[i]:=⟨_,rfl⟩
  rw[←hx] at he
  rcases hp:ca 1 (x.g 1) (x.g 0)
  ·have hall:(ns.all fun n=>ca 1 (n.g 1) (n.g 0))=false:=by
    rw[List.all_eq_false]
    exact ⟨x,hx▸List.getElem_mem hlt,by rw[hp];decide⟩
   have R:=And.intro @hc (And.intro @he (And.intro @hp (And.intro @hall (And.intro @MP (And.intro @Jl (And.intro @bh @U))))))
   repeat' ((first
    |(with_reducible refine .guard (fun hb =>?_) (fun hb =>?_) <;>try simp only[hb])
    |refine J.aG (by decide +kernel) rfl fun K hK =>?_
    |refine .flat _ (ma _ _ _) rfl ?_
    |(refine .aw [0,1,2,6,7,9,13,15,16,17,18,26,29] hK ?_;clear hK K)
    |(with_reducible refine .done (hK _ ?_);clear hK K)
    |refine J.of rfl ?_
    |(with_reducible refine ak.aE (fun h =>?_) (fun h =>?_) <;>try simp only[h])) <;>try simp only[aH,R,simprocAttr])
   all_goals clear R
  ·have R:=And.intro @hc (And.intro @he (And.intro @hp (And.intro @hw (And.intro @MP (And.intro @Jl (And.intro @bh @U))))))
   repeat' ((first
    |(with_reducible refine .guard (fun hb =>?_) (fun hb =>?_) <;>try simp only[hb])
    |refine J.aG (by decide +kernel) rfl fun K hK =>?_
    |refine .flat _ (ma _ _ _) rfl ?_
    |(refine .aw [0,1,2,6,7,9,13,15,16,17,18,26,29] hK ?_;clear hK K)
    |(with_reducible refine .done (hK _ ?_);clear hK K)
    |refine J.of rfl ?_
    |(with_reducible refine ak.aE (fun h =>?_) (fun h =>?_) <;>try simp only[h])) <;>try simp only[aH,R,simprocAttr])
   all_goals clear R
   refine ⟨i+1,⟨by omega,fun k hk hki =>?_⟩,by omega,?_⟩
   ·by_cases e:k=i
    ·subst e;rw[←hx];exact hp
    ·exact hi2 k hk (by omega)
   ·refine aC.bZ ?_ ?_ ?_ ?_ <;>simp[aX,bO,bM,bt,aW,bB,I.only]
 ·have hc:=fD hlt
  have hall:(ns.all fun n=>ca 1 (n.g 1) (n.g 0))=true:=by
   rw[List.all_eq_true]
   intro x hx
   obtain ⟨k,hk,rfl⟩:=List.getElem_of_mem hx
   exact hi2 k hk (by omega)
  have hF:=uG ds 126 [] rfl (fun d => !ca 0 100000 d) (fun x _=>Nx x)
  rcases hd:ds.any fun d => !ca 0 100000 d
  all_goals
   rw[hd] at hF
   have R:=And.intro @hc (And.intro @hall (And.intro @hd (And.intro @bh (And.intro @aK @U))))
   repeat' ((first
    |(with_reducible refine .guard (fun hb =>?_) (fun hb =>?_) <;>try simp only[hb])
    |refine J.aG (by decide +kernel) rfl fun K hK =>?_
    |refine .flat _ (hF) rfl ?_
    |(refine .aw [0,1,2,6,7,9,13,15,16,17,18,26,29] hK ?_;clear hK K)
    |(with_reducible refine .done (hK _ ?_);clear hK K)
    |refine J.of rfl ?_
    |(with_reducible refine ak.aE (fun h =>?_) (fun h =>?_) <;>try simp only[h])) <;>try simp only[aH,R,simprocAttr])
   all_goals clear R
def dw(l:List al)(day known:Int):List aA:=(hJ fk l (fe l day known)).1
def jE(l:List al)(day known:Int):List Int:=du (bL (hJ fk l (fe l day known)).2)
theorem ru(l:List al)(day known:Int):rr l day known=.tuple [gI (dw l day known),enc (jE l day known)]:=rfl
theorem xn{l:List al}(hok:df l=true)(day known:Int):((dw l day known).map (·.no)).Nodup∧(dw l day known).length≤60∧∀ b∈dw l day known,b.aY.length≤60:=by
 have h:=tR l (fe l day known) _ (Nat.le_refl _)
 rw[J2] at h
 have h2:(fe l day known).length≤60:=by rw[tO];exact Nat.le_trans (qC l day known) (ke hok)
 exact ⟨h.1,by simp only[dw];omega,fun b hb=>by have:=h.2.2.1 b hb;omega⟩
theorem qZ(bs:List aA)(no:Int):gp (.i .i64) .nilp (.int .i64 no) (dp bs) (bs.map fun b=>.ref (enc (⟨b⟩:eK)))=match cB bs no with
  |some b=>some (.ref (enc (⟨b⟩:eK)),true)
  |none=>some (.nilp,false):=by
 have h1:=sV (bs:=bs) (no:=no)
 have h2:=xG vM .nilp no (bs.map (·.no)) (bs.map fun b=>.ref (enc (⟨b⟩:eK)))
 rw[ij] at h2
 unfold dp
 rw[h2]
 cases h:(bs.map (·.no)).findIdx? fun x=>decide (no=x) with
 |none=>rw[h] at h1;simp only at h1;rw[h1]
 |some i =>
  rw[h] at h1
  obtain ⟨hi,g1,g2⟩:=h1
  rw[g1]
  simp[hi]
theorem T7(bs:List aA):I.bU (bs.map fun b=>.ref (enc (⟨b⟩:eK)))=true:=by
 induction bs with
 |nil=>rfl
 |cons b bs ih=>simp only[List.map_cons,I.bU,I.br,dP,ih,Bool.and_self]
theorem TZ(bs:List aA):(I.cU (dp bs) (bs.map fun b=>.ref (enc (⟨b⟩:eK)))).br=true:=by
 simp only[I.br,T7,Bool.and_true];exact jI _
theorem oh:(∀ bs,(gI bs).br=true)∧(∀ aB A bs,bd aB A (gI bs)=some (gI bs))∧(∀ bs,(gI bs).cm=true)∧(∀ bs,b6 none (gI bs)=true)∧(∀ p bs,(gI bs).only p=true)∧(∀ x:eK,(enc x:I).br=true)∧(∀ bs,mF (gI bs)=some (gI bs)) ∧
  (∀ A bs,lE A 0 0 (gI bs)=some (.ref (.cU (dp bs) (bs.map fun b=>.ref (enc (⟨b⟩:eK))))))∧(∀ x:eK,mF (.ref (enc x))=some (.ref (enc x))) :=
 have h:∀ bs,(I.agg [.cU (dp bs) (bs.map fun b=>.ref (enc (⟨b⟩:eK)))]).br=true:=fun bs=>by simp only[I.br,I.bU,Bool.and_true];exact TZ bs
 ⟨fun bs=>by simp only[gI,I.br];exact h bs,fun aB A bs=>by simp only[gI,bd,h bs,if_true],fun _=>rfl,fun _=>rfl,fun p bs=>jR p _ (by simp only[gI,I.br];exact h bs),fun x=>dP x,fun _=>rfl,
  fun A bs=>by simp[gI,lE,I.dn,qH,pA,dK,I.sizes],fun _=>rfl⟩
theorem M6:(∀ k n,(I.int k n).cm=true)∧(∀ b,(I.bool b).cm=true):=⟨fun _ _=>rfl,fun _=>rfl⟩
theorem kD{l:List al}{ns:List kz}{ds:List Int}(h:dX l ns ds=0):df l=true:=by
 simp only[dX] at h
 split at h
 ·assumption
 ·cases h
theorem lP{a:Int}(h:a=0):(a != 0)=false:=by simp[h]
theorem lQ{a:Int}(h:¬ a=0):(a != 0)=true:=by simp[h]
theorem qz(a b:Int):ig 1 (some [.int .i64 a,.int .i64 b])=some (enc [a,b]):=na (ys:=[a,b]) 1 rfl
theorem ql(l:List al)(known:Int)(hok:df l=true):av Tryz.prog 68 [enc l,enc known] (gI (dw l 100000 known)):=by
 refine av.bn Tryz.func68 RA Ty VI (Nat.le_of_ble_eq_true rfl) (fun hwf W0 D0 E1 =>?_)
 simp only[BZ,LI,a6,Nat.zero_add]
 have hF:=qn l 100000 known hok
 rw[ru] at hF
 have R:=And.intro @oh (And.intro @aK @U)
 repeat' ((first
  |(with_reducible refine .guard (fun hb =>?_) (fun hb =>?_) <;>try simp only[hb])
  |refine J.aG (by decide +kernel) rfl fun K hK =>?_
  |refine .lead _ (hF) ?_
  |(refine .aw [0,1,4,5] hK ?_;clear hK K)
  |(with_reducible refine .done (hK _ ?_);clear hK K)
  |refine J.of rfl ?_
  |(with_reducible refine ak.aE (fun h =>?_) (fun h =>?_) <;>try simp only[h])) <;>try simp only[aH,R,simprocAttr])
 all_goals clear R
theorem OO(b:aA):av Tryz.prog 89 [.ref (enc (⟨b⟩:eK))] (enc (!decide (0≤b.dm))):=by
 refine av.bn Tryz.func89 RN TL VV (Nat.le_of_ble_eq_true rfl) (fun hwf W0 D0 E1 =>?_)
 simp only[Ce,LW,a6]
 have R:=And.intro @oh (And.intro @aK @U)
 repeat' ((first
  |(with_reducible refine .guard (fun hb =>?_) (fun hb =>?_) <;>try simp only[hb])
  |refine J.aG (by decide +kernel) rfl fun K hK =>?_
  |refine .flat _ (jq _) rfl ?_
  |(refine .aw [0,2] hK ?_;clear hK K)
  |(with_reducible refine .done (hK _ ?_);clear hK K)
  |refine J.of rfl ?_
  |(with_reducible refine ak.aE (fun h =>?_) (fun h =>?_) <;>try simp only[h])) <;>try simp only[aH,R,simprocAttr])
 all_goals clear R
def qu(l:List al)(day known:Int):List Int×Int:=if dX l [] [day,known]=0 then (du (((dw l day known).filter fun b => !decide (0≤b.dm)).map (·.no)),0) else ([],dX l [] [day,known])
theorem Ou(l:List al)(day known:Int):av Tryz.prog 26 [enc l,enc day,enc known] (.tuple [enc (qu l day known).1,enc (qu l day known).2]):=by
 refine av.bn Tryz.func26 Ri Tf Vq (Nat.le_of_ble_eq_true rfl) (fun hwf W0 D0 E1 =>?_)
 simp only[BH,Lp,a6,Nat.zero_add,Nat.reduceAdd]
 clear hwf
 have hC:=m0 l [] [day,known]
 simp only[qu]
 generalize hc:dX l [] [day,known]=e at hC ⊢
 by_cases he:e=0
 ·have hn:=lP he
  subst he
  have hok:=kD hc
  have hF:=qn l day known hok
  rw[ru] at hF
  have hb:=xn hok day known
  have hN:=uO (dw l day known) hb.2.1 89 [] rfl (fun b => !decide (0≤b.dm)) (fun b _=>OO b)
  have R:=And.intro @hn (And.intro @qz (And.intro @oh (And.intro @kE (And.intro @aK @U))))
  repeat' ((first
   |(with_reducible refine .guard (fun hb =>?_) (fun hb =>?_) <;>try simp only[hb])
   |refine J.aG (by decide +kernel) rfl fun K hK =>?_
   |refine .flat _ (hC) rfl ?_
   |refine .lead _ (hF) ?_
   |refine .lead _ (hN) ?_
   |(refine .aw [0,1,2,6,7,8,9,17] hK ?_;clear hK K)
   |(with_reducible refine .done (hK _ ?_);clear hK K)
   |refine J.of rfl ?_
   |(with_reducible refine ak.aE (fun h =>?_) (fun h =>?_) <;>try simp only[h])) <;>try simp only[aH,R,simprocAttr])
  all_goals clear R
  all_goals rfl
 ·have hn:=lQ he
  have R:=And.intro @hn (And.intro @he (And.intro @qz (And.intro @aK @U)))
  repeat' ((first
   |(with_reducible refine .guard (fun hb =>?_) (fun hb =>?_) <;>try simp only[hb])
   |refine J.aG (by decide +kernel) rfl fun K hK =>?_
   |refine .flat _ (hC) rfl ?_
   |(refine .aw [0,1,2,6,7,8,9,17] hK ?_;clear hK K)
   |(with_reducible refine .done (hK _ ?_);clear hK K)
   |refine J.of rfl ?_
   |(with_reducible refine ak.aE (fun h =>?_) (fun h =>?_) <;>try simp only[h])) <;>try simp only[aH,R,simprocAttr])
  all_goals clear R
  all_goals rfl
def s9(l:List al)(no day known:Int):Int×Int:=if dX l [eR no 9999] [day,known]=0 then (match cB (dw l day known) no with
 |none=>(0,42)
 |some b=>if 0≤b.dm then (0,0) else (b.b5,0)) else (0,dX l [eR no 9999] [day,known])
theorem Ak(a b:Int):ig 2 (some [.agg [.int .i64 a,.int .i64 b]])=some (enc [eR a b]):=na (ys:=[eR a b]) 2 rfl
theorem Al(a b c d:Int):ig 2 (some [.agg [.int .i64 a,.int .i64 b],.agg [.int .i64 c,.int .i64 d]])=some (enc [eR a b,eR c d]):=na (ys:=[eR a b,eR c d]) 2 rfl
theorem ee:(type_of% @aK)∧(type_of% @gQ)∧(type_of% @oh)∧(type_of% @kE)∧(type_of% @eB)∧(type_of% @cC)∧(type_of% @bh)∧(type_of% @qz)∧(type_of% @Ak)∧(type_of% @Al)∧(type_of% @Aj)∧(type_of% @M6)∧(type_of% @U):=⟨@aK,@gQ,@oh,@kE,@eB,@cC,@bh,@qz,@Ak,@Al,@Aj,@M6,@U⟩
theorem Ov(l:List al)(no day known:Int):av Tryz.prog 27 [enc l,enc no,enc day,enc known] (.tuple [enc (s9 l no day known).1,enc (s9 l no day known).2]):=by
 refine av.bn Tryz.func27 Rj Tg Vr (Nat.le_of_ble_eq_true rfl) (fun hwf W0 D0 E1 =>?_)
 simp only[BI,Lq,a6,Nat.zero_add,Nat.reduceAdd]
 clear hwf
 have hC:=m0 l [eR no 9999] [day,known]
 simp only[s9]
 generalize hc:dX l [eR no 9999] [day,known]=e at hC ⊢
 by_cases he:e=0
 ·have hn:=lP he
  subst he
  have hok:=kD hc
  have hF:=qn l day known hok
  rw[ru] at hF
  have hk:=qZ (dw l day known) no
  cases hg:cB (dw l day known) no with
  |none =>
   rw[hg] at hk
   have R:=And.intro @hn (And.intro @hk ee)
   repeat' ((first
    |(with_reducible refine .guard (fun hb =>?_) (fun hb =>?_) <;>try simp only[hb])
    |refine J.aG (by decide +kernel) rfl fun K hK =>?_
    |refine .flat _ (hC) rfl ?_
    |refine .lead _ (hF) ?_
    |(refine .aw [0,1,2,3,8,9,10,11,13,23,38,41] hK ?_;clear hK K)
    |(with_reducible refine .done (hK _ ?_);clear hK K)
    |refine J.of rfl ?_
    |(with_reducible refine ak.aE (fun h =>?_) (fun h =>?_) <;>try simp only[h])) <;>try simp only[aH,R,simprocAttr])
   all_goals clear R
  |some b =>
   rw[hg] at hk
   rcases hd:decide (0≤b.dm)
   all_goals
    have R:=And.intro @hn (And.intro @hk (And.intro @hd ee))
    repeat' ((first
     |(with_reducible refine .guard (fun hb =>?_) (fun hb =>?_) <;>try simp only[hb])
     |refine J.aG (by decide +kernel) rfl fun K hK =>?_
     |refine .flat _ (hC) rfl ?_
     |refine .lead _ (hF) ?_
     |refine .flat _ (jq _) rfl ?_
     |(refine .aw [0,1,2,3,8,9,10,11,13,23,38,41] hK ?_;clear hK K)
     |(with_reducible refine .done (hK _ ?_);clear hK K)
     |refine J.of rfl ?_
     |(with_reducible refine ak.aE (fun h =>?_) (fun h =>?_) <;>try simp only[h])) <;>try simp only[aH,R,simprocAttr])
    all_goals clear R
    simp only[decide_eq_true_eq,decide_eq_false_iff_not] at hd
    simp[hd]
 ·have hn:=lQ he
  have R:=And.intro @hn (And.intro @he ee)
  repeat' ((first
   |(with_reducible refine .guard (fun hb =>?_) (fun hb =>?_) <;>try simp only[hb])
   |refine J.aG (by decide +kernel) rfl fun K hK =>?_
   |refine .flat _ (hC) rfl ?_
   |(refine .aw [0,1,2,3,8,9,10,11,13,23,38,41] hK ?_;clear hK K)
   |(with_reducible refine .done (hK _ ?_);clear hK K)
   |refine J.of rfl ?_
   |(with_reducible refine ak.aE (fun h =>?_) (fun h =>?_) <;>try simp only[h])) <;>try simp only[aH,R,simprocAttr])
  all_goals clear R
  all_goals rfl
theorem OP(b:aA)(o s:Int):av Tryz.prog 91 [.ref (enc (⟨b⟩:eK)),.ref (enc o),.ref (enc s)] (enc (!decide (0≤b.dm)&&(b.b5==o&&b.ec==s))):=by
 refine av.bn Tryz.func91 RP TN VX (Nat.le_of_ble_eq_true rfl) (fun hwf W0 D0 E1 =>?_)
 simp only[Cg,LY,a6,Nat.zero_add,Nat.reduceAdd]
 have R:=ee
 repeat' ((first
  |(with_reducible refine .guard (fun hb =>?_) (fun hb =>?_) <;>try simp only[hb])
  |refine J.aG (by decide +kernel) rfl fun K hK =>?_
  |refine .flat _ (jq _) rfl ?_
  |(refine .aw [0,1,2,4] hK ?_;clear hK K)
  |(with_reducible refine .done (hK _ ?_);clear hK K)
  |refine J.of rfl ?_
  |(with_reducible refine ak.aE (fun h =>?_) (fun h =>?_) <;>try simp only[h])) <;>try simp only[aH,R,simprocAttr])
 all_goals clear R
 all_goals simp_all
def sx(l:List al)(o s day known:Int):Int×Int:=if dX l [eR o 99,eR s 9] [day,known]=0 then ((((dw l day known).filter fun b => !decide (0≤b.dm)&&(b.b5==o&&b.ec==s)).length:Int),0) else (0,dX l [eR o 99,eR s 9] [day,known])
theorem Ow(l:List al)(o s day known:Int):av Tryz.prog 28 [enc l,enc o,enc s,enc day,enc known] (.tuple [enc (sx l o s day known).1,enc (sx l o s day known).2]):=by
 refine av.bn Tryz.func28 Rk Th Vs (Nat.le_of_ble_eq_true rfl) (fun hwf W0 D0 E1 =>?_)
 simp only[BJ,Lr,a6,Nat.zero_add,Nat.reduceAdd]
 clear hwf
 have hC:=m0 l [eR o 99,eR s 9] [day,known]
 simp only[sx]
 generalize hc:dX l [eR o 99,eR s 9] [day,known]=e at hC ⊢
 by_cases he:e=0
 ·have hn:=lP he
  subst he
  have hok:=kD hc
  have hF:=qn l day known hok
  rw[ru] at hF
  have hb:=xn hok day known
  have hN:=uO (dw l day known) hb.2.1 91 [.ref (enc o),.ref (enc s)] rfl (fun b => !decide (0≤b.dm)&&(b.b5==o&&b.ec==s)) (fun b _=>OP b o s)
  have R:=And.intro @hn (And.intro @pN ee)
  repeat' ((first
   |(with_reducible refine .guard (fun hb =>?_) (fun hb =>?_) <;>try simp only[hb])
   |refine J.aG (by decide +kernel) rfl fun K hK =>?_
   |refine .flat _ (hC) rfl ?_
   |refine .lead _ (hF) ?_
   |(refine .aw [0,1,2,3,4,6,7,10,11,12,13,26] hK ?_;clear hK K)
   |(with_reducible refine .done (hK _ ?_);clear hK K)
   |refine J.of rfl ?_
   |(with_reducible refine ak.aE (fun h =>?_) (fun h =>?_) <;>try simp only[h])) <;>try simp only[aH,R,simprocAttr])
  all_goals clear R
  refine .gU [6,7] _ rfl hN ?_ ?_ ?_
  ·simp[bd,bY,cu,aq,fS,ai,m7,oh,I.br]
   exact ⟨rfl,rfl⟩
  ·simp[bt,cw]
  ·have hlen:(du (((dw l day known).filter fun b => !decide (0≤b.dm)&&(b.b5==o&&b.ec==s)).map (·.no))).length=((dw l day known).filter fun b => !decide (0≤b.dm)&&(b.b5==o&&b.ec==s)).length:=by simp[du]
   try simp only[fG,List.map_cons,List.map_nil,hlen,ee,U,simprocAttr]
   have R:=And.intro @hlen ee
   repeat' ((first
    |(with_reducible refine .guard (fun hb =>?_) (fun hb =>?_) <;>try simp only[hb])
    |refine J.aG (by decide +kernel) rfl fun K hK =>?_
    |(refine .aw [0,1,2,3,4,6,7,10,11,12,13,26] hK ?_;clear hK K)
    |(with_reducible refine .done (hK _ ?_);clear hK K)
    |refine J.of rfl ?_
    |(with_reducible refine ak.aE (fun h =>?_) (fun h =>?_) <;>try simp only[h])) <;>try simp only[aH,R,simprocAttr])
   all_goals clear R
 ·have hn:=lQ he
  have R:=And.intro @hn (And.intro @he ee)
  repeat' ((first
   |(with_reducible refine .guard (fun hb =>?_) (fun hb =>?_) <;>try simp only[hb])
   |refine J.aG (by decide +kernel) rfl fun K hK =>?_
   |refine .flat _ (hC) rfl ?_
   |(refine .aw [0,1,2,3,4,6,7,10,11,12,13,26] hK ?_;clear hK K)
   |(with_reducible refine .done (hK _ ?_);clear hK K)
   |refine J.of rfl ?_
   |(with_reducible refine ak.aE (fun h =>?_) (fun h =>?_) <;>try simp only[h])) <;>try simp only[aH,R,simprocAttr])
  all_goals clear R
  all_goals rfl
theorem iD(m:cH):b6 (some 7) (enc m)=true:=by rw[fX];rfl
theorem rY(m:cH)(b:aA):av Tryz.prog 69 [enc m,.ref (enc (⟨b⟩:eK))] (enc (jd m b.aY).1):=by
 refine av.bn Tryz.func69 RB Tz VJ (Nat.le_of_ble_eq_true rfl) (fun hwf W0 D0 E1 =>?_)
 simp only[B1,LJ,a6,Nat.zero_add]
 clear hwf
 have hC:=Ny m b.aY
 have R:=And.intro @iD ee
 repeat' ((first
  |(with_reducible refine .guard (fun hb =>?_) (fun hb =>?_) <;>try simp only[hb])
  |refine J.aG (by decide +kernel) rfl fun K hK =>?_
  |refine .lead _ (hC) ?_
  |(refine .aw [0,1,2,4,5] hK ?_;clear hK K)
  |(with_reducible refine .done (hK _ ?_);clear hK K)
  |refine J.of rfl ?_
  |(with_reducible refine ak.aE (fun h =>?_) (fun h =>?_) <;>try simp only[h])) <;>try simp only[aH,R,simprocAttr])
 all_goals clear R
theorem Nz(l:List Int)(n:Int):av Tryz.prog 131 [enc l,enc n] (enc (nu (fun x=>n==x) l)):=by
 refine av.bn Tryz.func131 Qp Sj Uw (Nat.le_of_ble_eq_true rfl) (fun hwf W0 D0 E1 =>?_)
 simp only[AJ,Kv,a6,Nat.zero_add]
 have hlen:l.length≤maxLen:=((jZ l).1 hwf.1).1
 simp only[maxLen] at hlen
 clear hwf
 have R:=And.intro @bh @U
 repeat' ((first
  |(with_reducible refine .guard (fun hb =>?_) (fun hb =>?_) <;>try simp only[hb])
  |refine J.aG (by decide +kernel) rfl fun K hK =>?_
  |(refine .aw [0,1,4,5,7,8,9,16] hK ?_;clear hK K)
  |(with_reducible refine .done (hK _ ?_);clear hK K)
  |refine J.of rfl ?_
  |(with_reducible refine ak.aE (fun h =>?_) (fun h =>?_) <;>try simp only[h])) <;>try simp only[aH,R,simprocAttr])
 all_goals clear R
 refine J.loop (fun i:Nat=>aq [(0,enc l),(1,.int .i64 n),(7,.int .i64 l.length),(8,.int .i64 i)] []) (fun i=>i≤l.length∧∀ x∈l.take i,(n==x)=false) (fun i=>l.length-i) 0 ⟨Nat.zero_le _,by simp⟩ ?_ (fun i hi =>?_)
 ·refine aC.bZ ?_ ?_ ?_ ?_ <;>simp[aX,bO,bM,bt,aW,I.only,bB]
 obtain ⟨hi1,hi2⟩:=hi
 by_cases hlt:i<l.length
 ·have hc:=fy hlt
  have he:=fun A=>eA (A:=A) 1 hlt rfl
  have hw:=eH (i:=i) (by omega)
  rcases hp:(n==l[i])
  ·have R:=And.intro @hc (And.intro @he (And.intro @hp (And.intro @hw (And.intro @lR (And.intro @bh @U)))))
   repeat' ((first
    |(with_reducible refine .guard (fun hb =>?_) (fun hb =>?_) <;>try simp only[hb])
    |refine J.aG (by decide +kernel) rfl fun K hK =>?_
    |(refine .aw [0,1,4,5,7,8,9,16] hK ?_;clear hK K)
    |(with_reducible refine .done (hK _ ?_);clear hK K)
    |refine J.of rfl ?_
    |(with_reducible refine ak.aE (fun h =>?_) (fun h =>?_) <;>try simp only[h])) <;>try simp only[aH,R,simprocAttr])
   all_goals clear R
   refine ⟨i+1,⟨by omega,fun x hm =>?_⟩,by omega,?_⟩
   ·rw[List.take_succ_eq_append_getElem hlt] at hm
    rcases List.mem_append.1 hm with hm | hm
    ·exact hi2 x hm
    ·simp at hm;rw[hm];exact hp
   ·refine aC.bZ ?_ ?_ ?_ ?_ <;>simp[aX,bO,bM,bt,aW,I.only,bB]
  ·have R:=And.intro @hc (And.intro @he (And.intro @hp (And.intro @lR (And.intro @bh @U))))
   repeat' ((first
    |(with_reducible refine .guard (fun hb =>?_) (fun hb =>?_) <;>try simp only[hb])
    |refine J.aG (by decide +kernel) rfl fun K hK =>?_
    |(refine .aw [0,1,4,5,7,8,9,16] hK ?_;clear hK K)
    |(with_reducible refine .done (hK _ ?_);clear hK K)
    |refine J.of rfl ?_
    |(with_reducible refine ak.aE (fun h =>?_) (fun h =>?_) <;>try simp only[h])) <;>try simp only[aH,R,simprocAttr])
   all_goals clear R
   simp[nu,sJ hlt hi2 hp]
 ·have hc:=fD hlt
  have hge:i=l.length:=by omega
  have R:=And.intro @hc (And.intro @bh @U)
  repeat' ((first
   |(with_reducible refine .guard (fun hb =>?_) (fun hb =>?_) <;>try simp only[hb])
   |refine J.aG (by decide +kernel) rfl fun K hK =>?_
   |(refine .aw [0,1,4,5,7,8,9,16] hK ?_;clear hK K)
   |(with_reducible refine .done (hK _ ?_);clear hK K)
   |refine J.of rfl ?_
   |(with_reducible refine ak.aE (fun h =>?_) (fun h =>?_) <;>try simp only[h])) <;>try simp only[aH,R,simprocAttr])
  all_goals clear R
  subst hge
  rw[List.take_length] at hi2
  simp[nu,sI hi2]
theorem OH(l:List Int)(n:Int):av Tryz.prog 74 [enc l,enc n] (enc (decide (n∈l))):=by
 refine av.bn Tryz.func74 RE TC VM (Nat.le_of_ble_eq_true rfl) (fun hwf W0 D0 E1 =>?_)
 simp only[B5,LM,a6,Nat.zero_add]
 clear hwf
 have R:=And.intro @aK @U
 repeat' ((first
  |(with_reducible refine .guard (fun hb =>?_) (fun hb =>?_) <;>try simp only[hb])
  |refine J.aG (by decide +kernel) rfl fun K hK =>?_
  |refine .flat _ (Nz _ _) rfl ?_
  |(refine .aw [0,1,4] hK ?_;clear hK K)
  |(with_reducible refine .done (hK _ ?_);clear hK K)
  |refine J.of rfl ?_
  |(with_reducible refine ak.aE (fun h =>?_) (fun h =>?_) <;>try simp only[h])) <;>try simp only[aH,R,simprocAttr])
 all_goals clear R
 rw[IN]
 congr 1
 rw[Bool.eq_iff_iff]
 simp[List.any_eq_true]
theorem OG(m:cH)(b:aA):av Tryz.prog 73 [.ref (enc (⟨b⟩:eK)),.ref (enc m)] (enc (decide (0<b.iz) && !decide (b.iz∈(jd m b.aY).1))):=by
 refine av.bn Tryz.func73 RD TB VL (Nat.le_of_ble_eq_true rfl) (fun hwf W0 D0 E1 =>?_)
 simp only[B4,LL,a6,Nat.zero_add]
 clear hwf
 have hC:=rY m b
 have R:=And.intro @iD ee
 repeat' ((first
  |(with_reducible refine .guard (fun hb =>?_) (fun hb =>?_) <;>try simp only[hb])
  |refine J.aG (by decide +kernel) rfl fun K hK =>?_
  |refine .lead _ (hC) ?_
  |refine .flat _ (OH _ _) rfl ?_
  |(refine .aw [0,1,3] hK ?_;clear hK K)
  |(with_reducible refine .done (hK _ ?_);clear hK K)
  |refine J.of rfl ?_
  |(with_reducible refine ak.aE (fun h =>?_) (fun h =>?_) <;>try simp only[h])) <;>try simp only[aH,R,simprocAttr])
 all_goals clear R
 all_goals first | (simp_all;done) | (simp_all;intro h;omega)
def lq(m:cH)(l:List al)(no known:Int):List Int×Int:=if gN m then (if dX l [eR no 9999] [known]=0 then (match cB (dw l 100000 known) no with
 |none=>([],42)
 |some b=>((jd m b.aY).1,0)) else ([],dX l [eR no 9999] [known])) else ([],13)
theorem iO(a:Int):ig 1 (some [.int .i64 a])=some (enc [a]):=na (ys:=[a]) 1 rfl
theorem uI(m:cH)(l:List al)(no known:Int):av Tryz.prog 14 [enc m,enc l,enc no,enc known] (.tuple [enc (lq m l no known).1,enc (lq m l no known).2]):=by
 refine av.bn Tryz.func14 Qw Sr UD (Nat.le_of_ble_eq_true rfl) (fun hwf W0 D0 E1 =>?_)
 simp only[AQ,KD,a6,Nat.zero_add,Nat.reduceAdd]
 clear hwf
 have hM:=uN m
 have hC:=m0 l [eR no 9999] [known]
 simp only[lq]
 rcases hm:gN m
 ·rw[hm,if_neg (by decide)] at hM
  have R:=And.intro @iD ee
  repeat' ((first
   |(with_reducible refine .guard (fun hb =>?_) (fun hb =>?_) <;>try simp only[hb])
   |refine J.aG (by decide +kernel) rfl fun K hK =>?_
   |refine .flat _ (hM) rfl ?_
   |(refine .aw [0,1,2,3,4,8,9,10,11,12,16,26,37] hK ?_;clear hK K)
   |(with_reducible refine .done (hK _ ?_);clear hK K)
   |refine J.of rfl ?_
   |(with_reducible refine ak.aE (fun h =>?_) (fun h =>?_) <;>try simp only[h])) <;>try simp only[aH,R,simprocAttr])
  all_goals clear R
  all_goals rfl
 rw[hm,if_pos rfl] at hM
 generalize hc:dX l [eR no 9999] [known]=e at hC ⊢
 by_cases he:e=0
 ·have hn:=lP he
  subst he
  have hok:=kD hc
  have hF:=ql l known hok
  have hk:=qZ (dw l 100000 known) no
  cases hg:cB (dw l 100000 known) no with
  |none =>
   rw[hg] at hk
   have R:=And.intro @hn (And.intro @hk (And.intro @iD ee))
   repeat' ((first
    |(with_reducible refine .guard (fun hb =>?_) (fun hb =>?_) <;>try simp only[hb])
    |refine J.aG (by decide +kernel) rfl fun K hK =>?_
    |refine .flat _ (hM) rfl ?_
    |refine .flat _ (hC) rfl ?_
    |refine .lead _ (hF) ?_
    |(refine .aw [0,1,2,3,4,8,9,10,11,12,16,26,37] hK ?_;clear hK K)
    |(with_reducible refine .done (hK _ ?_);clear hK K)
    |refine J.of rfl ?_
    |(with_reducible refine ak.aE (fun h =>?_) (fun h =>?_) <;>try simp only[h])) <;>try simp only[aH,R,simprocAttr])
   all_goals clear R
   all_goals rfl
  |some b =>
   rw[hg] at hk
   have hB:=rY m b
   have R:=And.intro @hn (And.intro @hk (And.intro @iD ee))
   repeat' ((first
    |(with_reducible refine .guard (fun hb =>?_) (fun hb =>?_) <;>try simp only[hb])
    |refine J.aG (by decide +kernel) rfl fun K hK =>?_
    |refine .flat _ (hM) rfl ?_
    |refine .flat _ (hC) rfl ?_
    |refine .lead _ (hF) ?_
    |refine .lead _ (hB) ?_
    |(refine .aw [0,1,2,3,4,8,9,10,11,12,16,26,37] hK ?_;clear hK K)
    |(with_reducible refine .done (hK _ ?_);clear hK K)
    |refine J.of rfl ?_
    |(with_reducible refine ak.aE (fun h =>?_) (fun h =>?_) <;>try simp only[h])) <;>try simp only[aH,R,simprocAttr])
   all_goals clear R
 ·have hn:=lQ he
  have R:=And.intro @hn (And.intro @he (And.intro @iD ee))
  repeat' ((first
   |(with_reducible refine .guard (fun hb =>?_) (fun hb =>?_) <;>try simp only[hb])
   |refine J.aG (by decide +kernel) rfl fun K hK =>?_
   |refine .flat _ (hM) rfl ?_
   |refine .flat _ (hC) rfl ?_
   |(refine .aw [0,1,2,3,4,8,9,10,11,12,16,26,37] hK ?_;clear hK K)
   |(with_reducible refine .done (hK _ ?_);clear hK K)
   |refine J.of rfl ?_
   |(with_reducible refine ak.aE (fun h =>?_) (fun h =>?_) <;>try simp only[h])) <;>try simp only[aH,R,simprocAttr])
  all_goals clear R
  all_goals rfl
def rQ(m:cH)(l:List al)(known:Int):List Int×Int:=if gN m then (if dX l [] [known]=0 then
 (du (((dw l 100000 known).filter fun b=>decide (0<b.iz) && !decide (b.iz∈(jd m b.aY).1)).map (·.no)),0) else ([],dX l [] [known])) else ([],13)
theorem NT(m:cH)(l:List al)(known:Int):av Tryz.prog 16 [enc m,enc l,enc known] (.tuple [enc (rQ m l known).1,enc (rQ m l known).2]):=by
 refine av.bn Tryz.func16 QH SE UP (Nat.le_of_ble_eq_true rfl) (fun hwf W0 D0 E1 =>?_)
 simp only[A6,KP,a6,Nat.zero_add,Nat.reduceAdd]
 clear hwf
 have hM:=uN m
 have hC:=m0 l [] [known]
 simp only[rQ]
 rcases hm:gN m
 ·rw[hm,if_neg (by decide)] at hM
  have R:=And.intro @iD ee
  repeat' ((first
   |(with_reducible refine .guard (fun hb =>?_) (fun hb =>?_) <;>try simp only[hb])
   |refine J.aG (by decide +kernel) rfl fun K hK =>?_
   |refine .flat _ (hM) rfl ?_
   |(refine .aw [0,1,2,3,6,7,8,9,13,20] hK ?_;clear hK K)
   |(with_reducible refine .done (hK _ ?_);clear hK K)
   |refine J.of rfl ?_
   |(with_reducible refine ak.aE (fun h =>?_) (fun h =>?_) <;>try simp only[h])) <;>try simp only[aH,R,simprocAttr])
  all_goals clear R
  all_goals rfl
 rw[hm,if_pos rfl] at hM
 generalize hc:dX l [] [known]=e at hC ⊢
 by_cases he:e=0
 ·have hn:=lP he
  subst he
  have hok:=kD hc
  have hF:=ql l known hok
  have hb:=xn hok 100000 known
  have hN:=uO (dw l 100000 known) hb.2.1 73 [.ref (enc m)] (by simp[I.eS,I.done,dP]) (fun b=>decide (0<b.iz) && !decide (b.iz∈(jd m b.aY).1)) (fun b _=>OG m b)
  have R:=And.intro @hn (And.intro @iD (And.intro @pN ee))
  repeat' ((first
   |(with_reducible refine .guard (fun hb =>?_) (fun hb =>?_) <;>try simp only[hb])
   |refine J.aG (by decide +kernel) rfl fun K hK =>?_
   |refine .flat _ (hM) rfl ?_
   |refine .flat _ (hC) rfl ?_
   |refine .lead _ (hF) ?_
   |(refine .aw [0,1,2,3,6,7,8,9,13,20] hK ?_;clear hK K)
   |(with_reducible refine .done (hK _ ?_);clear hK K)
   |refine J.of rfl ?_
   |(with_reducible refine ak.aE (fun h =>?_) (fun h =>?_) <;>try simp only[h])) <;>try simp only[aH,R,simprocAttr])
  all_goals clear R
  refine .gU [3] _ rfl hN ?_ ?_ ?_
  ·simp[bd,bY,cu,aq,fS,ai,m7,oh,dP]
  ·simp[bt,cw]
  ·try simp only[fG,List.map_cons,List.map_nil,ee,U,simprocAttr]
   have R:=ee
   repeat' ((first
    |(with_reducible refine .guard (fun hb =>?_) (fun hb =>?_) <;>try simp only[hb])
    |refine J.aG (by decide +kernel) rfl fun K hK =>?_
    |(refine .aw [0,1,2,3,6,7,8,9,13,20] hK ?_;clear hK K)
    |(with_reducible refine .done (hK _ ?_);clear hK K)
    |refine J.of rfl ?_
    |(with_reducible refine ak.aE (fun h =>?_) (fun h =>?_) <;>try simp only[h])) <;>try simp only[aH,R,simprocAttr])
   all_goals clear R
 ·have hn:=lQ he
  have R:=And.intro @hn (And.intro @he (And.intro @iD ee))
  repeat' ((first
   |(with_reducible refine .guard (fun hb =>?_) (fun hb =>?_) <;>try simp only[hb])
   |refine J.aG (by decide +kernel) rfl fun K hK =>?_
   |refine .flat _ (hM) rfl ?_
   |refine .flat _ (hC) rfl ?_
   |(refine .aw [0,1,2,3,6,7,8,9,13,20] hK ?_;clear hK K)
   |(with_reducible refine .done (hK _ ?_);clear hK K)
   |refine J.of rfl ?_
   |(with_reducible refine ak.aE (fun h =>?_) (fun h =>?_) <;>try simp only[h])) <;>try simp only[aH,R,simprocAttr])
  all_goals clear R
  all_goals rfl
def eT{α:Type}(f:α→Int)(l:List α)(x:α):List α:=(l.takeWhile fun a=>decide (f a≤f x))++x::l.dropWhile fun a=>decide (f a≤f x)
def fv{α:Type}(f:α→Int)(l:List α)(x:α):Bool:=l.any fun a=>decide (f x<f a)
def gF{α:Type}(f:α→Int)(l:List α)(x:α):List α:=if fv f l x then eT f l x else l
section
variable {α:Type} {f:α→Int}
theorem IU{x:α} : ∀ {l:List α},fv f l x=false→eT f l x=l++[x]
 | [],_=>by simp[eT]
 |a::l,h=>by
  simp only[fv,List.any_cons,Bool.or_eq_false_iff,decide_eq_false_iff_not] at h
  have ha:f a≤f x:=by omega
  have e:eT f (a::l) x=a::eT f l x:=by simp[eT,ha]
  rw[e,IU (l:=l) (by simpa[fv] using h.2)];rfl
theorem IW{x:α}(y:α):∀ {l:List α},fv f l x=true→eT f (l++[y]) x=eT f l x++[y]
 | [],h=>by simp[fv] at h
 |a::l,h=>by
  by_cases ha:f a≤f x
  ·have h2:fv f l x=true:=by
    simp only[fv,List.any_cons,Bool.or_eq_true,decide_eq_true_eq] at h
    rcases h with h | h
    ·omega
    ·exact h
   have e:∀ m:List α,eT f (a::m) x=a::eT f m x:=fun m=>by simp[eT,ha]
   rw[List.cons_append,e,e,IW y h2];rfl
  ·simp[eT,ha]
theorem IT{x y:α}(hy:f x<f y):∀ {l:List α},fv f l x=false→eT f (l++[y]) x=l++[x,y]
 | [],_=>by simp[eT,show ¬ f y≤f x by omega]
 |a::l,h=>by
  simp only[fv,List.any_cons,Bool.or_eq_false_iff,decide_eq_false_iff_not] at h
  have ha:f a≤f x:=by omega
  have e:∀ m:List α,eT f (a::m) x=a::eT f m x:=fun m=>by simp[eT,ha]
  rw[List.cons_append,e,IT hy (by simpa[fv] using h.2)];rfl
theorem uW{l:List α}{x:α}{i:Nat}(h:i<l.length):fv f (l.take (i+1)) x=(fv f (l.take i) x||decide (f x<f l[i])):=by
 simp only[fv,List.take_succ_eq_append_getElem h,List.any_append,List.any_cons,List.any_nil,Bool.or_false]
theorem CN{l:List α}{x:α}{i:Nat}(h:i<l.length):gF f (l.take (i+1)) x=(if (!fv f (l.take i) x&&decide (f x<f l[i]))=true then gF f (l.take i) x++[x] else gF f (l.take i) x)++[l[i]]:=by
 have e:=List.take_succ_eq_append_getElem h
 simp only[gF,uW h]
 cases ha:fv f (l.take i) x
 ·by_cases hx:f x<f l[i]
  ·simp only[hx,decide_true,Bool.or_true,if_true,Bool.not_false,Bool.and_true,Bool.false_eq_true,if_false]
   rw[e,IT hx ha];simp
  ·simp only[hx,decide_false,Bool.or_false,Bool.and_false,if_false,Bool.false_eq_true]
   exact e
 ·simp only[Bool.true_or,if_true,Bool.not_true,Bool.false_and,Bool.false_eq_true,if_false]
  rw[e,IW _ ha]
theorem CL(l:List α)(x:α):(if fv f l x then gF f l x else gF f l x++[x])=eT f l x:=by
 simp only[gF]
 cases h:fv f l x
 ·simp only[Bool.false_eq_true,if_false];exact (IU h).symm
 ·simp only[if_true]
theorem IS(l:List α)(x:α):(eT f l x).length=l.length+1:=by
 have h:(l.takeWhile fun a=>decide (f a≤f x))++(l.dropWhile fun a=>decide (f a≤f x))=l:=List.takeWhile_append_dropWhile
 have h2:=congrArg List.length h
 simp only[eT,List.length_append,List.length_cons] at h2 ⊢
 omega
theorem CM(l:List α)(x:α):(gF f l x).length≤l.length+1:=by
 simp only[gF]
 split
 ·rw[IS];omega
 ·omega
end
theorem O1(bs:List aA)(b:aA):fu bs b=eT (·.no) bs b:=rfl
def pG(bs:List aA)(no:Int):Int:=match bs.findIdx? fun b=>decide (b.no=no) with
 |some i=>i
 |none=>-1
theorem m3(bs:List aA)(no:Int):av Tryz.prog 93 [enc bs,enc no] (enc (pG bs no)):=by
 refine av.bn Tryz.func93 RR TP VZ (Nat.le_of_ble_eq_true rfl) (fun hwf W0 D0 E1 =>?_)
 simp only[Ci,L0,a6,Nat.zero_add]
 have hlen:bs.length≤maxLen:=((jZ bs).1 hwf.1).1
 simp only[maxLen] at hlen
 clear hwf
 have R:=And.intro @bh (And.intro @aK @U)
 repeat' ((first
  |(with_reducible refine .guard (fun hb =>?_) (fun hb =>?_) <;>try simp only[hb])
  |refine J.aG (by decide +kernel) rfl fun K hK =>?_
  |(refine .aw [0,1,4,5,9,18] hK ?_;clear hK K)
  |(with_reducible refine .done (hK _ ?_);clear hK K)
  |refine J.of rfl ?_
  |(with_reducible refine ak.aE (fun h =>?_) (fun h =>?_) <;>try simp only[h])) <;>try simp only[aH,R,simprocAttr])
 all_goals clear R
 refine J.loop (fun i:Nat=>aq [(0,enc bs),(1,.int .i64 no),(5,.int .i64 i)] []) (fun i=>i≤bs.length∧∀ x∈bs.take i,decide (x.no=no)=false) (fun i=>bs.length-i) 0 ⟨Nat.zero_le _,by simp⟩ ?_ (fun i hi =>?_)
 ·refine aC.bZ ?_ ?_ ?_ ?_ <;>simp[aX,bO,bM,bt,aW,I.only,bB]
 obtain ⟨hi1,hi2⟩:=hi
 by_cases hlt:i<bs.length
 ·have hc:=fy hlt
  have he:=fun A=>eA (A:=A) 9 hlt rfl
  have hw:=eH (i:=i) (by omega)
  rcases hp:((bs[i]).no==no)
  ·have R:=And.intro @hc (And.intro @he (And.intro @hp (And.intro @hw (And.intro @bh (And.intro @aK (And.intro @fI @U))))))
   repeat' ((first
    |(with_reducible refine .guard (fun hb =>?_) (fun hb =>?_) <;>try simp only[hb])
    |refine J.aG (by decide +kernel) rfl fun K hK =>?_
    |(refine .aw [0,1,4,5,9,18] hK ?_;clear hK K)
    |(with_reducible refine .done (hK _ ?_);clear hK K)
    |refine J.of rfl ?_
    |(with_reducible refine ak.aE (fun h =>?_) (fun h =>?_) <;>try simp only[h])) <;>try simp only[aH,R,simprocAttr])
   all_goals clear R
   refine ⟨i+1,⟨by omega,fun x hm =>?_⟩,by omega,?_⟩
   ·rw[List.take_succ_eq_append_getElem hlt] at hm
    rcases List.mem_append.1 hm with hm | hm
    ·exact hi2 x hm
    ·simp at hm;rw[hm];simpa using hp
   ·refine aC.bZ ?_ ?_ ?_ ?_ <;>simp[aX,bO,bM,bt,aW,I.only,bB]
  ·have R:=And.intro @hc (And.intro @he (And.intro @hp (And.intro @bh (And.intro @aK (And.intro @fI @U)))))
   repeat' ((first
    |(with_reducible refine .guard (fun hb =>?_) (fun hb =>?_) <;>try simp only[hb])
    |refine J.aG (by decide +kernel) rfl fun K hK =>?_
    |(refine .aw [0,1,4,5,9,18] hK ?_;clear hK K)
    |(with_reducible refine .done (hK _ ?_);clear hK K)
    |refine J.of rfl ?_
    |(with_reducible refine ak.aE (fun h =>?_) (fun h =>?_) <;>try simp only[h])) <;>try simp only[aH,R,simprocAttr])
   all_goals clear R
   have:bs.findIdx? (fun b=>decide (b.no=no))=some i:=sJ hlt hi2 (by simpa using hp)
   simp[pG,this]
 ·have hc:=fD hlt
  have hge:i=bs.length:=by omega
  subst hge
  have R:=And.intro @hc (And.intro @bh (And.intro @aK @U))
  repeat' ((first
   |(with_reducible refine .guard (fun hb =>?_) (fun hb =>?_) <;>try simp only[hb])
   |refine J.aG (by decide +kernel) rfl fun K hK =>?_
   |(refine .aw [0,1,4,5,9,18] hK ?_;clear hK K)
   |(with_reducible refine .done (hK _ ?_);clear hK K)
   |refine J.of rfl ?_
   |(with_reducible refine ak.aE (fun h =>?_) (fun h =>?_) <;>try simp only[h])) <;>try simp only[aH,R,simprocAttr])
  all_goals clear R
  rw[List.take_length] at hi2
  simp[pG,sI hi2]
theorem N2(bs:List aA)(b:aA)(hn:bs.length≤100):av Tryz.prog 170 [enc bs,enc b] (enc (fu bs b)):=by
 refine av.bn Tryz.func170 QT SP U1 (Nat.le_of_ble_eq_true rfl) (fun hwf W0 D0 E1 =>?_)
 simp only[Bh,K0,a6,Nat.zero_add]
 clear hwf
 rw[O1]
 have R:=And.intro @bh (And.intro @aK @U)
 repeat' ((first
  |(with_reducible refine .guard (fun hb =>?_) (fun hb =>?_) <;>try simp only[hb])
  |refine J.aG (by decide +kernel) rfl fun K hK =>?_
  |(refine .aw [0,1,3,4,5,6,7,11,25,38] hK ?_;clear hK K)
  |(with_reducible refine .done (hK _ ?_);clear hK K)
  |refine J.of rfl ?_
  |(with_reducible refine ak.aE (fun h =>?_) (fun h =>?_) <;>try simp only[h])) <;>try simp only[aH,R,simprocAttr])
 all_goals clear R
 refine J.loop (fun i:Nat=>aq [(0,enc bs),(3,.ptr 3 []),(5,.own 905 (gF (·.no) (bs.take i) b).length),(6,.bool (fv (·.no) (bs.take i) b)),(7,.int .i64 i)] [(3,.box (enc b)),(905,.bT 78 9 ((gF (·.no) (bs.take i) b).map enc))]) (fun i=>i≤bs.length) (fun i=>bs.length-i) 0 (Nat.zero_le _) ?_ (fun i hi =>?_)
 ·refine aC.ln 5 905 78 9 9 rfl rfl ?_
  simp only[List.take_zero,gF,fv,List.any_nil,Bool.false_eq_true,if_false,List.map_nil,List.length_nil]
  refine aC.bZ ?_ ?_ ?_ ?_ <;>simp[aX,bO,bM,bt,ao,aW,cA,I.only,I.bP,ah.only,bB]
 have hcl:=CM (f:=(·.no)) (bs.take i) b
 have htl:(bs.take i).length≤100:=by rw[List.length_take];omega
 by_cases hlt:i<bs.length
 ·have hc:=fy hlt
  have he:=fun A=>eA (A:=A) 9 hlt rfl
  have hw:=eH (i:=i) (by omega)
  have hs:=CN (f:=(·.no)) (x:=b) hlt
  have ha:=uW (f:=(·.no)) (x:=b) hlt
  generalize gF (·.no) (bs.take i) b=xs at hcl hs ⊢
  generalize fv (·.no) (bs.take i) b=aw at hs ha ⊢
  have happ:=fun (A:ab) d rest (es:List aA) (hes:es.length≤102) (y:aA)=>jr (α:=aA) (A:=A) (d:=d) 78 9 88 905 (l:=es.length) (es:=es) (ys:=[y]) (rest:=rest) rfl rfl (by simp) (by simp[maxLen];omega) (by simp;omega)
  have hap1:=fun (A:ab) d rest=>happ A d rest xs (by omega) b
  have hap2:=fun (A:ab) d rest=>happ A d rest (xs++[b]) (by simp;omega) (bs[i])
  have hap3:=fun (A:ab) d rest=>happ A d rest xs (by omega) (bs[i])
  have hbs:=fun y:aA=>nX 9 y rfl
  rcases hp:decide (b.no<(bs[i]).no) <;>cases aw
  all_goals
   have R:=And.intro @hc (And.intro @he (And.intro @hp (And.intro @hw (And.intro @hap1 (And.intro @hap2 (And.intro @hap3 (And.intro @hbs (And.intro @bh (And.intro @aK (And.intro @fI @U))))))))))
   repeat' ((first
    |(with_reducible refine .guard (fun hb =>?_) (fun hb =>?_) <;>try simp only[hb])
    |refine J.aG (by decide +kernel) rfl fun K hK =>?_
    |(refine .aw [0,1,3,4,5,6,7,11,25,38] hK ?_;clear hK K)
    |(with_reducible refine .done (hK _ ?_);clear hK K)
    |refine J.of rfl ?_
    |(with_reducible refine ak.aE (fun h =>?_) (fun h =>?_) <;>try simp only[h])) <;>try simp only[aH,R,simprocAttr])
   all_goals clear R
   simp only[hp,Bool.not_true,Bool.not_false,Bool.and_true,Bool.and_false,if_true,Bool.false_eq_true,if_false,Bool.or_true,Bool.or_false] at hs ha
   refine ⟨i+1,by omega,by omega,?_⟩
   simp only[hs,ha]
   refine aC.bZ ?_ ?_ ?_ ?_ <;>simp[aX,bO,bM,bt,ao,aW,cA,I.only,I.bP,ah.only,dU,gv,bB]
 ·have hc:=fD hlt
  have hge:i=bs.length:=by omega
  subst hge
  rw[←CL]
  rw[List.take_length] at hcl ⊢
  generalize gF (·.no) bs b=xs at hcl ⊢
  have hap1:=fun (A:ab) d rest=>jr (α:=aA) (A:=A) (d:=d) 78 9 88 905 (l:=xs.length) (es:=xs) (ys:=[b]) (rest:=rest) rfl rfl (by simp) (by simp[maxLen];omega) (by simp;omega)
  have hbs:=fun y:aA=>nX 9 y rfl
  have hfo:=fun xs:List aA=>lF (k:=xs.length) (T:=78) (es:=xs) 9 rfl rfl
  cases fv (·.no) bs b
  all_goals
   have R:=And.intro @hc (And.intro @hap1 (And.intro @hbs (And.intro @hfo (And.intro @bh (And.intro @aK @U)))))
   repeat' ((first
    |(with_reducible refine .guard (fun hb =>?_) (fun hb =>?_) <;>try simp only[hb])
    |refine J.aG (by decide +kernel) rfl fun K hK =>?_
    |(refine .aw [0,1,3,4,5,6,7,11,25,38] hK ?_;clear hK K)
    |(with_reducible refine .done (hK _ ?_);clear hK K)
    |refine J.of rfl ?_
    |(with_reducible refine ak.aE (fun h =>?_) (fun h =>?_) <;>try simp only[h])) <;>try simp only[aH,R,simprocAttr])
   all_goals clear R
def iN(l:List Int)(x:Int):List Int:=if x∈l then l else eT id l x
theorem NM(l:List Int)(x:Int)(hn:l.length≤200):av Tryz.prog 140 [enc l,enc x] (enc (iN l x)):=by
 refine av.bn Tryz.func140 Qx St UE (Nat.le_of_ble_eq_true rfl) (fun hwf W0 D0 E1 =>?_)
 simp only[AR,KE,a6,Nat.zero_add]
 clear hwf
 have R:=And.intro @bh (And.intro @aK @U)
 repeat' ((first
  |(with_reducible refine .guard (fun hb =>?_) (fun hb =>?_) <;>try simp only[hb])
  |refine J.aG (by decide +kernel) rfl fun K hK =>?_
  |(refine .aw [0,1,4,5,6,7,11,19,30,43] hK ?_;clear hK K)
  |(with_reducible refine .done (hK _ ?_);clear hK K)
  |refine J.of rfl ?_
  |(with_reducible refine ak.aE (fun h =>?_) (fun h =>?_) <;>try simp only[h])) <;>try simp only[aH,R,simprocAttr])
 all_goals clear R
 refine J.loop (fun i:Nat=>aq [(0,enc l),(1,.int .i64 x),(5,.own 905 (gF id (l.take i) x).length),(6,.bool (fv id (l.take i) x)),(7,.int .i64 i)] [(905,.bT 3 1 ((gF id (l.take i) x).map enc))]) (fun i=>i≤l.length∧x∉l.take i) (fun i=>l.length-i) 0 ⟨Nat.zero_le _,by simp⟩ ?_ (fun i hi =>?_)
 ·refine aC.ln 5 905 3 1 1 rfl rfl ?_
  simp only[List.take_zero,gF,fv,List.any_nil,Bool.false_eq_true,if_false,List.map_nil,List.length_nil]
  refine aC.bZ ?_ ?_ ?_ ?_ <;>simp[aX,bO,bM,bt,ao,aW,cA,I.only,I.bP,ah.only,bB]
 obtain ⟨hi,hx⟩:=hi
 have hcl:=CM (f:=id) (l.take i) x
 have htl:(l.take i).length≤200:=by rw[List.length_take];omega
 by_cases hlt:i<l.length
 ·have hc:=fy hlt
  have he:=fun A=>eA (A:=A) 1 hlt rfl
  have hw:=eH (i:=i) (by omega)
  rcases heq:(l[i]==x)
  case true =>
   have hm:x∈l:=by
    have:l[i]=x:=by simpa using heq
    rw[←this];exact List.getElem_mem hlt
   have R:=And.intro @hc (And.intro @he (And.intro @heq (And.intro @bh (And.intro @aK @U))))
   repeat' ((first
    |(with_reducible refine .guard (fun hb =>?_) (fun hb =>?_) <;>try simp only[hb])
    |refine J.aG (by decide +kernel) rfl fun K hK =>?_
    |(refine .aw [0,1,4,5,6,7,11,19,30,43] hK ?_;clear hK K)
    |(with_reducible refine .done (hK _ ?_);clear hK K)
    |refine J.of rfl ?_
    |(with_reducible refine ak.aE (fun h =>?_) (fun h =>?_) <;>try simp only[h])) <;>try simp only[aH,R,simprocAttr])
   all_goals clear R
   simp[iN,hm]
  have hs:=CN (f:=id) (x:=x) hlt
  have ha:=uW (f:=id) (x:=x) hlt
  generalize gF id (l.take i) x=xs at hcl hs ⊢
  generalize fv id (l.take i) x=aw at hs ha ⊢
  have happ:=fun (A:ab) d rest (es:List Int) (hes:es.length≤202) (y:Int)=>jr (α:=Int) (A:=A) (d:=d) 3 1 8 905 (l:=es.length) (es:=es) (ys:=[y]) (rest:=rest) rfl rfl (by simp) (by simp[maxLen];omega) (by simp;omega)
  have hap1:=fun (A:ab) d rest=>happ A d rest xs (by omega) x
  have hap2:=fun (A:ab) d rest=>happ A d rest (xs++[x]) (by simp;omega) (l[i])
  have hap3:=fun (A:ab) d rest=>happ A d rest xs (by omega) (l[i])
  have hx2:x∉l.take (i+1):=by
   rw[List.take_succ_eq_append_getElem hlt,List.mem_append,not_or]
   refine ⟨hx,?_⟩
   have:¬ l[i]=x:=by simpa using heq
   simpa using fun e=>this e.symm
  rcases hp:decide (x<l[i]) <;>cases aw
  all_goals
   have R:=And.intro @hc (And.intro @he (And.intro @heq (And.intro @hp (And.intro @hw (And.intro @hap1 (And.intro @hap2 (And.intro @hap3 (And.intro @iO (And.intro @bh (And.intro @aK @U))))))))))
   repeat' ((first
    |(with_reducible refine .guard (fun hb =>?_) (fun hb =>?_) <;>try simp only[hb])
    |refine J.aG (by decide +kernel) rfl fun K hK =>?_
    |(refine .aw [0,1,4,5,6,7,11,19,30,43] hK ?_;clear hK K)
    |(with_reducible refine .done (hK _ ?_);clear hK K)
    |refine J.of rfl ?_
    |(with_reducible refine ak.aE (fun h =>?_) (fun h =>?_) <;>try simp only[h])) <;>try simp only[aH,R,simprocAttr])
   all_goals clear R
   simp only[id,hp,Bool.not_true,Bool.not_false,Bool.and_true,Bool.and_false,if_true,Bool.false_eq_true,if_false,Bool.or_true,Bool.or_false] at hs ha
   refine ⟨i+1,⟨by omega,hx2⟩,by omega,?_⟩
   simp only[hs,ha]
   refine aC.bZ ?_ ?_ ?_ ?_ <;>simp[aX,bO,bM,bt,ao,aW,cA,I.only,I.bP,ah.only,dU,gv,bB,ij]
 ·have hc:=fD hlt
  have hge:i=l.length:=by omega
  subst hge
  rw[List.take_length] at hcl hx ⊢
  rw[iN,if_neg hx,←CL]
  generalize gF id l x=xs at hcl ⊢
  have hap1:=fun (A:ab) d rest=>jr (α:=Int) (A:=A) (d:=d) 3 1 8 905 (l:=xs.length) (es:=xs) (ys:=[x]) (rest:=rest) rfl rfl (by simp) (by simp[maxLen];omega) (by simp;omega)
  have hfo:=fun xs:List Int=>lF (k:=xs.length) (T:=3) (es:=xs) 1 rfl rfl
  cases fv id l x
  all_goals
   have R:=And.intro @hc (And.intro @hap1 (And.intro @hfo (And.intro @iO (And.intro @bh (And.intro @aK @U)))))
   repeat' ((first
    |(with_reducible refine .guard (fun hb =>?_) (fun hb =>?_) <;>try simp only[hb])
    |refine J.aG (by decide +kernel) rfl fun K hK =>?_
    |(refine .aw [0,1,4,5,6,7,11,19,30,43] hK ?_;clear hK K)
    |(with_reducible refine .done (hK _ ?_);clear hK K)
    |refine J.of rfl ?_
    |(with_reducible refine ak.aE (fun h =>?_) (fun h =>?_) <;>try simp only[h])) <;>try simp only[aH,R,simprocAttr])
   all_goals clear R
def gA(l:List Int):List Int:=l.foldl iN []
theorem O2(l:List Int)(x:Int):(iN l x).length≤l.length+1:=by
 simp only[iN]
 split
 ·omega
 ·rw[IS];omega
theorem DE:∀ (l o:List Int),(l.foldl iN o).length≤o.length+l.length
 | [],o=>by simp
 |x::l,o=>by
  have h1:=DE l (iN o x)
  have h2:=O2 o x
  simp only[List.foldl_cons,List.length_cons];omega
theorem zL(l:List Int)(hn:l.length≤150):av Tryz.prog 97 [enc l] (enc (gA l)):=by
 refine av.bn Tryz.func97 RT TR V1 (Nat.le_of_ble_eq_true rfl) (fun hwf W0 D0 E1 =>?_)
 simp only[Ck,L2,a6]
 clear hwf
 have R:=And.intro @bh (And.intro @aK @U)
 repeat' ((first
  |(with_reducible refine .guard (fun hb =>?_) (fun hb =>?_) <;>try simp only[hb])
  |refine J.aG (by decide +kernel) rfl fun K hK =>?_
  |(refine .aw [0,2,3,4,8] hK ?_;clear hK K)
  |(with_reducible refine .done (hK _ ?_);clear hK K)
  |refine J.of rfl ?_
  |(with_reducible refine ak.aE (fun h =>?_) (fun h =>?_) <;>try simp only[h])) <;>try simp only[aH,R,simprocAttr])
 all_goals clear R
 refine J.loop (fun i:Nat=>aq [(0,enc l),(3,enc (gA (l.take i))),(4,.int .i64 i)] []) (fun i=>i≤l.length) (fun i=>l.length-i) 0 (Nat.zero_le _) ?_ (fun i hi =>?_)
 ·refine aC.oe [] 3 (x:=.nils 1) (y:=enc ([]:List Int)) rfl (by rfl) ?_ ?_ ?_ ?_ ?_ <;>simp[cw,bt,aX,bO,bM,fG,aW,I.only,bB,gA]
 by_cases hlt:i<l.length
 ·have hc:=fy hlt
  have he:=fun A=>eA (A:=A) 1 hlt rfl
  have hw:=eH (i:=i) (by omega)
  have hs:gA (l.take (i+1))=iN (gA (l.take i)) l[i]:=by
   simp only[gA]
   rw[List.take_succ_eq_append_getElem hlt,List.foldl_append];rfl
  have hl:=DE (l.take i) []
  have hF:=NM (gA (l.take i)) l[i] (by rw[List.length_take] at hl;simp only[gA,List.length_nil] at hl ⊢;omega)
  have R:=And.intro @hc (And.intro @he (And.intro @hw (And.intro @bh (And.intro @aK @U))))
  repeat' ((first
   |(with_reducible refine .guard (fun hb =>?_) (fun hb =>?_) <;>try simp only[hb])
   |refine J.aG (by decide +kernel) rfl fun K hK =>?_
   |refine .lead _ (hF) ?_
   |(refine .aw [0,2,3,4,8] hK ?_;clear hK K)
   |(with_reducible refine .done (hK _ ?_);clear hK K)
   |refine J.of rfl ?_
   |(with_reducible refine ak.aE (fun h =>?_) (fun h =>?_) <;>try simp only[h])) <;>try simp only[aH,R,simprocAttr])
  all_goals clear R
  refine ⟨i+1,by omega,by omega,?_⟩
  rw[hs]
  refine aC.bZ ?_ ?_ ?_ ?_ <;>simp[aX,bO,bM,bt,aW,I.only,bB]
 ·have hc:=fD hlt
  have hge:i=l.length:=by omega
  subst hge
  rw[List.take_length]
  have R:=And.intro @hc (And.intro @bh (And.intro @aK @U))
  repeat' ((first
   |(with_reducible refine .guard (fun hb =>?_) (fun hb =>?_) <;>try simp only[hb])
   |refine J.aG (by decide +kernel) rfl fun K hK =>?_
   |(refine .aw [0,2,3,4,8] hK ?_;clear hK K)
   |(with_reducible refine .done (hK _ ?_);clear hK K)
   |refine J.of rfl ?_
   |(with_reducible refine ak.aE (fun h =>?_) (fun h =>?_) <;>try simp only[h])) <;>try simp only[aH,R,simprocAttr])
  all_goals clear R
theorem nt(bs:List aA)(no:Int):(cB bs no=none∧pG bs no=-1)∨∃ i,∃ h:i<bs.length,cB bs no=some bs[i]∧(bs[i]).no=no∧pG bs no=(i:Int):=by
 have e:(fun b:aA=>decide (no=b.no))=fun b:aA=>decide (b.no=no):=by
  funext b;rw[Bool.eq_iff_iff];simp[eq_comm]
 have h1:=sV (bs:=bs) (no:=no)
 rw[List.findIdx?_map] at h1
 have e2:(((fun x=>decide (no=x))∘fun b:aA=>b.no))=fun b:aA=>decide (b.no=no):=e
 rw[e2] at h1
 simp only[pG]
 cases h:bs.findIdx? fun b=>decide (b.no=no) with
 |none=>rw[h] at h1;exact .inl ⟨h1,rfl⟩
 |some i =>
  rw[h] at h1
  obtain ⟨hi,g1,g2⟩:=h1
  exact .inr ⟨i,hi,g1,g2,rfl⟩
def dW(bs:List aA)(x:al):List aA×Bool:=match di fu bs x with
 |some bs'=>(bs',true)
 |none=>(bs,false)
theorem vb(a b c d e f g:Int):eG [.int .i64 0,.int .i64 0,.int .i64 0,.int .i64 0,.int .i64 0,.int .i64 0,.int .i64 0,.bool false,.nils 6] [(0,.int .i64 a),(1,.int .i64 b),(2,.int .i64 c),(3,.int .i64 d),(4,.int .i64 e),(5,.int .i64 f),(6,.int .i64 g)] =
  some [.int .i64 a,.int .i64 b,.int .i64 c,.int .i64 d,.int .i64 e,.int .i64 f,.int .i64 g,.bool false,.nils 6]:=by simp[eG,I.cm,I.size]
theorem XY(aB:Bool)(A:ab)(x:al):bd aB A (.agg [.int .i64 x.c4,.int .i64 x.ec,.int .i64 x.dI,.int .i64 x.b5,.int .i64 x.b5,.int .i64 x.day,.int .i64 (-1),.bool false,.nils 6])=some (enc (fp x)):=by
 simp[bd,bY];rfl
theorem sG{a b:Int}(h:a=b):(a==b)=true:=by simp[h]
theorem gL{a b:Int}(h:¬ a=b):(a==b)=false:=by simp[h]
theorem NB(bs:List aA)(x:al)(hn:bs.length≤99)(hk:x.kind=1∨x.kind=2)(hd:0≤x.dI):av Tryz.prog 132 [enc bs,enc x] (.tuple [enc (dW bs x).1,enc (dW bs x).2]):=by
 have hk3:∀ n:Int,n≠1→n≠2→(x.kind==n)=false:=fun n h1 h2=>gL (by omega)
 have hk0:=hk
 refine av.bn Tryz.func132 ph pk pq (Nat.le_of_ble_eq_true rfl) (fun hwf W0 D0 E1 =>?_)
 simp only[nY,oC,a6,Nat.zero_add]
 clear hwf
 have hF1:=m3 bs x.c4
 have hF2:=m3 bs x.dI
 have hF3:=N2 bs (fp x) (by omega)
 have hfn:=fun (aB:Bool) A=>XY aB A x
 have hg1:decide ((0:Int)≤-1)=false:=rfl
 have hg2:decide ((-1:Int)<0)=true:=rfl
 rcases h1:(x.kind==1) <;>rcases h2:(x.kind==2)
 ·exfalso;simp at h1 h2;omega
 case true.true=>exfalso;simp at h1 h2;omega
 all_goals
  rcases nt bs x.c4 with ⟨g1,e1⟩ | ⟨i,hi,g1,-,e1⟩
  case inr =>
   rw[e1] at hF1
   have ht:dW bs x=(bs,false):=by simp[dW,di,hk,g1]
   rw[ht]
   have R:=And.intro @h1 (And.intro @h2 (And.intro @aK (And.intro @bh (And.intro @cC @U))))
   repeat' ((first
    |(with_reducible refine .guard (fun hb =>?_) (fun hb =>?_) <;>try simp only[hb])
    |refine J.aG (by decide +kernel) rfl fun K hK =>?_
    |refine .flat _ (hF1) rfl ?_
    |(refine .aw [0,1,3,4,5,6,7,8,9,10,22,24,28,62,81,88,89,105,110,121,127,131] hK ?_;clear hK K)
    |(with_reducible refine .done (hK _ ?_);clear hK K)
    |refine J.of rfl ?_
    |(with_reducible refine ak.aE (fun h =>?_) (fun h =>?_) <;>try simp only[h])) <;>try simp only[aH,R,decide_true,Nat.reduceEqDiff,reduceIte,Nat.reduceBEq])
   all_goals clear R
  rw[e1] at hF1
  by_cases hd0:x.dI=0
  ·have hq:(x.dI != 0)=false:=by simp[hd0]
   have ht:dW bs x=(fu bs (fp x),true):=by simp[dW,di,hk,g1,fw,hd0]
   rw[ht]
   have R:=And.intro @h1 (And.intro @h2 (And.intro @hg1 (And.intro @hq (And.intro @hfn (And.intro @vb (And.intro @aK (And.intro @bh (And.intro @cC @U))))))))
   repeat' ((first
    |(with_reducible refine .guard (fun hb =>?_) (fun hb =>?_) <;>try simp only[hb])
    |refine J.aG (by decide +kernel) rfl fun K hK =>?_
    |refine .flat _ (hF1) rfl ?_
    |refine .lead _ (hF3) ?_
    |(refine .aw [0,1,3,4,5,6,7,8,9,10,22,24,28,62,81,88,89,105,110,121,127,131] hK ?_;clear hK K)
    |(with_reducible refine .done (hK _ ?_);clear hK K)
    |refine J.of rfl ?_
    |(with_reducible refine ak.aE (fun h =>?_) (fun h =>?_) <;>try simp only[h])) <;>try simp only[aH,R,Nat.reduceEqDiff,reduceIte,Nat.reduceBEq])
   all_goals clear R
  ·have hq:(x.dI != 0)=true:=by simpa using hd0
   have hq2:¬ x.dI≤0:=by omega
   rcases nt bs x.dI with ⟨g2,e2⟩ | ⟨k,hk2,g2,-,e2⟩
   ·rw[e2] at hF2
    have ht:dW bs x=(bs,false):=by simp[dW,di,hk,g1,fw,g2,hq2]
    rw[ht]
    have R:=And.intro @h1 (And.intro @h2 (And.intro @hg1 (And.intro @hg2 (And.intro @hq (And.intro @aK (And.intro @bh (And.intro @cC @U)))))))
    repeat' ((first
     |(with_reducible refine .guard (fun hb =>?_) (fun hb =>?_) <;>try simp only[hb])
     |refine J.aG (by decide +kernel) rfl fun K hK =>?_
     |refine .flat _ (hF1) rfl ?_
     |refine .flat _ (hF2) rfl ?_
     |(refine .aw [0,1,3,4,5,6,7,8,9,10,22,24,28,62,81,88,89,105,110,121,127,131] hK ?_;clear hK K)
     |(with_reducible refine .done (hK _ ?_);clear hK K)
     |refine J.of rfl ?_
     |(with_reducible refine ak.aE (fun h =>?_) (fun h =>?_) <;>try simp only[h])) <;>try simp only[aH,R,Nat.reduceEqDiff,reduceIte,Nat.reduceBEq])
    all_goals clear R
   ·rw[e2] at hF2
    have hg3:decide ((k:Int)<0)=false:=by simp
    have he:=fun A=>eA (A:=A) 9 hk2 rfl
    rcases q1:((bs[k]).ec != x.ec)
    case true =>
     have ht:dW bs x=(bs,false):=by
      have q1':¬ (bs[k]).ec=x.ec:=by simpa using q1
      simp[dW,di,hk,g1,fw,g2,hq2,q1']
     rw[ht]
     have R:=And.intro @h1 (And.intro @h2 (And.intro @hg1 (And.intro @hg3 (And.intro @hq (And.intro @he (And.intro @q1 (And.intro @aK (And.intro @fI (And.intro @bh (And.intro @cC @U))))))))))
     repeat' ((first
      |(with_reducible refine .guard (fun hb =>?_) (fun hb =>?_) <;>try simp only[hb])
      |refine J.aG (by decide +kernel) rfl fun K hK =>?_
      |refine .flat _ (hF1) rfl ?_
      |refine .flat _ (hF2) rfl ?_
      |(refine .aw [0,1,3,4,5,6,7,8,9,10,22,24,28,62,81,88,89,105,110,121,127,131] hK ?_;clear hK K)
      |(with_reducible refine .done (hK _ ?_);clear hK K)
      |refine J.of rfl ?_
      |(with_reducible refine ak.aE (fun h =>?_) (fun h =>?_) <;>try simp only[h])) <;>try simp only[aH,R,Nat.reduceEqDiff,reduceIte,Nat.reduceBEq])
     all_goals clear R
    have q1':(bs[k]).ec=x.ec:=by simpa using q1
    rcases q2:decide (0≤(bs[k]).dm)
    case false =>
     have ht:dW bs x=(fu bs (fp x),true):=by
      have q2':¬ 0≤(bs[k]).dm:=by simpa using q2
      simp[dW,di,hk,g1,fw,g2,hq2,q1',q2']
     rw[ht]
     have R:=And.intro @h1 (And.intro @h2 (And.intro @hg1 (And.intro @hg3 (And.intro @hq (And.intro @he (And.intro @q1 (And.intro @q2 (And.intro @hfn (And.intro @vb (And.intro @aK (And.intro @fI (And.intro @bh (And.intro @cC @U)))))))))))))
     repeat' ((first
      |(with_reducible refine .guard (fun hb =>?_) (fun hb =>?_) <;>try simp only[hb])
      |refine J.aG (by decide +kernel) rfl fun K hK =>?_
      |refine .flat _ (hF1) rfl ?_
      |refine .flat _ (hF2) rfl ?_
      |refine .lead _ (hF3) ?_
      |(refine .aw [0,1,3,4,5,6,7,8,9,10,22,24,28,62,81,88,89,105,110,121,127,131] hK ?_;clear hK K)
      |(with_reducible refine .done (hK _ ?_);clear hK K)
      |refine J.of rfl ?_
      |(with_reducible refine ak.aE (fun h =>?_) (fun h =>?_) <;>try simp only[h])) <;>try simp only[aH,R,Nat.reduceEqDiff,reduceIte,Nat.reduceBEq])
     all_goals clear R
    have q2':0≤(bs[k]).dm:=by simpa using q2
    rcases q3:decide ((bs[k]).dm<x.day)
    ·have ht:dW bs x=(fu bs (fp x),true):=by
      have q3':¬ (bs[k]).dm<x.day:=by simpa using q3
      simp[dW,di,hk,g1,fw,g2,hq2,q1',q2',q3']
     rw[ht]
     have R:=And.intro @h1 (And.intro @h2 (And.intro @hg1 (And.intro @hg3 (And.intro @hq (And.intro @he (And.intro @q1 (And.intro @q2 (And.intro @q3 (And.intro @hfn (And.intro @vb (And.intro @aK (And.intro @fI (And.intro @bh (And.intro @cC @U))))))))))))))
     repeat' ((first
      |(with_reducible refine .guard (fun hb =>?_) (fun hb =>?_) <;>try simp only[hb])
      |refine J.aG (by decide +kernel) rfl fun K hK =>?_
      |refine .flat _ (hF1) rfl ?_
      |refine .flat _ (hF2) rfl ?_
      |refine .lead _ (hF3) ?_
      |(refine .aw [0,1,3,4,5,6,7,8,9,10,22,24,28,62,81,88,89,105,110,121,127,131] hK ?_;clear hK K)
      |(with_reducible refine .done (hK _ ?_);clear hK K)
      |refine J.of rfl ?_
      |(with_reducible refine ak.aE (fun h =>?_) (fun h =>?_) <;>try simp only[h])) <;>try simp only[aH,R,Nat.reduceEqDiff,reduceIte,Nat.reduceBEq])
     all_goals clear R
    ·have ht:dW bs x=(bs,false):=by
      have q3':(bs[k]).dm<x.day:=by simpa using q3
      simp[dW,di,hk,g1,fw,g2,hq2,q1',q2',q3']
     rw[ht]
     have R:=And.intro @h1 (And.intro @h2 (And.intro @hg1 (And.intro @hg3 (And.intro @hq (And.intro @he (And.intro @q1 (And.intro @q2 (And.intro @q3 (And.intro @aK (And.intro @fI (And.intro @bh (And.intro @cC @U))))))))))))
     repeat' ((first
      |(with_reducible refine .guard (fun hb =>?_) (fun hb =>?_) <;>try simp only[hb])
      |refine J.aG (by decide +kernel) rfl fun K hK =>?_
      |refine .flat _ (hF1) rfl ?_
      |refine .flat _ (hF2) rfl ?_
      |(refine .aw [0,1,3,4,5,6,7,8,9,10,22,24,28,62,81,88,89,105,110,121,127,131] hK ?_;clear hK K)
      |(with_reducible refine .done (hK _ ?_);clear hK K)
      |refine J.of rfl ?_
      |(with_reducible refine ak.aE (fun h =>?_) (fun h =>?_) <;>try simp only[h])) <;>try simp only[aH,R,Nat.reduceEqDiff,reduceIte,Nat.reduceBEq])
     all_goals clear R
end Go.Proofs.YtcldiigclhgafaaGreat
