/-
  A part of the proof that the law RollLetters returns true for every input; five variables of Go's library start as the text lays them (the card ties them); conditions: none beyond the statement's own. (part 4 of 7)
-/
import Derived.Laws.Externs
import Derived.KernelRfl
import Derived.RecoverIn
import Derived.ProofKit
import Derived.SizedLaws
import Derived.Lib.SplitLaws
import Derived.Lib.AtoiAll
import Derived.Lib.ItoaMem
import Derived.Shelf.Strings.Split
import Derived.Shelf.Small.Wraps
import Derived.Shelf.Strconv.ErrVarAll
import Derived.Lib.FieldsP
import Derived.Laws.RangeAny
import Derived.Shelf.Strconv.Itoa3
import Derived.Lib.ItoaLen
import Derived.Shelf.Strings.Prefix
import Derived.Shelf.Strings.Cut
import Derived.Shelf.Small.Strs
import Derived.Shelf.Strconv.Clone
import Derived.Shelf.Strings.FieldsFuncAny
import Derived.WalkKit
import Derived.Tactics
import Derived.Tactics2
import Derived.Deep.MidRow
import Derived.Shelf.Strings.BuilderK
import Derived.BigCall
import Derived.Deep.RegionWith
import Derived.Test.YtoffnnjbplgnaaaGreatDoorNjc
set_option linter.unusedSimpArgs false
set_option linter.unusedVariables false
set_option maxHeartbeats 16000000
set_option maxRecDepth 100000
namespace Go.Abs
open Go Go.RowKit
open Enc (enc)
theorem agO{P:Program}(w:World)(tS tR e:TypeId)(ht:P.underlying tS=some (.slice e))(size:Nat)(hz:∀ w,(Go.sizeOf e).run P w=.ok size w)
  (a b:Addr) (la ca lb cb:Nat) (hne:a.block≠b.block) (tA tB:TypeId) (kA kB:Nat) (hsa:w.shape? a.block=some (tA,kA+1)) (hsb:w.shape? b.block=some (tB,kB+1)) (hfb:w.frozen? b=false) (hfe:w.frozen? { block:=b.block,off:=kB+1 } = false) :
  (Extern.SlicesOverlaps.overlaps #[tS,tS] #[tR] #[.slice (some a) la ca,.slice (some b) lb cb]).run P w=.ok (.bool false) w:=by
 have hnb:(a.block != b.block)=true:=by simpa using hne
 have hnb':(a.block==b.block)=false:=by simpa using hne
 change Sem.run P (α:=Value) (do
  let some t := (#[tS, tS] : Array TypeId)[0]? | stuck "slices.overlaps: no parameter types"
  let .slice elem ← underlying t | stuck "slices.overlaps: slice type expected"
  let size ←sizeOf elem
  match (some a:Option Addr),(some b:Option Addr) with
  |some a,some b =>
   if la=0∨lb=0∨size=0 then pure (Value.bool false)
   else if a.block != b.block&&(←frozen a)&&(←frozen b) then unsupported .addressObserved
   else do
    if a.block != b.block then do
     noView a;noView b
     if ← mayBeOne a b then return Value.bool ((← choose (.extern "sameAddr.stringBytes" 2)) == 1)
    pure (Value.bool (a.block==b.block&&a.off<b.off+lb*size&&b.off<a.off+la*size))
  |_,_=>pure (Value.bool false)) w=_
 by_cases h0:la=0∨lb=0∨size=0
 ·simp[run_underlying ht,hz,h0]
 ·cases hfa:w.frozen? a <;>cases hfk:w.frozen? { block:=a.block,off:=kA+1 } <;>
   simp[run_underlying ht,hz,h0,hnb,hnb',frozen,noView,viewAt,mayBeOne,stringish,shape,Sem.run,hsa,hsb,hfa,hfb,hfe,hfk]
theorem I0{P:Program}(w:World)(tS tR e:TypeId)(ht:P.underlying tS=some (.slice e))(size:Nat)(hz:∀ w,(Go.sizeOf e).run P w=.ok size w)(a:Option Addr)(b:Addr)(ca lb cb:Nat) :
  (Extern.SlicesOverlaps.overlaps #[tS,tS] #[tR] #[.slice a 0 ca,.slice (some b) lb cb]).run P w=.ok (.bool false) w:=by
 cases a with
 |none =>
  change Sem.run P (α:=Value) (do
   let some t := (#[tS, tS] : Array TypeId)[0]? | stuck "slices.overlaps: no parameter types"
   let .slice elem ← underlying t | stuck "slices.overlaps: slice type expected"
   let size ←sizeOf elem
   pure (Value.bool false)) w=_
  simp[run_underlying ht,hz]
 |some a =>
  change Sem.run P (α:=Value) (do
   let some t := (#[tS, tS] : Array TypeId)[0]? | stuck "slices.overlaps: no parameter types"
   let .slice elem ← underlying t | stuck "slices.overlaps: slice type expected"
   let size ←sizeOf elem
   if (0:Nat)=0∨lb=0∨size=0 then pure (Value.bool false)
   else if a.block != b.block&&(←frozen a)&&(←frozen b) then unsupported .addressObserved
   else do
    if a.block != b.block then do
     noView a;noView b
     if ← mayBeOne a b then return Value.bool ((← choose (.extern "sameAddr.stringBytes" 2)) == 1)
    pure (Value.bool (a.block==b.block&&a.off<b.off+lb*size&&b.off<a.off+0*size))) w=_
  simp[run_underlying ht,hz]
theorem ag5{w:World}{b o:Nat}{v:Value}(h:w.cell? ⟨b,o,none⟩=some v):∃ t k,w.shape? b=some (t,k+1):=by
 simp only[World.cell?] at h;cases hb:w.heap[b]? with
 |none=>rw[hb] at h;cases h
 |some ob =>
  rw[hb] at h;cases ob with
  |cells cs T cH =>
   simp only at h;have hlt:o<cs.size:=(zy8.1 (by simpa using h)).1;exact ⟨T,cs.size-1,by simp only[World.shape?,hb];congr 2;omega⟩
  |_=>cases h
theorem EA{α:Type}[Enc α]{xs:List α}(h:xs≠[])(hs:(Enc.aN α).Fy=false):(I.agg (xs.map Enc.enc)).aN.flat=false:=by
 cases xs with
 |nil=>exact absurd rfl h
 |cons x xs=>simp only[zz9,I.aN,I.cB,cg.flat,List.all_cons,Enc.iI,hs,Bool.false_and]
theorem ahT {P : Program} {f : FuncId} {fn : Func} {tS tR e : TypeId} (hf : P.funcs[f]? = some fn) (hname : (fn.name == "runtime.NumGoroutine") = false) (hb : fn.body.isNone = true) (hn : Extern.findNext fn = none) (he : Extern.find fn = some (Extern.SlicesOverlaps.overlaps #[tS, tS] #[tR]))
  (ht:P.underlying tS=some (.slice e)) (hi:(P.info? e).isSome=true) {A:af} {n sz sz' lo k:Nat} {p:List Nat} {y:I} {es fs:List I} (hA:A.o n=some (.box y)) (hat:y.at p=some (.agg fs)) (hy:y.size≠0) (hsz:sz'≠0) (hfl:y.aN.flat=false):BA P A f [.slice sz' es,.view n p sz lo k] (.bool false):=by
 intro c a w D E vs hP hs hargs;subst hP;obtain ⟨i,hi⟩:=zx3.1 hi;have hz:∀ w,(Go.sizeOf e).run c.P w=.ok i.size w:=fun w=>by simp[sizeOf,typeInfo,hi]
 cases hargs with
 |cons h1 hrest =>
  cases hrest with
  |cons h2 hnil =>
   cases hnil;rename_i v1 v2;refine ⟨.bool false,?_,mz false⟩;rw[run_callFunc_extern hf hname hb hn he];obtain ⟨ad,cap,rfl,c1,c2,c3,c4⟩:=mL h1;obtain ⟨y',b,cs,T,off,d1,d2,d3,q1,q2,q3,q4,q5,q6,q7,q8,q9,q10,q11,q12,rfl⟩:=hs.view (fs:=fs) h2 (by simp only[ct,hA,hat]);rw[hA] at q1;simp only[v6,al.box.injEq] at q1;subst q1;rcases c3 with rfl | ⟨b1,off1,cs1,rfl,r1,ja⟩
   ·rw[zv1,I0 w tS tR e ht i.size hz];rfl
   ·cases es with
    |nil=>rw[zv1,I0 w tS tR e ht i.size hz];rfl
    |cons e0 es =>
     have hl:=aK.length _ _ ja;have he0:=c4 e0 (by simp);have hpos:0<cs1.length:=by rw[hl];simp only[I.sizes];omega
     have hc:=r1 0 cs1[0] (zz5 hpos);obtain ⟨tA,kA,hsa⟩:=ag5 hc.1;have ho:=hs.bG n;rw[hA] at ho;obtain ⟨b',cs',T',k1,k2,k3,k4,k5⟩:=ho;rw[q2] at k1;simp only[v6,bL.aG.injEq,and_true] at k1;subst k1;have hne:b1≠b:=fun e1=>k5 _ (e1▸hc.2);have hcs:cs.size≠0:=by
      have:=ai.length _ _ q9;rw[zw5] at this;omega
     replace q3:=q3.plain hfl
     obtain ⟨kB,hkB⟩:∃ kB,cs.size=kB+1:=⟨cs.size-1,by omega⟩
     rw[agO w tS tR e ht i.size hz ⟨b1,off1,none⟩ ⟨b,off+lo*sz,none⟩ _ _ _ _ hne tA T kA kB hsa (by simp only[World.shape?,q3,hkB]) (by simp[World.frozen?,q3]) (by simp[World.frozen?,q3])];rfl
noncomputable def xq(A:af)(d:Option Nat)(esz bytes:Nat)(z s:I)(rest:List aF):I→cD
 | .int _ m=>sa A d esz bytes z m.toNat s (du A esz s) (au rest)
 |_=>.fail
theorem aeJ(A:af)(d:Option Nat)(rest:List aF)(e esz bytes:Nat)(z:I)(s n:aJ):bx A d (.ln e esz bytes z s n) rest=xq A d esz bytes z (aj A s) rest (aj A n):=by
 simp only[bx,aX];cases aj A n <;>rfl
theorem afk(A:af)(d:Option Nat)(rest:List aF)(f:FuncId)(args:List aJ):bx A d (.jf f args) rest=.jf f (args.map (aj A)) d rest A:=rfl
def uC(A:af):I→Option I
 | .nils _ | .c0 _=>some (.int .i64 ((0:Nat):Int))
 | .view n p _ lo _=>match eC (dM p (A.o n)) with
  |some fs=>some (.int .i64 ((fs.length-lo:Nat):Int))
  |none=>none
 |_=>none
theorem aeQ(A:af)(d:Option Nat)(rest:List aF)(x:aJ):bx A d (.cap x) rest=cL (uC A (aj A x)) (c6 d rest A):=by
 simp only[bx,aX,bf];cases aj A x <;>try rfl
 rename_i n p sz l0 k;simp only[uC,ly,gJ];cases dM p (A.o n) with
 |none=>rfl
 |some c=>cases c <;>rfl
theorem oB(A:af)(d:Option Nat)(rest:List aF)(esz:Nat)(x y:aJ):bx A d (.iz esz x y) rest=mh A d esz (au rest) (aj A x) (lU A esz (aj A y)):=rfl
section
variable {α:Type} [Enc α] {P:Program} {Y:Value→List I→List (Nat×al)→cv→Prop} {K:af→Prop} {A:af} {rest:List aF} {esz bytes:Nat}
theorem NN{n lo k sz:Nat}{xs:List α}(ho:A.o n=some (.box (.agg (xs.map enc)))):uC A (.view n [] sz lo k)=some (.int .i64 ((xs.length-lo:Nat):Int)):=by
 have h2:(I.agg (xs.map (enc (α:=α)))).at []=some (.agg (xs.map enc)):=rfl;simp only[uC,dM,ho,h2,eC,I.dC,zz3]
theorem pU{n lo k:Nat}{xs:List α}(ho:A.o n=some (.box (.agg (xs.map enc))))(h:lo+k≤xs.length):du A esz (.view n [] esz lo k)=some (((xs.drop lo).take k).map enc):=by
 have h1:ct A (.ptr n [])=some (.agg (xs.map enc)):=by simp only[ct,ho];rfl
 simp only[du,h1,zz3];rw[if_pos ⟨h,trivial⟩,List.map_take,List.map_drop]
theorem Ar{xs ys:List α}(h:xs.length=ys.length):I.cB (xs.map enc)=I.cB (ys.map enc):=by
 rw[rH,rH,h]
theorem qx{d:Option Nat}{n lo l c:Nat}{xs ys:List α}(ho:A.o n=some (.box (.agg (xs.map enc))))(hl:lo+l≤xs.length)(hc:min ys.length l=c) :
  mh A d esz (au rest) (.view n [] esz lo l) (some (ys.map enc))=au rest ((A.aM n (.box (.agg ((xs.take lo++(ys.take c++xs.drop (lo+c))).map enc)))).aR d (.int .i64 (c:Nat))):=by
 have h2:(I.agg (xs.map (enc (α:=α)))).at []=some (.agg (xs.map enc)):=rfl;have h1:I.cB ((ys.map (enc (α:=α))).take c)=I.cB (((xs.map (enc (α:=α))).drop lo).take c):=by
  rw[←List.map_take,←List.map_drop,←List.map_take];exact Ar (by rw[zz6,zz6,zv3];omega)
 have hc':min (ys.map (enc (α:=α))).length l=c:=by rw[zz3];exact hc
 simp only[mh,ho,h2,hc'];rw[if_pos ⟨rfl,by rw[hc'];exact h1⟩];have h3:((ys.map (enc (α:=α))).take c).length=c:=by rw[zz6,zz3];omega
 simp only[jd,ez,h3,zw3,List.map_take,List.map_drop]
theorem aY.Lo{d:Nat}(z:α)(hs:Enc.sz α=esz){n l m:Nat}{xs:List α}(ho:A.o n=some (.box (.agg (xs.map enc))))(hl:l≤xs.length)(hm:0<m)(hr:xs.length<l+m)(hf:A.o d=none)(hb:(l+m)*bytes≤140737488355328)(hml:l+m≤maxLen)
  (h:∀ q,aY P Y false K (au rest ((A.aM d (.box (.agg ((xs.take l++(List.replicate m z++List.replicate q z)).map enc)))).aR (some d) (.view d [] esz 0 (l+m))))):aY P Y false K (xq A (some d) esz bytes (enc z) (.view n [] esz 0 l) rest (.int .i64 (m:Nat))):=by
 have h1:=pU (A:=A) (esz:=esz) (lo:=0) (k:=l) ho (by omega);have h2:(I.agg (xs.map (enc (α:=α)))).at []=some (.agg (xs.map enc)):=rfl;have h4:(xs.take l).length=l:=by rw[zz6];omega
 simp only[xq,h1,List.drop_zero,sa,ho,h2,zz3,zw8];rw[if_pos ⟨hm,by omega⟩];simp only[fE,hf,zz3,h4,List.length_replicate];rw[if_pos ⟨hb,hml⟩];refine .any rfl fun q _ =>?_;have:=h q;simp only[zw3,List.map_replicate] at this;exact this
theorem BI{d:Option Nat}{e:Nat}(z:I)(hs:Enc.sz α=esz){n l:Nat}{xs ys:List α}(hy:ys≠[])(ho:A.o n=some (.box (.agg (xs.map enc))))(hr:l+ys.length≤xs.length) :
  eT A d e esz bytes z (enc ys) rest (.view n [] esz 0 l)=au rest ((A.aM n (.box (.agg ((xs.take l++(ys++xs.drop (l+ys.length))).map enc)))).aR d (.view n [] esz 0 (l+ys.length))):=by
 have h1:=pU (A:=A) (esz:=esz) (lo:=0) (k:=l) ho (by omega);have h2:(I.agg (xs.map (enc (α:=α)))).at []=some (.agg (xs.map enc)):=rfl;have h3:I.cB (ys.map (enc (α:=α)))=I.cB (((xs.map (enc (α:=α))).drop l).take ys.length):=by
  rw[←List.map_drop,←List.map_take];exact Ar (by rw[zz6,zv3];omega)
 simp only[eT,h1,jR A esz ys hs,eI];rw[if_neg (by simpa using hy)];simp only[ho,h2,zz3,zz4];rw[if_pos hr,if_pos ⟨rfl,by rw[zz3,zz4];exact h3⟩];simp only[jd,ez,zz3,zw3,List.map_take,List.map_drop]
theorem aY.Le{d e:Nat}(z:α)(hs:Enc.sz α=esz){n l:Nat}{xs ys:List α}(hy:ys≠[])(ho:A.o n=some (.box (.agg (xs.map enc))))(hl:l≤xs.length)(hr:xs.length<l+ys.length)(hf:A.o d=none)(hb:(l+ys.length)*bytes≤140737488355328)(hml:l+ys.length≤maxLen)
  (h:∀ q,aY P Y false K (au rest ((A.aM d (.box (.agg ((xs.take l++(ys++List.replicate q z)).map enc)))).aR (some d) (.view d [] esz 0 (l+ys.length))))):aY P Y false K (eT A (some d) e esz bytes (enc z) (enc ys) rest (.view n [] esz 0 l)):=by
 have h1:=pU (A:=A) (esz:=esz) (lo:=0) (k:=l) ho (by omega);have h2:(I.agg (xs.map (enc (α:=α)))).at []=some (.agg (xs.map enc)):=rfl;have h4:(xs.take l).length=l:=by rw[zz6];omega
 simp only[eT,h1,List.drop_zero,jR A esz ys hs,eI];rw[if_neg (by simpa using hy)];simp only[ho,h2,zz3,zz4];rw[if_neg (by omega)];simp only[fE,hf,zz3,h4];rw[if_pos ⟨hb,hml⟩];refine .any rfl fun q _ =>?_;have:=h q;simp only[zw3,List.map_replicate] at this;exact this
theorem aY.Lf{d e q0:Nat}(z:α){l:List α}(hs:Enc.sz α=esz)(hl:l≠[])(hf:A.o d=none)(hb:l.length*bytes≤140737488355328)(hml:l.length≤maxLen)
  (h:∀ m,aY P Y false K (au rest ((A.aM d (.box (.agg ((l++List.replicate m z).map enc)))).aR (some d) (.view d [] esz 0 l.length)))):aY P Y false K (eT A (some d) e esz bytes (enc z) (enc l) rest (.nils q0)):=by
 have hne:l.map (enc (α:=α))≠[]:=by simpa using hl
 have h1:du A esz (.nils q0)=some []:=rfl;simp only[eT,h1,jR A esz l hs,eI,if_neg hne,fE,hf,zv1,zz4,zz3,if_pos (y6 hb hml),zy3];refine .any rfl fun m _ =>?_;have:=h m;simp only[zw3,List.map_replicate] at this;exact this
end
theorem aha{n:Nat}{p:List Nat}{sz k total i:Nat}(h:i≤k)(hk:k≤total):∃ y,ka n p sz 0 k total (some (.int .i64 i)) none none=some y:=by
 simp only[ka,jj];rw[if_pos ⟨by omega,by omega,by omega⟩];split <;>exact ⟨_,rfl⟩
theorem kp(k:Nat):cE [] k=.dv:=rfl
def iC(ao:List Nat):List (Nat×I)→List (Nat×I)
 | []=>[]
 |(s,v)::ts=>if ao.contains s=true then (s,v)::iC ao ts else iC ao ts
theorem adC(ao:List Nat):iC ao []=[]:=rfl
theorem adB(ao:List Nat)(s:Nat)(v:I)(ts:List (Nat×I)):iC ao ((s,v)::ts)=if ao.contains s=true then (s,v)::iC ao ts else iC ao ts:=rfl
theorem F6(ao:List Nat)(t:Nat):∀ ts,cE (iC ao ts) t=.dv∨cE (iC ao ts) t=cE ts t
 | []=>.inl rfl
 |(s,v)::ts=>by
  simp only[iC];have ih:=F6 ao t ts;by_cases hs:ao.contains s=true
  ·rw[if_pos hs];simp only[cE];split
   ·exact .inr rfl
   ·exact ih
  ·rw[if_neg hs];simp only[cE];split
   ·rename_i e;subst e
    left
    have:∀ ts,cE (iC ao ts) t=.dv:=by
     intro ts
     induction ts with
     |nil=>rfl
     |cons q ts ih2 =>
      obtain ⟨s',v'⟩:=q;simp only[iC];split
      ·rename_i h';simp only[cE];have:t≠s':=fun e=>hs (e▸h');rw[if_neg this];exact ih2
      ·exact ih2
    exact this ts
   ·exact ih
theorem ab.sS(ao:List Nat){c:cP}{x:bn}{Q:Exit→af→Prop}{ts:List (Nat×I)}{os:List (Nat×al)}(h:ab c x Q (aC (iC ao ts) os)):ab c x Q (aC ts os):=by
 refine ab.sub ?_ h;rintro cc a w ⟨D,E,hs⟩;refine ⟨D,E,hs.sz,hs.fg,fun t =>?_,hs.dX,hs.df,hs.dy,hs.bG,hs.cV,hs.ev,hs.fu,hs.cR,hs.fO,hs.gq⟩;simp only[aC];rcases F6 ao t ts with e | e
 ·rw[e];simp[aV]
 ·rw[e];exact hs.eG t
theorem FD:(∀ ao,iC ao []=[])∧(∀ ao s v ts,iC ao ((s,v)::ts)=if ao.contains s=true then (s,v)::iC ao ts else iC ao ts)∧(∀ (a:Nat) l b,(a::l).contains b=(b==a||l.contains b))∧(∀ b:Nat,([]:List Nat).contains b=false)∧(∀ b,(false||b)=b)∧(∀ b,(true||b)=true)∧(∀ b,(b||true)=true)∧(∀ b,(b||false)=b)∧((false=true)=False) :=
 ⟨adC,adB,fun _ _ _=>List.contains_cons,fun _=>rfl,fun _=>rfl,fun _=>rfl,fun b=>by cases b <;>rfl,fun b=>by cases b <;>rfl,by simp⟩
end Go.Abs
namespace Go.Abs
open Go Go.RowKit
open Enc (enc)
def zg:Option al→Option (List I×List I)
 |some (.cI ks vs)=>some (ks,vs)
 |_=>none
noncomputable def zp(A:af)(n:Nat)(rest:List aF):Option (List I×List I)→cD
 |some (ks,vs)=>au rest (A.aM n (.cI ks vs))
 |none=>.fail
noncomputable def zo(A:af)(n:Nat)(ty:cK)(k v:I)(rest:List aF):Option al→cD
 |some (.cI ks vs)=>zp A n rest (s9 ty k v ks vs)
 |_=>.fail
noncomputable def zn(A:af)(ty:cK)(k v:I)(rest:List aF):I→cD
 | .mref n=>zo A n ty k v rest (A.o n)
 |_=>.fail
noncomputable def zm(A:af)(d:Nat)(rest:List aF):Option al→cD
 |none=>au rest ((A.aM d (.cI [] [])).put d (.mref d))
 |some _=>.fail
open Classical in
noncomputable def vN(A:af)(d bytes:Nat)(z:I)(rest:List aF):I→cD
 | .int _ n=>if 0≤n∧n.toNat*bytes≤281474976710656∧n.toNat≤maxLen then au rest ((A.aM d (.box (.agg (List.replicate n.toNat z)))).put d (.view d [] 1 0 n.toNat)) else .fail
 |_=>.fail
noncomputable def vM(A:af)(d bytes:Nat)(z n:I)(rest:List aF):Option al→cD
 |none=>vN A d bytes z rest n
 |some _=>.fail
noncomputable def Ab(A:af)(d:Nat)(rest:List aF):I→cD
 | .dA ks vs=>au rest ((A.aM d (.it ks vs (List.range ks.length) none)).put d (.dx d))
 |_=>.fail
noncomputable def wB(A:af)(d:Nat)(x:I)(rest:List aF):Option al→cD
 |none=>Ab A d rest x
 |some _=>.fail
def yc:Option al→Option I
 |some (.it ks vs _ cur)=>uQ ks vs cur
 |_=>none
def yb(A:af):I→Option I
 | .dx n=>yc (A.o n)
 |_=>none
open Classical in
noncomputable def Gn(A:af)(d:Option Nat)(n:Nat)(rest:List aF):Option al→cD
 |some (.it ks vs left _)=>if left=[] then au rest (A.aR d (.tuple [.bool false])) else
   .any (fun i=>i∈left) fun i=>match ks[i]?,vs[i]? with
    |some kk,some x=>au rest ((A.aM n (.it ks vs (left.filter (· != i)) (some i))).aR d (.tuple [.bool true,kk,x]))
    |_,_=>.fail
 |_=>.fail
noncomputable def zr(A:af)(d:Option Nat)(rest:List aF):I→cD
 | .dx n=>Gn A d n rest (A.o n)
 |_=>.fail
section
variable (d:Option Nat) (rest:List aF) (A:af)
theorem afa(x:aJ):bx A d (.nilC x) rest=cL (pw (aj A x)) (c6 d rest A):=rfl
theorem afe(neg:Bool)(x y:aJ):bx A d (.ptrE neg x y) rest=cL (oI neg (jF (aj A x)) (jF (aj A y))) (c6 d rest A):=rfl
theorem ae4(ty:cK)(z:I)(ok:Bool)(m k:aJ):bx A d (.lk ty z ok m k) rest=cL (sX ty z ok (aj A k) (ib A (aj A m))) (c6 d rest A):=rfl
theorem aef(n:Nat):ib A (.mref n)=zg (A.o n):=by
 simp only[ib];cases A.o n with
 |none=>rfl
 |some y=>cases y <;>rfl
theorem ae8(ty:cK)(m k v:aJ):bx A none (.lK ty m k v) rest=zn A ty (aj A k) (aj A v) rest (aj A m):=by
 simp only[bx,aX];cases aj A m <;>rfl
theorem ae6(d:Nat):bx A (some d) .mA rest=zm A d rest (A.o d):=by
 simp only[bx,aX];cases A.o d <;>rfl
theorem ae7(d e bytes:Nat)(z:I)(n:aJ):bx A (some d) (.kX e bytes z n) rest=vM A d bytes z (aj A n) rest (A.o d):=by
 simp only[bx,aX];cases A.o d with
 |some _=>rfl
 |none=>simp only[vM];cases aj A n <;>rfl
theorem aff(d:Nat)(x:aJ):bx A (some d) (.lS x) rest=wB A d (aj A x) rest (A.o d):=by
 simp only[bx,aX];cases A.o d with
 |some _=>rfl
 |none=>simp only[wB];cases aj A x <;>rfl
theorem aeT(x:aJ):bx A d (.ent x) rest=cL (yb A (aj A x)) (c6 d rest A):=by
 simp only[bx,aX,bf];cases aj A x <;>rfl
theorem afc(x:aJ):bx A d (.lL x) rest=zr A d rest (aj A x):=by
 simp only[bx,aX];cases aj A x <;>rfl
end
theorem fI :
  (∀ d rest A x,bx A d (.nilC x) rest=cL (pw (aj A x)) (c6 d rest A))∧(∀ n p,pw (.ptr n p)=some (.ptr n p))∧(∀ x,pw (.ref x)=some (.ref x)) ∧
  (∀ d rest A neg x y,bx A d (.ptrE neg x y) rest=cL (oI neg (jF (aj A x)) (jF (aj A y))) (c6 d rest A))∧(jF .nilp=some true)∧(∀ n p,jF (.ptr n p)=some false)∧(∀ x,jF (.ref x)=some false) ∧
  (oI false (some true) (some true)=some (.bool true))∧(oI false (some false) (some true)=some (.bool false))∧(oI true (some true) (some true)=some (.bool false))∧(oI true (some false) (some true)=some (.bool true)) ∧
  (∀ d rest A ty z ok m k,bx A d (.lk ty z ok m k) rest=cL (sX ty z ok (aj A k) (ib A (aj A m))) (c6 d rest A))∧(∀ A n,ib A (.mref n)=zg (A.o n))∧(∀ A ks vs,ib A (.dA ks vs)=some (ks,vs))∧(∀ ks vs,zg (some (.cI ks vs))=some (ks,vs)) ∧
  (∀ ty z ok k ks vs,sX ty z ok k (some (ks,vs))=sY ok (sZ ty z k ks vs))∧(∀ v b,sY false (some (v,b))=some v)∧(∀ v b,sY true (some (v,b))=some (.tuple [v,.bool b])) ∧
  (∀ rest A ty m k v,bx A none (.lK ty m k v) rest=zn A ty (aj A k) (aj A v) rest (aj A m))∧(∀ A ty k v rest n,zn A ty k v rest (.mref n)=zo A n ty k v rest (A.o n))∧(∀ A n ty k v rest ks vs,zo A n ty k v rest (some (.cI ks vs))=zp A n rest (s9 ty k v ks vs)) ∧
  (∀ A n rest ks vs,zp A n rest (some (ks,vs))=au rest (A.aM n (.cI ks vs))) ∧
  (∀ rest A d,bx A (some d) .mA rest=zm A d rest (A.o d))∧(∀ A d rest,zm A d rest none=au rest ((A.aM d (.cI [] [])).put d (.mref d))) ∧
  (∀ rest A d e bytes z n,bx A (some d) (.kX e bytes z n) rest=vM A d bytes z (aj A n) rest (A.o d))∧(∀ A d bytes z n rest,vM A d bytes z n rest none=vN A d bytes z rest n) ∧
  (∀ rest A d x,bx A (some d) (.lS x) rest=wB A d (aj A x) rest (A.o d))∧(∀ A d x rest,wB A d x rest none=Ab A d rest x)∧(∀ A d rest ks vs,Ab A d rest (.dA ks vs)=au rest ((A.aM d (.it ks vs (List.range ks.length) none)).put d (.dx d))) ∧
  (∀ d rest A x,bx A d (.ent x) rest=cL (yb A (aj A x)) (c6 d rest A))∧(∀ A n,yb A (.dx n)=yc (A.o n))∧(∀ ks vs l cur,yc (some (.it ks vs l cur))=uQ ks vs cur) ∧
  (∀ d rest A x,bx A d (.lL x) rest=zr A d rest (aj A x))∧(∀ A d rest n,zr A d rest (.dx n)=Gn A d n rest (A.o n)) :=
 ⟨afa,fun _ _=>rfl,fun _=>rfl,afe,rfl,fun _ _=>rfl,fun _=>rfl,rfl,rfl,rfl,rfl,ae4,aef,fun _ _ _=>rfl,fun _ _=>rfl,fun _ _ _ _ _ _=>rfl,fun _ _=>rfl,fun _ _=>rfl,
  fun rest A ty m k v=>ae8 rest A ty m k v,fun _ _ _ _ _ _=>rfl,fun _ _ _ _ _ _ _ _=>rfl,fun _ _ _ _ _=>rfl,fun rest A d=>ae6 rest A d,fun _ _ _=>rfl,fun rest A d e bytes z n=>ae7 rest A d e bytes z n,fun _ _ _ _ _ _=>rfl,
  fun rest A d x=>aff rest A d x,fun _ _ _ _=>rfl,fun _ _ _ _ _=>rfl,aeT,fun _ _=>rfl,fun _ _ _ _=>rfl,afc,fun _ _ _ _=>rfl⟩
theorem fp:(∀ n p z lo k,bS none (.view n p z lo k)=true)∧(∀ n,bS none (.mref n)=true)∧(∀ n p,bS none (.ptr n p)=true)∧(∀ x,bS none (.ref x)=true)∧bS none .nilp=true∧bS none .dO=true∧bS none (.raw (.map none))=true∧(∀ ks vs,bS none (.dA ks vs)=true)∧(∀ {α:Type} [Enc α] (l:List α),bS none (enc l)=true) :=
 ⟨fun _ _ _ _ _=>rfl,fun _=>rfl,fun _ _=>rfl,fun _=>rfl,rfl,rfl,rfl,fun _ _=>rfl,fun l=>by simp[DW,R5]⟩
theorem vO{A:af}{d bytes:Nat}{z:I}{rest:List aF}{n:Nat}(h1:n*bytes≤281474976710656)(h2:n≤maxLen):vN A d bytes z rest (.int .i64 n)=au rest ((A.aM d (.box (.agg (List.replicate n z)))).put d (.view d [] 1 0 n)):=by
 simp only[vN,zw8];rw[if_pos ⟨Int.natCast_nonneg n,h1,h2⟩]
section
variable {α:Type} [Enc α]
theorem BO{xs:List α}{i:Nat}(d:α)(h:i<xs.length):iv i [] (some (xs.map enc))=some (enc (xs.getD i d)):=by
 simp[iv,od,h,I.at,zz2]
theorem ahk{A:af}{n i:Nat}{xs:List α}(v u:α){rest:List aF}(hA:Enc.gA α=false)(h:i<xs.length):de A none n [i] (.agg (xs.map enc)) (enc v) rest (some (enc u))=au rest (A.aM n (.box (.agg ((xs.set i v).map enc)))):=by
 rw[dS (dH v) (by rw[DW,hA];rfl) ((cM v).trans (cM u).symm)];have h2:(xs.map (enc (α:=α)))[i]?=some (enc (xs[i])):=by simp[h]
 simp only[I.dR,h2,List.map_set]
end
theorem FB{m sz lo l i:Nat}{fs:List I}(h:i<l):mw m [] sz lo l sz (i:Int) (some fs)=some (.ptr m [lo+i]):=by rw[adu h];rfl
theorem qq:(∀ {α:Type} [Enc α] (x:α),(enc x).bF=true)∧(∀ n p z lo k,(I.view n p z lo k).bF=false)∧(∀ n,(I.mref n).bF=false)∧(∀ n p,(I.ptr n p).bF=false)∧(∀ n k,(I.own n k).bF=false) :=
 ⟨@iR,fun _ _ _ _ _=>rfl,fun _=>rfl,fun _ _=>rfl,fun _ _=>rfl⟩
end Go.Abs
namespace Go.Abs
open Go Go.RowKit
def uD(on:List (List Nat)):List Nat:=on.foldl (fun acc ks=>acc++[p6 acc ks]) []
def xY(d:Option (List (List Nat)))(gs:List aF):Bool:=match d with
 |none=>true
 |some on=>uN on gs (uD on)
section
variable {c:cP} {Q:Exit→af→Prop} {A:af} {d:Option (List (List Nat))} {on:List (List Nat)} {gs:List aF}
theorem ab.js(hd:xY d gs=true)(h:∀ K:af→Prop,(∀ B,Q .normal B→K B)→aY c.P c.Y d.isSome K (au gs A)):ab c (.b9 d gs) Q A:=by
 cases d with
 |none=>exact ab.b9 (cl:=[]) rfl h
 |some on=>exact ab.b9 (cl:=uD on) hd h
theorem ab.ew{y:bn}(hd:xY d gs=true)(h:∀ K:af→Prop,(∀ B,ab c y Q B→K B)→aY c.P c.Y d.isSome K (au gs A)):ab c (.seq (.b9 d gs) y) Q A :=
 ab.seq (ab.js hd h)
theorem ab.ik(hs:List FuncId)(ao:eH)(σ:List Nat)(hd:wb hs ao on gs (uD on) σ=true)(hi:dB ao A)(h:∀ K:af→Prop,(∀ B,Q .normal B→K B)→bQ c.P c.Y hs K (au (gE σ gs) A)):ab c (.b9 (some on) gs) Q A :=
 ab.agl hs ao (uD on) σ hd hi h
def gX(c:cP):bn→(Exit→af→Prop)→af→Prop
 | .seq x y,Q,A=>gX c x (di (fun B=>ab c y Q B) Q) A
 | .block id x,Q,A=>gX c x (mc id Q) A
 | .skip,Q,A=>Q .normal A
 | .exit id,Q,A=>Q (.exit id) A
 | .ret,Q,A=>Q .ret A
 | .cond b x y,Q,A=>ar (aj A b) (ab c x Q A) (ab c y Q A)
 |x,Q,A=>ab c x Q A
def ads:bn→Bool
 | .seq _ _ | .block _ _ | .skip | .exit _ | .ret | .cond _ _ _=>true
 |_=>false
theorem gX.xu:∀ (x:bn) {Q:Exit→af→Prop} {A:af},gX c x Q A→ab c x Q A
 | .seq x y,_,_,h=>ab.seq (gX.xu x h)
 | .block id x,_,_,h=>ab.block (gX.xu x h)
 | .skip,_,_,h=>ab.skip h
 | .exit _,_,_,h=>ab.exit h
 | .ret,_,_,h=>ab.ret h
 | .cond _ _ _,_,_,h=>ab.iT h
 | .b9 _ _,_,_,h | .loop _,_,_,h | .scope _,_,_,h | .label,_,_,h | .sg,_,_,h | .pM _ _ _ _,_,_,h=>h
theorem ab.of{x:bn}(_:ads x=true)(h:gX c x Q A):ab c x Q A:=gX.xu x h
theorem aB :
  (∀ c x y Q A,gX c (.seq x y) Q A=gX c x (di (fun B=>ab c y Q B) Q) A)∧(∀ c id x Q A,gX c (.block id x) Q A=gX c x (mc id Q) A)∧(∀ c Q A,gX c .skip Q A=Q .normal A)∧(∀ c id Q A,gX c (.exit id) Q A=Q (.exit id) A)∧(∀ c Q A,gX c .ret Q A=Q .ret A) ∧
  (∀ c b x y Q A,gX c (.cond b x y) Q A=ar (aj A b) (ab c x Q A) (ab c y Q A))∧(∀ c d gs Q A,gX c (.b9 d gs) Q A=ab c (.b9 d gs) Q A)∧(∀ c x Q A,gX c (.loop x) Q A=ab c (.loop x) Q A)∧(∀ c f ps x y Q A,gX c (.pM f ps x y) Q A=ab c (.pM f ps x y) Q A) ∧
  (∀ k Q A,di k Q .normal A=k A)∧(∀ k Q A,di k Q .ret A=Q .ret A)∧(∀ k Q A i,di k Q (.exit i) A=Q (.exit i) A)∧(∀ i Q A,mc i Q .normal A=Q .normal A)∧(∀ i Q A,mc i Q .ret A=Q .ret A)∧(∀ i Q A j,mc i Q (.exit j) A=if j=i then Q .normal A else Q (.exit j) A) ∧
  (∀ p q,ar (.bool true) p q=p)∧(∀ p q,ar (.bool false) p q=q)∧(type_of% @FD) :=
 ⟨fun _ _ _ _ _=>rfl,fun _ _ _ _ _=>rfl,fun _ _ _=>rfl,fun _ _ _ _=>rfl,fun _ _ _=>rfl,fun _ _ _ _ _ _=>rfl,fun _ _ _ _ _=>rfl,fun _ _ _ _=>rfl,fun _ _ _ _ _ _ _=>rfl,fun _ _ _=>rfl,fun _ _ _=>rfl,fun _ _ _ _=>rfl,fun _ _ _=>rfl,fun _ _ _=>rfl,fun _ _ _ _=>rfl,
  fun p q=>by simp[ar],fun p q=>by simp[ar],FD⟩
theorem ar.az{t:Bool}{p q:Prop}(h1:t=true→p)(h2:t=false→q):ar (.bool t) p q:=⟨h1,h2⟩
theorem ab.aA{g:aF}{r:List aF}(hd:xY d gs=true)(e:gs=g::r)(h:∀ K:af→Prop,(∀ B,Q .normal B→K B)→aY c.P c.Y d.isSome K (au (g::r) A)):ab c (.b9 d gs) Q A :=
 ab.js hd (e▸h)
theorem aY.av(ao:List Nat){P:Program}{Y:Value→List I→List (Nat×al)→cv→Prop}{dr:Bool}{x:bn}{K:af→Prop}{ts:List (Nat×I)}{os:List (Nat×al)}(hK:∀ B,ab c x Q B→K B)(h:ab c x Q (aC (iC ao ts) os)):aY P Y dr K (.done (aC ts os)) :=
 .done (hK _ (ab.sS ao h))
theorem bQ.av(ao:List Nat){P:Program}{Y:Value→List I→List (Nat×al)→cv→Prop}{hs:List FuncId}{x:bn}{K:af→Prop}{ts:List (Nat×I)}{os:List (Nat×al)}(hK:∀ B,ab c x Q B→K B)(h:ab c x Q (aC (iC ao ts) os)):bQ P Y hs K (.done (aC ts os)) :=
 .done (hK _ (ab.sS ao h))
end
section
variable {c:cP} {A:af} {o:Oper}
theorem Dg{P:Program}{m:Nat}{br:Array Oper}{l:List Oper}{gs:List aF}(h:gy P m br (o::l)=some gs):∃ g gs',gs=g::gs'∧na P m br o=some g∧gy P m br l=some gs':=by
 simp only[gy] at h;split at h
 ·rename_i g gs' h1 h2;simp only[v6] at h;exact ⟨g,gs',h.symm,h1,h2⟩
 ·cases h
end
def wD(P:Program)(f:FuncId)(ch:List PanicEntry)(vs:Array Value)(w:World)(R:Ending→World→Prop):Prop :=
 Calls P f vs w fun e w'=>e=.panicked ch∧R (.returned (.tuple #[])) w'
theorem wD.mono{P:Program}{f:FuncId}{ch:List PanicEntry}{vs:Array Value}{w:World}{R R':Ending→World→Prop}(h:wD P f ch vs w R)(hr:∀ e w',R e w'→R' e w'):wD P f ch vs w R' :=
 Calls.mono h fun _ _ q=>⟨q.1,hr _ _ q.2⟩
def ri(post:List (Nat×al)→Prop):cv:=fun r os'=>r=.tuple []∧post os'
def rW(P:Program)(f:FuncId)(ch:List PanicEntry)(args:List I)(os:List (Nat×al))(post:List (Nat×al)→Prop):Prop :=
 eV P f=true∧oW (wD P f ch) (fun w _ E=>fw P w (cu E)) args os (ri post)
def zL(ch:List PanicEntry)(post:List (Nat×al)→Prop):Exit→af→Prop
 | .panic ch',A=>ch'=ch∧ke [] (ri post) A
 |_,_=>False
theorem FQ{P:Program}{n:Nat}{w:World}{D:aO}{E:aU}{Y:Value→List I→List (Nat×al)→cv→Prop}{post:List (Nat×al)→Prop}{fn:Func}{A:af}{D':aO}{E':aU}{ch:List PanicEntry}(h:ke [] (ri post) A){R:World→Prop}(hR:∀ v w',gH w D E (ri post) v w'→R w') :
  ∀ (ds:List Deferred) (a:Act) (w':World),a.defers=ds→aT ⟨P,w,D,n,cu E,E,Y,none,none⟩ A a w' D' E'→LeavesInM Fence.wide 9 P fn a.tmps (fun e w'=>e=.panicked ch∧R w') ds (.panicking ch) w'
 | [],a,w',_,hs=>by
  obtain ⟨v,h1,h2⟩:=hs.vz (fn := { fn with results := #[] }) (rs:=[]) rfl h;exact ⟨rfl,hR v w' h2⟩
 |d::ds,a,w',hd,hs=>by
  obtain ⟨Bs,h1,_⟩:=hs.fg;rw[hd] at h1;cases Bs with
  |nil=>cases h1
  |cons B Bs =>
   simp only[zz9,zx6] at h1;obtain ⟨rfl,rfl⟩:=h1;obtain ⟨k1,k2⟩:=hs.Dw rfl hd;exact ⟨by simp,.inl ⟨B,_,rfl,run_takeDeferred k1,FQ h hR _ { a with defers:=Bs.map _ } _ rfl k2⟩⟩
theorem ad6{w:World}{D:aO}{E:aU}{post:List (Nat×al)→Prop}{v:Value}{w':World}(h:gH w D E (ri post) v w'):∃ v' D' E' r os',Ending.returned (.tuple #[])=.returned v'∧ri post r os'∧aV w' D' E' r v'∧kG (fun b=>w.heap.size≤b∨cu E b) w' D' E' (aq os') ∧
   ft (fun b=>w.heap.size≤b∨cu E b) w w'∧(∀ b o,D b o→D' b o)∧(∀ b o,D' b o→b<w'.heap.size)∧(∀ b o,D' b o→b<w.heap.size→¬ cu E b→D b o) ∧
   (∀ n e,E n=some e→ay os' n=true→∃ e',E' n=some e'∧e.eE e')∧iu w D w':=by
 obtain ⟨D',E',r,os',h1,h2,h3⟩:=h;refine ⟨_,D',E',r,os',rfl,h1,?_,h3⟩;obtain ⟨rfl,_⟩:=h1;simp only[aV];exact ⟨[],by simp,by simp[aD]⟩
theorem rW.mk{P:Program}{f:FuncId}{fn:Func}{x:bn}{ch:List PanicEntry}{args:List I}{os:List (Nat×al)}{post:List (Nat×al)→Prop}(hf:P.funcs[f]?=some fn)(hcall:eV P f=true)(hc:(fn.body.bind (eU P fn.ntmps))=some x)
  (hn:args.length≤fn.ntmps) (hn2:fn.ntmps≤1000000) (hos:∀ m,ay os m=true→1000000≤m) (h:I.gr args→∀ (w:World) (D:aO) (E:aU),ab ⟨P,w,D,fn.ntmps,cu E,E,fS,none,none⟩ x (zL ch post) (aC (bC 0 args) os)):rW P f ch args os post:=by
 obtain ⟨body,hb,hc'⟩:=zu1.1 hc;refine ⟨hcall,fun w D E vs hl hD ho ae =>?_⟩;have hlen:=tC ae;have hsim:=AB (P:=P) (n:=fn.ntmps) (Y:=fS) hD ho ae (by omega) (fun m hm=>⟨Nat.le_trans hn2 (hos m hm),hos m hm⟩) (rT hl);refine (callsIn_wide (n:=9)).1 (callsIn_of_wp_marks hf hb trivial ?_);refine wpIn_mono (((h (rE _ _ ae) w D E).sub (wQ args os)) body hc' _ w ⟨D,E,hsim⟩) ?_;rintro e a w' ⟨A,hq,D',E',hs⟩;cases e <;>simp only[zL] at hq
 obtain ⟨rfl,hq⟩:=hq;exact FQ hq (fun v w' h=>ad6 h) a.defers a w' rfl hs
section
variable {c:cP} {A:af} {Q:Exit→af→Prop}
theorem vc{dr:Bool}{K:af→Prop}{br:Array Oper}{Q:Exit→Act→World→Prop}{l2:List Oper}(hQ:∀ B a w,K B→bP c B a w→wpListIn c.bo 9 c.P br Q l2 a w):∀ (l:List Oper) (gs:List aF) (A:af) (a:Act) (w:World),gy c.P c.n br l=some gs→aY c.P c.Y dr K (au gs A) →
  bP c A a w→wpListIn c.bo 9 c.P br Q (l++l2) a w
 | [],gs,A,a,w,hc,hwp,hs=>by
  simp only[gy,v6] at hc;subst hc;simp only[au] at hwp;cases hwp with
  |done hk=>exact hQ A a w hk hs
 |o::l,gs,A,a,w,hc,hwp,hs=>by
  simp only[gy] at hc;split at hc
  case h_2=>cases hc
  rename_i g gs' hg hgs;simp only[v6] at hc;subst hc;obtain ⟨h1,h2,h3,h4⟩:=qo hg;have step:aY c.P c.Y dr K (aX A g.dst g.op gs' (au gs'))→o.wpIn c.bo 9 c.P a w (wpListIn c.bo 9 c.P br Q (l++l2)) Q:=fun h =>
   u6 h1 h2.symm (by rw[h2];exact h3) h hs (fun B a' w' hw hs'=>vc hQ l gs' B a' w' hgs hw hs')
  simp only[zz8,wpListIn];simp only[au] at hwp;rcases h4 with ⟨h5,h6⟩ | ⟨j,b,t,h5,h6,h7⟩
  ·rw[h6] at hwp;have hw:Region.wanted o (yielded br a.tmps)=true:=by simp[Region.wanted,h5]
   rw[hw,if_pos rfl];exact step hwp
  ·rw[h7] at hwp;simp only at hwp;split at hwp
   ·rename_i b' hb';rw[ve hs h5 h6 hb'];split at hwp
    ·rename_i hbb;subst hbb;simp only[BEq.rfl,if_true];exact step hwp
    ·rename_i hbb;have:(b'==b)=false:=by simpa using hbb
     rw[this];simp only[zy0,if_false];exact ⟨fun f _=>nj c f,vc hQ l gs' _ _ w hgs hwp (by rw[h2];exact hs.oJ h3)⟩
   ·rename_i hb';rw[vf hs h5 h6 hb'];simp only[zy0,if_false];exact ⟨fun f _=>nj c f,vc hQ l gs' _ _ w hgs hwp (by rw[h2];exact hs.oJ h3)⟩
   ·cases hwp
theorem Df{P:Program}{m:Nat}{br:Array Oper}{g:aF}{gs2:List aF} : ∀ {l:List Oper} {gs1:List aF},gy P m br l=some (gs1++g::gs2)→∃ l1 o l2,l=l1++o::l2∧gy P m br l1=some gs1∧na P m br o=some g
 | [],gs1,h=>by simp[gy] at h
 |o::l,[],h=>by
  obtain ⟨g',gs',e,h1,h2⟩:=Dg h;simp only[zy3,zx6] at e;obtain ⟨rfl,rfl⟩:=e;exact ⟨[],o,l,rfl,rfl,h1⟩
 |o::l,k::gs1,h=>by
  obtain ⟨g',gs',e,h1,h2⟩:=Dg h;simp only[zz8,zx6] at e;obtain ⟨rfl,rfl⟩:=e;obtain ⟨l1,o',l2,rfl,q1,q2⟩:=Df h2;exact ⟨o::l1,o',l2,rfl,by simp only[gy,h1,q1],q2⟩
inductive r2 (P:Program) (Q:Exit→af→Prop) (f:FuncId) (avs:List I):af→Prop where
 |mk {ts:List (Nat×I)} {os0:List (Nat×al)} (aG:Bool) (ρ:List (Nat×Nat)) (os:List (Nat×al)) (cargs:List I) (ch:List PanicEntry) (post:List (Nat×al)→Prop):rW P f ch cargs os post→fj ρ os os0→gZ aG (aC ts (dN (j2 ρ os) os0)) ρ os avs cargs →
  (∀ os',post os'→dG aG ρ os os0 (.tuple []) os')→(∀ os',post os'→Q (.panic ch) (aC ts (dp ρ os'++os0)))→r2 P Q f avs (aC ts os0)
inductive nX (P:Program) (Q:Exit→af→Prop):bH→af→Prop where
 |call {f:FuncId} {args:List aJ} {A:af} : r2 P Q f (args.map (aj A)) A→nX P Q (.call f args) A
 |fF {x:aJ} {args:List aJ} {f:Nat} {caps:List I} {A:af} : aj A x=.func f caps→r2 P Q (ml f) (jk f (args.map (aj A)) caps) A→nX P Q (.fF x args) A
 |mG {x:aJ} {t:TypeId} {A:af} : aj A x=.iface t (.agg [])→Q (.panic [{ v:=.iface t (.agg #[]),recovered:=false }]) A→nX P Q (.prim .mG [x]) A
theorem zM{o:Oper}{g:bH}{f:FuncId}{avs:List I}{vs:List Value}{a:Act}{w:World}{D:aO}{E:aU}{Kw:Act→World→Prop}(hop0:cU c.P o=some g)(h:r2 c.P Q f avs A)(hs:aT c A a w D E)(hall:fe (aV w D E) avs vs)
  (hrun:eV c.P f=true→(execOp a.eval o).run c.P w=.ok (.enter f vs.toArray) w):o.wpIn c.bo 9 c.P a w Kw (vB c Q):=by
 cases h with
 |mk aG ρ os cargs ch post hspec hgv ha hb hrest =>
  have hu:=hspec.2.use hs aG (fun h=>h.mono) ⟨fun _ _=>hs.qN,fun _=>hs.qN⟩ hgv ha (fun r os' hp=>by obtain ⟨rfl,hp⟩:=hp;exact hb os' hp) hall;refine ⟨kJ,?_⟩;rw[kZ hop0,hrun hspec.1,Oper.uponIn_enter];refine ⟨xW c,Dr (Calls.mono hu ?_)⟩;rintro e w' ⟨rfl,v,r,os',D2,E2,he,⟨rfl,hp⟩,hs',ae,_⟩;exact ⟨_,hrest os' hp,D2,E2,hs'⟩
theorem afI{o:Oper}{g:bH}{a:Act}{w:World}{Kw:Act→World→Prop}(hop:cU c.P o=some g)(h:nX c.P Q g A)(hsim:bP c A a w):o.wpIn c.bo 9 c.P a w Kw (vB c Q):=by
 have hop0:=hop;obtain ⟨D,E,hs⟩:=hsim;cases h with
 |call h =>
  unfold cU at hop;split at hop <;>try (first | (simp at hop;done) | ((repeat' split at hop) <;>simp at hop;done))
  rename_i f' xs ts ho;split at hop
  case isFalse=>simp at hop
  simp only[t8,bH.call.injEq] at hop;obtain ⟨ys,hys,rfl,rfl⟩:=hop;have e:xs.map a.eval=(xs.toList.map a.eval).toArray:=by apply Array.ext';simp
  refine zM (vs:=xs.toList.map a.eval) hop0 h hs (ma hs xs.toList ts.toList ys hys) fun hc =>?_;simp only[execOp,ho,resolve,Act.eval,Deferred.ofValue,Sem.run_bind,Sem.run_pure,Result.andThen_ok,invoke,Array.append_empty,Array.empty_append,oL hc];rw[←e]
 |fF hx h =>
  rename_i x args f caps;unfold cU at hop;split at hop <;>try (first | (simp at hop;done) | ((repeat' split at hop) <;>simp at hop;done))
  rename_i y xs ts _ ho;split at hop
  case h_2=>cases hop
  rename_i y' ys h1 h2;simp only[v6,bH.fF.injEq] at hop;obtain ⟨rfl,rfl⟩:=hop;have ae:=bz hs h1;rw[hx] at ae;obtain ⟨cs,q1,q2⟩:=ae;simp only[ai] at q2;obtain ⟨vs,q3,q4⟩:=q2;have hval:a.eval y=kj f vs:=by simpa[bm,I.isAgg,q3] using q1.symm
  have e:xs.map a.eval=(xs.toList.map a.eval).toArray:=by apply Array.ext';simp
  have hargs:=ma hs xs.toList ts.toList ys h2;rcases Nat.lt_or_ge f 1000000 with hf | hf
  ·rw[yk hf,yj hf] at h;rw[oq hf] at hval;refine zM (vs:=xs.toList.map a.eval++vs) hop0 h hs (hargs.append (rC q4)) fun hc =>?_;simp only[execOp,ho,resolve,hval,Deferred.ofValue,Sem.run_bind,Sem.run_pure,Result.andThen_ok,invoke,Array.empty_append,oL hc];rw[e];simp
  ·obtain ⟨g,rfl⟩:∃ g:Nat,f=g+1000000:=⟨Nat.sub f 1000000,(Nat.sub_add_cancel hf).symm⟩
   rw[Eg,Ef] at h;rw[sD] at hval;refine zM (vs:=vs++xs.toList.map a.eval) hop0 h hs ((rC q4).append hargs) fun hc =>?_;simp only[execOp,ho,resolve,hval,Deferred.ofValue,Sem.run_bind,Sem.run_pure,Result.andThen_ok,invoke,Array.append_empty,oL hc];rw[e];simp

 |mG hx hq =>
  rename_i x t;unfold cU at hop;split at hop <;>try (first | (simp at hop;done) | ((repeat' split at hop) <;>simp at hop;done))
  rename_i x0 ho;simp only[t8,bH.prim.injEq,zx6,and_true,true_and] at hop;obtain ⟨y,hy,rfl⟩:=hop;have ae:=bz hs hy;rw[hx] at ae;obtain ⟨cs,q1,q2⟩:=ae;simp only[ai] at q2;obtain ⟨u,cs',q3,q4,q5⟩:=q2;simp only[aK] at q5;subst q5;have hu:u=.agg #[]:=by simpa[bm,I.isAgg] using q4
  have hval:a.eval x0=.iface t (.agg #[]):=by simpa[bm,I.isAgg,q3,hu] using q1.symm
  have hrun:(execOp a.eval o).run c.P w=.halt (.panic (.iface t (.agg #[]))) w:=by simp[execOp,ho,hval,Instr.panic,goPanic]
  refine ⟨kJ,?_⟩;rw[kZ hop0,hrun,Oper.uponIn_panic];exact ⟨A,hq,D,E,hs⟩
theorem ab.agk{gs:List aF}(k:Nat){g:bH}{dst:Option Nat}(hk:gs=gs.take k++⟨dst,g,none⟩::gs.drop (k+1))(h:∀ K:af→Prop,(∀ B,nX c.P Q g B→K B)→aY c.P c.Y false K (au (gs.take k) A)):ab c (.b9 none gs) Q A:=by
 intro code hc a w hs;cases code <;>simp only[eU] at hc <;>try (first | (cases hc;done) | ((repeat' split at hc) <;>cases hc;done))
 rename_i id br draw;split at hc
 case h_2=>cases hc
 rename_i gs' hgs;split at hc
 case isFalse=>cases hc
 simp only[v6,bn.b9.injEq] at hc;obtain ⟨hdr,rfl⟩:=hc;cases draw with
 |true=>simp at hdr
 |false =>
  refine wpIn_region_list ?_;rw[hk] at hgs;obtain ⟨l1,o,l2,hl,h1,h2⟩:=Df hgs;rw[hl];refine vc (K:=nX c.P Q g) (fun B a' w' hp hs' =>?_) l1 _ A a w h1 (h _ fun _ hb=>hb) hs;obtain ⟨q1,q2,q3,q4⟩:=qo h2;have wn:Region.wanted o (yielded br a'.tmps)=true:=by
   rcases q4 with ⟨a5,_⟩ | ⟨_,_,_,_,_,a5⟩
   ·simp[Region.wanted,a5]
   ·simp at a5
  simp only[wpListIn,wn,if_true];exact afI q1 hp hs'
theorem ab.nG{gs gs1 gs2:List aF}{g:bH}{dst:Option Nat}(e:gs=gs1++⟨dst,g,none⟩::gs2)(h:∀ K:af→Prop,(∀ B,nX c.P Q g B→K B)→aY c.P c.Y false K (au gs1 A)):ab c (.b9 none gs) Q A:=by
 subst e;refine ab.agk gs1.length (g:=g) (dst:=dst) ?_ fun K hK =>?_
 ·simp
 ·simpa using h K hK
end
section
variable {P:Program} {n:Nat} {w:World} {D:aO} {E:aU} {rs:List bu} {post:cv} {fn:Func} {ch:List PanicEntry} {f:FuncId} {N b:Nat}
theorem qO{bo:Fence}{m:Nat}{tmps:Array Value}{R R':Ending→World→Prop}(hr:∀ e w,R e w→R' e w):∀ (ds:List Deferred) (u:FrameMode) (w:World),LeavesInM bo m P fn tmps R ds u w→LeavesInM bo m P fn tmps R' ds u w
 | [],u,w,h=>by
  cases u with
  |run=>exact h
  |returning=>obtain ⟨v,h1,h2⟩:=h;exact ⟨v,h1,hr _ _ h2⟩
  |panicking c=>exact hr _ _ h
 |d::ds,u,w,h=>by
  obtain ⟨h1,h2⟩:=h;refine ⟨h1,?_⟩;rcases h2 with ⟨r,w',k1,k2,k3⟩ | ⟨k1,fv,cap,g,args,k2,k3,k4,k5⟩
  ·exact .inl ⟨r,w',k1,k2,qO hr ds u w' k3⟩
  ·refine .inr ⟨k1,fv,cap,g,args,k2,k3,k4,k5.mono fun e u' w' h =>?_⟩;cases e with
   |returned v=>exact qO hr ds _ w' h
   |panicked c=>exact qO hr ds _ w' h
   |outgrown=>exact hr _ _ h
def tz(P:Program)(fn:Func)(rest:Code)(slots:List Nat)(a:Act)(vs:Array Value)(w:World)(R:Ending→World→Prop):Prop :=
 vs.toList=slots.map (fun t=>a.tmps.getD t undef)→rest.wpIn Fence.wide 9 P (bodyPostM Fence.wide 9 P fn R) a w
theorem tz.mono{rest:Code}{slots:List Nat}{a:Act}{vs:Array Value}{w:World}{R R':Ending→World→Prop}(h:tz P fn rest slots a vs w R)(hr:∀ e w,R e w→R' e w):tz P fn rest slots a vs w R':=fun ae=>by
 refine wpIn_mono (h ae) fun e a' w' q =>?_;cases e <;>simp only[bodyPostM] at q ⊢ <;>first
  |exact qO hr _ _ _ q
  |exact hr _ _ q
  |exact q
theorem JH{w:World}{D:aO}{E:aU}(g:Nat→Value):∀ (slots:List Nat) (args:List I),aD w D E args (slots.map g)→∀ t,aV w D E (cE (slots.zip args) t) (g t)
 | [],args,h,t=>by simp[cE,aV]
 |s::slots,[],h,t=>by simp[cE,aV]
 |s::slots,x::args,h,t=>by
  simp only[aD,zz9] at h;obtain ⟨v,rest,cs,e,h1,h2,h3⟩:=h;simp only[zx6] at e;obtain ⟨rfl,rfl⟩:=e;simp only[List.zip_cons_cons,cE];split
  ·rename_i hk;subst hk;exact gD h1 h2
  ·exact JH g slots args h3 t
end
abbrev uI(P:Program)(w:World)(D:aO)(n:Nat)(E:aU)(b:Option (List Deferred)):cP:=⟨P,w,D,n,cu E,E,fS,none,b⟩
theorem aT.ad4{P:Program}{n:Nat}{w:World}{D:aO}{E:aU}{er:Option (List Deferred)}{post:cv}{A:af}{a:Act}{w':World}{D':aO}{E':aU}{r:I}{v:Value}{os:List (Nat×al)}
  (hs:aT (uI P w D n E er) A a w' D' E') (h1:∀ m z,aq os m=some z→A.o m=some z∧z.only (ay os)=true∧z.fm=true) (hf:r.flat=true) (ae:aV w' D' E' r v) (hp:post r os):gH w D E post v w':=by
 obtain ⟨D2,E2,hw,e2,e2n,q1,q2,q3,q4,q5,q6⟩:=hs.zb h1;exact ⟨D2,E2,r,os,hp,aV.flat hf ae,q1,q2,q3,q4,q5,q6⟩
def lQ(b:Nat):Value:=.pointer (some ⟨b,0,none⟩)
def ud(P:Program)(f:FuncId)(k:Nat):Prop:=eV P f=true∧∀ (bs:List Nat) (w:World),bs.length=k →
 CallsDIn Fence.wide 8 P f (bs.map lQ).toArray .returning w fun e u' w'=>(∃ v,e=.returned v)∧u'=.returning∧w'=w
def pQ(A:af):List Nat→List I→af
 |N::Ns,z::zs=>pQ (A.aM N (.box z)) Ns zs
 |_,_=>A
def mS(E:aU):List Nat→List Nat→List I→Prop
 | [],[],[]=>True
 |N::Ns,b::bs,z::zs=>E N=some (.aG b z.aN)∧mS E Ns bs zs
 |_,_,_=>False
def qb(A:af):List Nat→List I→Prop
 | [],[]=>True
 |N::Ns,z::zs=>(∃ x,A.o N=some (.box x)∧x.aN=z.aN)∧qb A Ns zs
 |_,_=>False
def tW(P:Program)(f:FuncId)(ch:List PanicEntry)(zs:List I):Prop:=eV P f=true∧∀ (c:cP) (A:af) (a:Act) (w:World) (D:aO) (E:aU) (Ns bs:List Nat),c.P=P→aT c A a w D E→mS E Ns bs zs→qb A Ns zs →
 CallsDIn Fence.wide 8 P f (bs.map lQ).toArray (.panicking ch) w fun e u' w'=>(∃ v,e=.returned v)∧settle u'=.returning∧aT c (pQ A Ns zs) a w' D E
def lx(f:FuncId)(vs:List Value):Deferred := { target:=.fn (.func f) vs.toArray,args := #[] }
def tr(rs:List bu)(post:cv)(ch:List PanicEntry)(Ns:List Nat)(zs:List I):Exit→af→Prop
 | .ret,A=>qb A Ns zs∧ke rs post A
 | .panic ch',A=>ch'=ch∧qb A Ns zs∧ke rs post (pQ A Ns zs)
 |_,_=>False
theorem mS.len{E:aU} : ∀ {Ns bs:List Nat} {zs:List I},mS E Ns bs zs→bs.length=zs.length∧Ns.length=zs.length
 | [],[],[],_=>⟨rfl,rfl⟩
 |_::Ns,_::bs,_::zs,h=>by
  have:=mS.len h.2;simp[this.1,this.2]
 | [],_::_,_,h=>h.elim
 | [],[],_::_,h=>h.elim
 |_::_,[],_,h=>h.elim
 |_::_,_::_,[],h=>h.elim
section
variable {P:Program} {n:Nat} {w:World} {D:aO} {E:aU} {rs:List bu} {post:cv} {fn:Func} {ch:List PanicEntry} {f:FuncId} {Ns bs:List Nat} {zs:List I}
theorem B4{A:af}{a:Act}{w':World}{D':aO}{E':aU}{er:Option (List Deferred)}(hs:aT ⟨P,w,D,n,cu E,E,fS,none,er⟩ A a w' D' E'):∀ {Ns bs:List Nat} {zs:List I},mS E Ns bs zs→qb A Ns zs→mS E' Ns bs zs
 | [],[],[],_,_=>trivial
 |N::Ns,b::bs,z::zs,h,hx=>by
  refine ⟨?_,B4 hs h.2 hx.2⟩;obtain ⟨x,hx,_⟩:=hx.1;have hob:dc _ w' D' E' N (some (.box x)):=hx▸hs.bG N;rcases hs.yq (n:=N) (e:=.aG b z.aN) h.1 rfl with k | k
  ·exact absurd k (tf hob)
  ·exact k
 | [],_::_,_,h,_=>h.elim
 | [],[],_::_,h,_=>h.elim
 |_::_,[],_,h,_=>h.elim
 |_::_,_::_,[],h,_=>h.elim
theorem FR(hrs:iw P fn.results.toList=some rs)(hEN:mS E Ns bs zs){A:af}{D':aO}{E':aU}{u:FrameMode}(hx:qb A Ns zs)
  (hcase:(u=.returning∧ke rs post A∧ud P f zs.length)∨(u=.panicking ch∧ke rs post (pQ A Ns zs)∧tW P f ch zs)) :
  ∀ (ds:List Deferred) (a:Act) (w':World),a.defers=ds→aT ⟨P,w,D,n,cu E,E,fS,none,some [lx f (bs.map lQ)]⟩ A a w' D' E'→LeavesInM Fence.wide 9 P fn a.tmps (fun e w'=>∃ v,e=.returned v∧gH w D E post v w') ds u w'
 | [],a,w',hd,hs=>by
  have h1:a.defers=[lx f (bs.map lQ)]:=hs.fg;rw[hd] at h1;cases h1
 |d::ds,a,w',hd,hs=>by
  have h1:a.defers=[lx f (bs.map lQ)]:=hs.fg;rw[hd] at h1;simp only[zx6] at h1;obtain ⟨rfl,rfl⟩:=h1;refine ⟨by rcases hcase with ⟨rfl,_⟩ | ⟨rfl,_⟩ <;>simp,.inr ⟨fun _=>by decide,.func f,(bs.map lQ).toArray,f,(bs.map lQ).toArray,rfl,?_,fun _ _=>trivial,?_⟩⟩
  ·have hcb:eV P f=true:=by rcases hcase with ⟨_,_,h⟩ | ⟨_,_,h⟩ <;>exact h.1
   simp only[lx,invoke,oL hcb,Array.empty_append]
  ·rcases hcase with ⟨rfl,hr,hi⟩ | ⟨rfl,hr,hc⟩
   ·refine (hi.2 bs w' hEN.len.1).mono ?_;rintro e u' w'' ⟨⟨v,rfl⟩,rfl,rfl⟩;obtain ⟨v,h1,h2⟩:=hs.vz hrs hr;exact ⟨v,h1,v,rfl,h2⟩
   ·refine (hc.2 _ A a w' D' E' Ns bs rfl hs (B4 hs hEN hx) hx).mono ?_;rintro e u' w'' ⟨⟨v,rfl⟩,hu,hs2⟩;obtain ⟨v,h1,h2⟩:=hs2.vz hrs hr;simp only[hu];exact ⟨v,h1,v,rfl,h2⟩
theorem G5{w:World}{D:aO}{E:aU} : ∀ {Ns:List Nat} {zs:List I} {vs:List Value},fe (aV w D E) (Ns.map fun N=>.ptr N []) vs→(∀ q∈Ns.zip zs,∃ b,E q.1=some (.aG b q.2.aN))→Ns.length=zs.length→∃ bs,vs=bs.map lQ∧mS E Ns bs zs
 | [],[],_,.nil,_,_=>⟨[],rfl,trivial⟩
 |N::Ns,z::zs,_,.cons h hs,hb,hl=>by
  obtain ⟨bs,rfl,h2⟩:=G5 (zs:=zs) hs (fun q hq=>hb q (by simp[hq])) (by simpa using hl);obtain ⟨b,aE⟩:=hb (N,z) (by simp);obtain ⟨b',aN,off,p1,p2,rfl⟩:=mK h;simp only at aE;rw[aE] at p1;simp only[v6,bL.aG.injEq] at p1;obtain ⟨rfl,rfl⟩:=p1;have hoff:off=0:=by
   cases hz:z.aN <;>rw[hz] at p2 <;>simpa[cg.off] using p2.symm
  subst hoff;exact ⟨b::bs,rfl,aE,h2⟩
 | [],_::_,_,_,_,hl=>by simp at hl
 |_::_,[],_,_,_,hl=>by simp at hl
theorem uj{α:Type}{R:I→Value→Prop}{f:α→I}{g:α→Value}(h:∀ x,R (f x) (g x)):∀ l:List α,fe R (l.map f) (l.map g)
 | []=>.nil
 |x::l=>.cons (h x) (uj h l)
theorem agx{rest:Code}{x:bn}{slots:List Nat}{a:Act}{args:List I}{os:List (Nat×al)}{tss:List Nat}(hrs:iw P fn.results.toList=some rs)(hx:eU P n rest=some x)(hsz:a.tmps.size=n)(hd:a.defers=[lx f (tss.map fun t=>a.tmps.getD t undef)])(hos:∀ m,ay os m=true→n≤m∧1000000≤m)
  (hts:tss.map (cE (slots.zip args))=Ns.map fun N=>.ptr N []) (hl:Ns.length=zs.length) (hN:∀ q∈Ns.zip zs,∃ y,aq os q.1=some (.box y)∧y.aN=q.2.aN) (hi:ud P f zs.length) (hc:tW P f ch zs)
  (hAW:∀ (w:World) (D:aO) (E:aU) (d:Deferred),ab ⟨P,w,D,n,cu E,E,fS,none,some [d]⟩ x (tr rs post ch Ns zs) (aC (slots.zip args) os)):oW (tz P fn rest slots a) (fun w _ E=>fw P w (cu E)) args os post:=by
 intro w D E vs hl0 hD ho ae hvs;have hvs':vs=slots.map (fun t=>a.tmps.getD t undef):=by simpa using hvs
 subst hvs';have htm:=JH (fun t=>a.tmps.getD t undef) slots args ae;have hp:=uj htm tss;rw[hts] at hp;obtain ⟨bs,hbs,hat⟩:=G5 (zs:=zs) hp (fun q hq=>by
  obtain ⟨y,h1,h2⟩:=hN q hq;have hob:dc _ w D E q.1 (some (.box y)):=h1▸ho.bG q.1;obtain ⟨b',cs,T,e1,_⟩:=hob;exact ⟨b',by rw[e1,h2]⟩) hl
 rw[hbs] at hd;have hsim:aT ⟨P,w,D,n,cu E,E,fS,none,some [lx f (bs.map lQ)]⟩ (aC (slots.zip args) os) a w D E:=by
  refine ⟨hsz,hd,htm,ft.refl _ _,fun _ _ h _=>h,hD,fun m =>?_,ho.cV,fun m e h=>.inr ⟨e,h,.refl e⟩,fun m hm =>?_,fun _ _ h=>h,rT hl0,.refl _ _⟩
  ·have h:=ho.bG m;simp only[aC];cases hx:aq os m with
   |none=>rw[hx] at h;exact h
   |some x=>rw[hx] at h;exact dc.kW h fun e b he hb=>.inr ⟨m,e,he,hb⟩
  ·refine hos m ?_;cases hx:aq os m with
   |none=>have h:=ho.bG m;rw[hx] at h;exact absurd h hm
   |some x=>simp[ay,hx]
 refine wpIn_mono ((hAW w D E _) rest hx a w ⟨D,E,hsim⟩) ?_;rintro e a' w' ⟨A,hq,D',E',hs⟩;have bh:∀ e w',(∃ v,e=Ending.returned v∧gH w D E post v w')→∃ v D' E' r os',e=.returned v∧post r os'∧aV w' D' E' r v∧kG (fun b=>w.heap.size≤b∨cu E b) w' D' E' (aq os') ∧
   ft (fun b=>w.heap.size≤b∨cu E b) w w'∧(∀ b o,D b o→D' b o)∧(∀ b o,D' b o→b<w'.heap.size)∧(∀ b o,D' b o→b<w.heap.size→¬ cu E b→D b o) ∧
   (∀ n e,E n=some e→ay os' n=true→∃ e',E' n=some e'∧e.eE e')∧iu w D w':=fun e w' ⟨v,h1,D',E',r,os',h2⟩=>⟨v,D',E',r,os',h1,h2⟩
 cases e <;>simp only[tr] at hq
 ·obtain ⟨h1,h2⟩:=hq;exact qO bh _ _ _ (FR (ch:=ch) hrs hat h1 (.inl ⟨rfl,h2,hi⟩) a'.defers a' w' rfl hs)
 ·obtain ⟨rfl,h1,h2⟩:=hq;exact qO bh _ _ _ (FR hrs hat h1 (.inr ⟨rfl,h2,hc⟩) a'.defers a' w' rfl hs)
end
def rP:List aJ→Option (List Nat)
 | []=>some []
 | .t n::l=>(rP l).map (n :: ·)
 |_=>none
theorem JI:∀ {l:List aJ} {ts:List Nat},rP l=some ts→l=ts.map .t
 | [],ts,h=>by simp only[rP,v6] at h;subst h;rfl
 | .t n::l,ts,h=>by
  simp only[rP,t8] at h;obtain ⟨r,h1,rfl⟩:=h;rw[JI h1];rfl
 | .c _::_,_,h=>by simp[rP] at h
def xV(P:Program)(n:Nat):Code→Option (bn×FuncId×List Nat×Nat×bn)
 | .seq gF (.seq (.region _ br false) rest)=>match br.toList with
  | [o1,o2]=>match na P n br o1,o2.op with
   |some ⟨some t5,.mk g caps,none⟩,.defer { callee:=.value (.tmp t),args,.. } =>if t=t5∧args = #[]∧o2.guard=none∧o2.dst=none then (match eU P n gF,eU P n rest,rP caps with
     |some x0,some x,some tss=>some (x0,g,tss,t5,x)
     |_,_,_=>none)
    else none
   |_,_=>none
  |_=>none
 |_=>none
structure KQ (P:Program) (n:Nat) (x:bn) (rs:List bu) (post:cv) (ch:List PanicEntry) (g:FuncId) (tss:List Nat) (t5:Nat) (tsl:List (Nat×I)) (os0:List (Nat×al)) (ρ:List (Nat×Nat)) (os1:List (Nat×al)) (slots:List Nat) (cargs:List I) (Ns:List Nat) (zs:List I) (post1:cv):Prop where
 bw:tss.map (cE tsl)=Ns.map fun N=>.ptr (bp ρ N) []
 Fc:fj ρ os1 os0
 arg:gZ false (aC ((t5,.func g (Ns.map fun N=>.ptr (bp ρ N) []))::tsl) (dN (j2 ρ os1) os0)) ρ os1 (slots.map (cE ((t5,.func g (Ns.map fun N=>.ptr (bp ρ N) []))::tsl))) cargs
 BR:∀ r os',post1 r os'→dG false ρ os1 os0 r os'
 Jm:tss.map (cE (slots.zip cargs))=Ns.map fun N=>.ptr N []
 len:Ns.length=zs.length
 box:∀ q∈Ns.zip zs,∃ y,aq os1 q.1=some (.box y)∧y.aN=q.2.aN
 ot:∀ m,ay os1 m=true→n≤m∧1000000≤m
 rest:∀ (w:World) (D:aO) (E:aU) (d:Deferred),ab ⟨P,w,D,n,cu E,E,fS,none,some [d]⟩ x (tr rs post1 ch Ns zs) (aC (slots.zip cargs) os1)
 mY:∀ r os',post1 r os'→∃ osF,r.flat=true∧r.aQ (bp ρ)=r∧(∀ m z,aq osF m=some z→aq (dp ρ os'++os0) m=some z∧z.only (ay osF)=true∧z.fm=true)∧post r osF
theorem G6{w:World}{D:aO}{E:aU}{ρ:List (Nat×Nat)} : ∀ {Ns:List Nat} {vs vs':List Value},fe (aV w D E) (Ns.map fun N=>.ptr (bp ρ N) []) vs→fe (aV w D E) (Ns.map fun N=>.ptr (bp ρ N) []) vs'→vs=vs'
 | [],_,_,.nil,.nil=>rfl
 |N::Ns,_,_,.cons h hs,.cons h' hs'=>by
  obtain ⟨b1,sh1,off1,p1,p2,rfl⟩:=mK h;obtain ⟨b2,sh2,off2,q1,q2,rfl⟩:=mK h';rw[p1] at q1;simp only[v6,bL.aG.injEq] at q1;obtain ⟨rfl,rfl⟩:=q1;rw[p2] at q2;simp only[v6] at q2;subst q2;rw[G6 hs hs']
theorem ep.afl{P:Program}{f:FuncId}{fn:Func}{x0 x:bn}{g:FuncId}{tss:List Nat}{t5:Nat}{rs:List bu}{args:List I}{os:List (Nat×al)}{post:cv}{ch:List PanicEntry}{zs:List I}(hf:P.funcs[f]?=some fn)(hcall:eV P f=true)(hc:(fn.body.bind (xV P fn.ntmps))=some (x0,g,tss,t5,x))
  (hrs:iw P fn.results.toList=some rs) (hn:args.length≤fn.ntmps) (hn2:fn.ntmps≤1000000) (hos:∀ m,ay os m=true→1000000≤m) (hi:ud P g zs.length) (hca:tW P g ch zs) (hts:tss.contains t5=false)
  (h:I.gr args→∀ (w:World) (D:aO) (E:aU),ab ⟨P,w,D,fn.ntmps,cu E,E,fS,none,some []⟩ x0 (di (fun B=>∃ tsl os0 ρ os1 slots cargs Ns post1,B=aC tsl os0∧KQ P fn.ntmps x rs post ch g tss t5 tsl os0 ρ os1 slots cargs Ns zs post1) (fun _ _=>False)) (aC (bC 0 args) os)):ep P f args os post:=by
 obtain ⟨body,hb,hc⟩:=zu1.1 hc;refine ⟨hcall,fun w D E vs hl hD ho ae =>?_⟩;have hlen:=tC ae;have s0:=AB (P:=P) (n:=fn.ntmps) (Y:=fS) hD ho ae (by omega) (fun m hm=>⟨Nat.le_trans hn2 (hos m hm),hos m hm⟩) (rT hl);have hsim:aT (uI P w D fn.ntmps E (some [])) (pX args os) { tmps:=vs.toArray++Array.replicate (fn.ntmps-vs.toArray.size) undef,defers:=[] } w D E :=
  ⟨s0.sz,rfl,s0.eG,s0.dX,s0.df,s0.dy,s0.bG,s0.cV,s0.ev,s0.fu,s0.cR,rT hl,s0.gq⟩
 obtain ⟨RR,hRR⟩:∃ RR:Ending→World→Prop,RR=fun e w'=>∃ v,e=.returned v∧gH w D E post v w':=⟨_,rfl⟩
 refine Calls.mono (R:=RR) ?_ (fun e w' q=>by rw[hRR] at q;obtain ⟨v,he,D',E',r,os',k⟩:=q;exact ⟨v,D',E',r,os',he,k⟩);refine (callsIn_wide (n:=9)).1 (callsIn_of_wp_marks hf hb trivial ?_);unfold xV at hc;split at hc
 case h_2=>cases hc
 rename_i gF id br rest;split at hc
 case h_2=>cases hc
 rename_i o1 o2 hops;split at hc
 case h_2=>cases hc
 rename_i t5' g' caps t dargs _ hg1 ho2;split at hc
 case isFalse=>cases hc
 rename_i hok;obtain ⟨ht,hda,hgd,hdst⟩:=hok;split at hc
 case h_2=>cases hc
 rename_i y0 y tss' hx0 hx htt;simp only[v6,Prod.mk.injEq] at hc;obtain ⟨e1,e2,e3,e4,e5⟩:=hc;subst e4 ht hda e1 e2 e3 e5;have hcaps:=JI htt;subst hcaps;refine wpIn_seq ?_;have hw0:=((h (rE _ _ ae) w D E).sub (wQ args os)) gF hx0 _ w ⟨D,E,hsim⟩;refine wpIn_mono hw0 ?_;rintro e a1 w1 ⟨B,hq,D1,E1,hs1⟩;cases e <;>simp only[di] at hq
 obtain ⟨tsl,os0,ρ,os1,slots,cargs,Ns,post1,rfl,R⟩:=hq;simp only[Exit.then];refine wpIn_seq (wpIn_region_list ?_);rw[hops];obtain ⟨q1,q2,q3,q4⟩:=qo hg1;simp only at q1 q2;have wn1:∀ a:Act,Region.wanted o1 (yielded br a.tmps)=true:=fun a=>by
  rcases q4 with ⟨a5,_⟩ | ⟨_,_,_,_,_,a5⟩
  ·simp[Region.wanted,a5]
  ·simp at a5
 have wn2:∀ a:Act,Region.wanted o2 (yielded br a.tmps)=true:=fun a=>by simp[Region.wanted,hgd]
 simp only[wpListIn,wn1,if_true];have hmk:bf (aC tsl os0) (.mk g' (tss'.map .t))=some (.func g' (Ns.map fun N=>.ptr (bp ρ N) [])):=by
  have e:(tss'.map aJ.t).map (aj (aC tsl os0))=Ns.map fun N=>.ptr (bp ρ N) []:=by
   rw[←R.bw,List.map_map];rfl
  simp only[bf,e];rw[if_pos];simp[I.cm]
 have d1:=(G8 (c:=uI P w D fn.ntmps E (some [])) q1 hmk).does q3;rw[←q2] at d1;refine d1.wp q1 ⟨D1,E1,hs1⟩ fun a2 w2 hs2 =>?_;obtain ⟨D2,E2,hs2⟩:=hs2;simp only[wn2,if_true];rw[Gc] at hs2
 -- the deferred call
 have hglt:=Dq hi.1;have hfv:=hs2.eG t;simp only[aC,cE,if_true] at hfv;obtain ⟨fc,f1,f2⟩:=hfv;simp only[ai] at f2;obtain ⟨fvs,f3,f4⟩:=f2;have hval:a2.tmps.getD t undef=.func (.func g') #[] fvs.toArray:=by
  rw[←oq hglt];simpa[bm,I.isAgg,f3] using f1.symm
 have htl:tss'.map (cE ((t,.func g' (Ns.map fun N=>.ptr (bp ρ N) []))::tsl))=Ns.map fun N=>.ptr (bp ρ N) []:=by
  rw[←R.bw];refine List.map_congr_left fun k hk =>?_;simp only[cE];rw[if_neg];intro e;have:tss'.contains k=true:=by simpa using hk
  rw[e,hts] at this;cases this
 have hfvs:fvs=tss'.map fun k=>a2.tmps.getD k undef:=by
  refine G6 (w:=w2) (D:=D2) (E:=E2) (ρ:=ρ) (rC f4) ?_;have:=uj (f:=cE ((t,.func g' (Ns.map fun N=>.ptr (bp ρ N) []))::tsl)) (g:=fun k=>a2.tmps.getD k undef) (fun k=>hs2.eG k) tss'
  rwa [htl] at this
 have hdf:a2.defers=[]:=hs2.fg;obtain ⟨a3,ha3⟩:∃ a3:Act,a3 = { a2 with defers:=[lx g' (tss'.map fun k=>a2.tmps.getD k undef)] } :=⟨_,rfl⟩
 have hrun:(o2.semAt Fence.wide.round a2.eval).run P w2=.ok (.defer (lx g' (tss'.map fun k=>a2.tmps.getD k undef))) w2:=by
  show (execOp a2.eval o2).run P w2=_
  have he:a2.eval (.tmp t)=.func (.func g') #[] fvs.toArray:=hval;simp[execOp,ho2,resolve,he,Deferred.ofValue,lx,hfvs]
 refine ⟨fun _ _=>trivial,?_⟩;rw[hrun,Oper.uponIn_defer,hdf,hdst];simp only[Exit.then];have hput:({ tmps:=a2.tmps,defers:=[lx g' (tss'.map fun k=>a2.tmps.getD k undef)] } : Act).put none undef=a3:=by rw[ha3];rfl
 rw[hput]
 -- the rest
 have hand:=agx (P:=P) (n:=fn.ntmps) (fn:=fn) (f:=g') (Ns:=Ns) (zs:=zs) (ch:=ch) (slots:=slots) (a:=a3) (args:=cargs) (os:=os1) (tss:=tss') hrs hx (by rw[ha3];exact hs2.sz) (by rw[ha3]) R.ot R.Jm R.len R.box hi hca R.rest;have hs3:aT (uI P w D fn.ntmps E (some [lx g' (tss'.map fun k=>a2.tmps.getD k undef)])) (aC ((t,.func g' (Ns.map fun N=>.ptr (bp ρ N) []))::tsl) os0) a3 w2 D2 E2:=by
  rw[ha3];exact ⟨hs2.sz,rfl,hs2.eG,hs2.dX,hs2.df,hs2.dy,hs2.bG,hs2.cV,hs2.ev,hs2.fu,hs2.cR,rT hl,hs2.gq⟩
 have hall:∀ l:List Nat,fe (aV w2 D2 E2) (l.map (cE ((t,.func g' (Ns.map fun N=>.ptr (bp ρ N) []))::tsl))) (l.map fun k=>a3.tmps.getD k undef):=fun l=>uj (fun k=>hs3.eG k) l;have hus:=hand.use hs3 false (fun h hr=>h.mono hr) ⟨(fun h=>by cases h),fun _=>hs3.qN⟩ R.Fc R.arg R.BR (hall slots);refine tz.mono hus ?_ (by simp);rintro e w' ⟨v,r,os',D4,E4,rfl,hp,hs4,hv4,_⟩;rw[hRR];obtain ⟨osF,g1,g2,g3,g4⟩:=R.mY r os' hp;rw[g2] at hv4;exact ⟨v,rfl,hs4.ad4 g3 g1 hv4 g4⟩
end Go.Abs
namespace Go.Abs
open Go Go.RowKit
open Enc (enc)
def kK(w:World):aO:=fun b _=>b<w.heap.size
structure qi (P:Program) (t:TypeId) (α:Type) [Enc α]:Prop where
 cells:P.cellsOf t=Enc.sz α
 rj:0<Enc.sz α
 oG:∀ {H:Type} {enc0:TypeId×Value→H} {w:World} {fuel:Nat} {cs:List Value} {x:DataW H×List MemPlace},DataW.trod enc0 P w 0 (fun _=>true) true fuel t cs=some x→∃ a:α,ai w (kK w) cq (enc a) cs
theorem afD{P:Program}{t:TypeId}(ht:P.underlying t=some (.int .i64))(hc:P.cellsOf t=1):qi P t Int :=
 ⟨hc,by decide,fun h=>by
  obtain ⟨n,rfl,_,hw⟩:=DataW.trod_int ht h;refine ⟨n,?_⟩;rw[x9,ai];simp only[Lit.wf,zz0,decide_eq_true_eq] at hw;exact ⟨rfl,hw.1,hw.2⟩⟩
theorem Dv{α:Type}[Enc α]{w:World}{D:aO}(c:Nat):∀ (n:Nat) (cs:List Value),cs.length=n*c→(∀ i,i<n→∃ a:α,ai w D cq (enc a) ((cs.drop (i*c)).take c))→∃ l:List α,l.length=n∧aK w D cq (l.map enc) cs
 |0,cs,hl,_=>⟨[],rfl,by simp only[Nat.zero_mul,List.length_eq_zero_iff] at hl;subst hl;simp[aK]⟩
 |n+1,cs,hl,h=>by
  obtain ⟨a,ha⟩:=h 0 (by omega);simp only[Nat.zero_mul,List.drop_zero] at ha;obtain ⟨l,h1,h2⟩:=Dv c n (cs.drop c) (by rw[zv3,hl,Nat.succ_mul];omega) (fun i hi=>by
   obtain ⟨b,hb⟩:=h (i+1) (by omega);refine ⟨b,?_⟩;rw[List.drop_drop]
   rwa [Nat.succ_mul,Nat.add_comm] at hb)
  refine ⟨a::l,by simp[h1],?_⟩;simp only[zz9,aK];exact ⟨cs.take c,cs.drop c,(zw1 c cs).symm,ha,h2⟩
theorem ahB{H:Type}{enc0:TypeId×Value→H}{P:Program}{w:World}{er:Nat}{spare:Nat→Bool}{held:Bool}{fuel n:Nat}{t e:TypeId}{cs:List Value}{x:DataW H×List MemPlace}(ht:P.underlying t=some (.array n e))(h:DataW.trod enc0 P w er spare held fuel t cs=some x) :
  ∃ (xs:List (DataW H×List MemPlace)) (m:Nat),cs.length=P.cellsOf t∧xs.length=n∧∀ (i:Nat),i<n→DataW.trod enc0 P w er spare held m e ((cs.drop (i*P.cellsOf e)).take (P.cellsOf e))=xs[i]?:=by
 cases fuel with
 |zero=>simp[DataW.trod] at h
 |succ m =>
  unfold DataW.trod at h;rw[ht] at h;split at h <;>simp_all
  obtain ⟨hl,xs,hp,hd⟩:=h;exact ⟨xs,by simpa using mapM_some_length hp,m,fun i hi=>mapM_some_get hp i i (by simp[hi])⟩
theorem afC{P:Program}{t e:TypeId}{n:Nat}{α:Type}[Enc α](ht:P.underlying t=some (.array n e))(he:qi P e α)(hc:P.cellsOf t=n*Enc.sz α)(hn:0<n):qi P t (bd n α) :=
 ⟨hc,Nat.mul_pos hn he.rj,fun {H enc0 w fuel cs x} h=>by
  obtain ⟨xs,m,hl,hx,hp⟩:=ahB ht h;obtain ⟨l,h1,h2⟩:=Dv (α:=α) (w:=w) (D:=kK w) (Enc.sz α) n cs (by rw[hl,hc]) (fun i hi=>by
   have h3:=hp i hi;rw[he.cells,zz5 (by omega)] at h3;exact he.oG h3)
  refine ⟨⟨l,h1⟩,?_⟩
  show ai w (kK w) cq (.agg (l.map enc)) cs
  simp only[ai];exact h2⟩
theorem KZ(a:Addr)(i j:Nat):(a.add i).add j=a.add (i+j):=by
 unfold Addr.add;by_cases hi:i=0 <;>by_cases hj:j=0 <;>simp[hi,hj,Nat.add_assoc]
end Go.Abs
namespace Go.Abs
open Go Go.RowKit Go.ChangeShapes
open Enc (enc)
def vq(P:Program)(t:TypeId)(l:List (TypeId×Nat)):Bool:=match P.underlying t with
 |some (.struct fs)=>fs.toList.map (fun f=>(f.type,f.offset))==l
 |_=>false
def Fu(P:Program)(t:TypeId)(n:Nat)(e:TypeId):Bool:=match P.underlying t with
 |some (.array n' e')=>n'==n&&e'==e
 |_=>false
theorem adp{P:Program}{t:TypeId}{n:Nat}{e:TypeId}(h:Fu P t n e=true):P.underlying t=some (.array n e):=by
 unfold Fu at h;split at h
 ·rename_i n' e' ht;simp only[zz0,beq_iff_eq] at h;rw[ht,h.1,h.2]
 ·cases h
theorem adr{P:Program}{t:TypeId}{l:List (TypeId×Nat)}(h:vq P t l=true):∃ fs,P.underlying t=some (.struct fs)∧fs.toList.map (fun f=>(f.type,f.offset))=l:=by
 unfold vq at h;split at h
 ·rename_i fs ht;exact ⟨fs,ht,by simpa using h⟩
 ·cases h
theorem afN{H:Type}{enc0:TypeId×Value→H}{P:Program}{f:Func}{s:ChangeSpec}{apart lC handsOn again:Bool}{W W':World}{args:Array Value}{v:Value}{ds gs:List (DataW H)}{before pa pv:List MemPlace}
  (hW:DataW.Whole enc0 P f.params.toList s.vars apart W args.toList ds gs before)
  (hres:∀ (b:Nat) (sp:Nat→Bool) (hd:Bool),DataW.TrodAll enc0 P W' b sp hd f.resultTypes.toList (v.resultList f.resultTypes.size) (s.fn H (ds++gs)).results [])
  (hargs:∀ sp:Nat→Bool,(∀ p∈before,sp p.block=true)→DataW.TrodAll enc0 P W' 0 sp true f.params.toList args.toList (s.fn H (ds++gs)).args pa)
  (hvars:∀ sp:Nat→Bool,(∀ p∈before,sp p.block=true)→DataW.TrodVars enc0 P W' sp s.vars (s.fn H (ds++gs)).vars pv)
  (hps:before=pa++pv) (hb:Below W.heap.size W W')
  (hok:∀ (j:Nat) (t:TypeId) (r:Value),f.resultTypes[j]?=some t→(v.resultList f.resultTypes.size)[j]?=some r→Value.okWide P W' .any 0 t r) :
  s.post enc0 P f apart lC handsOn again W args v W':=by
 have hlt:∀ p∈before,p.block<W.heap.size:=fun p hp=>by simpa using hW.lt p hp
 have hold:∀ p∈before,(fun b=>decide (b<W.heap.size)) p.block=true:=fun p hp=>by simpa using hlt p hp
 refine ⟨ds,gs,before,[],pa,pv,hW,hres _ _ _,hargs _ hold,hvars _ hold,World.keptBut_mono (fun p hp=>⟨hp,?_⟩) (hb.frame (· ∈ before)),fun _ =>?_⟩
 ·rw[hps,zy6] at hp;exact Or.inr hp
 ·obtain ⟨_,_,_,_,_,hz,hn⟩:=hW;refine ⟨hok,_,_,([]++pa)++pv,⟨[]++pa,pv,trodAll_append (hargs _ (fun _ _=>rfl)) (hres _ _ _),hvars _ (fun _ _=>rfl),rfl,?_,?_⟩,?_⟩
  ·intro b off hp;have hp':MemPlace.cell b off∈before:=by rw[hps];simpa using hp
   rw[hb.frozen (p:=⟨b,off,none⟩) (hlt _ hp')];exact hz b off hp'
  ·intro ha;have:=hn ha;rw[hps] at this;simpa using this
  ·intro p hp _;rw[hps];simpa using hp
def KO(P:Program)(u:TypeId)(n:Nat)(S:I→Prop):Prop:=P.cellsOf u=n ∧
 ∀ {H:Type} {enc0:TypeId×Value→H} {w:World} {fuel:Nat} {cs:List Value} {x:DataW H×List MemPlace},DataW.trod enc0 P w 0 (fun _=>true) true fuel u cs=some x→∃ v,S v∧ai w (kK w) cq v cs
def afo(P:Program):Nat→List (TypeId×Nat)→List (Nat×(I→Prop))→Prop
 |_,[],[]=>True
 |o,(u,off)::l,(n,S)::Ss=>off=o∧KO P u n S∧afo P (o+n) l Ss
 |_,_,_=>False
def qk:List (Nat×(I→Prop))→List I→Prop
 | [],[]=>True
 |(_,S)::Ss,v::vs=>S v∧qk Ss vs
 |_,_=>False
theorem r7{n:Nat}{S:I→Prop}{Ss:List (Nat×(I→Prop))} : ∀ {vs:List I},qk ((n,S)::Ss) vs→∃ v vs',vs=v::vs'∧S v∧qk Ss vs'
 | [],h=>h.elim
 |v::vs,h=>⟨v,vs,rfl,h.1,h.2⟩
theorem K5:∀ {vs:List I},qk [] vs→vs=[]
 | [],_=>rfl
 |_::_,h=>h.elim
def tN:List (Nat×(I→Prop))→Nat
 | []=>0
 |(n,_)::Ss=>n+tN Ss
structure lh (P:Program) (t:TypeId) (α:Type) [Enc α] (B:α→Prop):Prop where
 cells:P.cellsOf t=Enc.sz α
 rj:0<Enc.sz α
 oG:∀ {H:Type} {enc0:TypeId×Value→H} {w:World} {fuel:Nat} {cs:List Value} {x:DataW H×List MemPlace},DataW.trod enc0 P w 0 (fun _=>true) true fuel t cs=some x→(∀ k∈x.1.weights P t,k≤reachBytes)→∃ a:α,B a∧ai w (kK w) cq (enc a) cs
theorem qi.GP{P:Program}{t:TypeId}{α:Type}[Enc α](h:qi P t α):lh P t α fun _=>True:=⟨h.cells,h.rj,fun hx _=>by
 obtain ⟨a,ha⟩:=h.oG hx;exact ⟨a,trivial,ha⟩⟩
theorem JP{H:Type}{P:Program}{e:TypeId} : ∀ {l:List (DataW H)} {d:DataW H},d∈l→∀ n∈d.weights P e,n∈DataW.weightsAll P e l
 |d'::r,d,hd,n,hn=>by
  simp only[DataW.weightsAll,zy6];rcases zx7.1 hd with rfl | h
  ·exact .inl hn
  ·exact .inr (JP h n hn)
theorem GQ{P:Program}{t e:TypeId}{α:Type}[Enc α]{B:α→Prop}(ht:P.underlying t=some (.slice e))(he:lh P e α B)(hc:P.cellsOf t=1):lh P t (List α) fun l=>(∀ a∈l,B a)∧l.length*P.bytesOf e≤reachBytes :=
 ⟨hc,by rw[R9];exact Nat.one_pos,fun {H enc0 w fuel cs x} h hwt=>by
  rcases DataW.trod_slice ht h with ⟨rfl,_⟩ | ⟨a,len,cap,elems,rest,n,_,rfl,hxx,hb,hl,hm,hlen,hel,_⟩
  ·refine ⟨[],⟨by simp,by simp⟩,?_⟩;simp only[hG,zy9];rw[ai];exact ⟨none,0,rfl,zy1 _,by decide,.inl rfl,by simp⟩
  ·have hw1:∀ y∈elems,∀ k∈y.1.weights P e,k≤reachBytes:=fun y hy k hk=>by
    refine hwt k ?_;rw[hxx];simp only[DataW.weights,ht,zx7,zy6];exact .inr (.inl (JP (zx4.2 ⟨y,hy,rfl⟩) k hk))
   have hw2:len*P.bytesOf e≤reachBytes:=by
    have:=hwt ((elems.length+rest.length)*P.bytesOf e) (by rw[hxx];simp[DataW.weights,ht]);have h3:elems.length*P.bytesOf e≤(elems.length+rest.length)*P.bytesOf e:=Nat.mul_le_mul_right _ (by omega);rw[←hlen];omega
   have key:∀ k,k≤len→∃ (l:List α) (cs':List Value),l.length=k∧aK w (kK w) cq (l.map enc) cs'∧cs'.length=k*Enc.sz α∧(∀ j v,cs'[j]?=some v→w.cell? (a.add j)=some v)∧∀ b∈l,B b:=by
    intro k
    induction k with
    |zero=>exact fun _=>⟨[],[],rfl,by simp[aK],by simp,by simp,by simp⟩
    |succ k ih =>
     intro hk;obtain ⟨l,cs',h1,h2,h3,h4,hB⟩:=ih (by omega);have h5:=hel k (by omega);have h6:k<elems.length:=by omega
     rw[zz5 h6] at h5;obtain ⟨ce,h7,h8⟩:=zu1.1 h5;obtain ⟨y,hyB,hy⟩:=he.oG h8 (hw1 _ (zv4 h6));rw[he.cells] at h7;obtain ⟨_,h9,h10⟩:=World.cells?_some h7;refine ⟨l++[y],cs'++ce,by simp[h1],?_,by rw[zz1,h3,h9,Nat.succ_mul],fun j v hj =>?_,fun b hb=>(zy6.1 hb).elim (hB b) fun h=>by rw[zy7.1 h];exact hyB⟩
     ·rw[zw3];refine kv _ _ _ _ h2 ?_;simp only[zz9,zy9,aK];exact ⟨ce,[],by simp,hy,rfl⟩
     ·rcases Nat.lt_or_ge j cs'.length with hlt | hge
      ·rw[zx0 hlt] at hj;exact h4 j v hj
      ·rw[zv7 hge] at hj;have hlt:j-cs'.length<Enc.sz α:=by
        have:=(zy4.1 hj).1;omega
       have:=h10 (j-cs'.length) hlt;rw[KZ,←h3,Nat.add_sub_cancel' hge] at this;rw[this];exact hj
   obtain ⟨l,cs',h1,h2,h3,h4,hB⟩:=key len (zy1 _);refine ⟨l,⟨hB,by rw[h1];exact hw2⟩,?_⟩;simp only[hG,ai,zz3];refine ⟨some a,cap,by rw[h1],by omega,hm,?_,K6 l⟩;by_cases hz:len=0
   ·left;have:l=[]:=List.length_eq_zero_iff.1 (by omega);rw[this];rfl
   right
   have hpos:0<cs'.length:=by rw[h3];exact Nat.mul_pos (Nat.pos_of_ne_zero hz) he.rj
   have h0:=h4 0 cs'[0] (zz5 hpos);have hsp:a.spot=none:=by
    simp only[Addr.add,if_true] at h0;unfold World.cell? at h0;split at h0
    ·split at h0
     ·cases h0
     ·rename_i hs;cases hh:a.spot <;>simp_all
    ·cases h0
   have ha:∀ j,a.add j=⟨a.block,a.off+j,none⟩:=fun j=>by
    unfold Addr.add;split
    ·rename_i hj;subst hj;cases a;simp_all
    ·rfl
   refine ⟨a.block,a.off,cs',by cases a;simp_all,fun j v hj =>?_,h2⟩;have h5:=h4 j v hj;rw[ha] at h5;refine ⟨h5,?_⟩
   show (⟨a.block,a.off+j,none⟩:Addr).block<_
   exact World.block_lt_of_cell? w _ h5⟩
theorem ahn{H:Type}{enc0:TypeId×Value→H}{P:Program}{w:World}{fuel:Nat}{t:TypeId}{l:List (TypeId×Nat)}{cs:List Value}{x:DataW H×List MemPlace}(ht:vq P t l=true)(h:DataW.trod enc0 P w 0 (fun _=>true) true fuel t cs=some x)(hwt:∀ k∈x.1.weights P t,k≤reachBytes) :
  cs.length=P.cellsOf t∧∃ m:Nat,∀ (i:Nat) (u:TypeId) (o:Nat),l[i]?=some (u,o)→∃ y,DataW.trod enc0 P w 0 (fun _=>true) true m u ((cs.drop o).take (P.cellsOf u))=some y∧∀ k∈y.1.weights P u,k≤reachBytes:=by
 obtain ⟨fs,h1,h2⟩:=adr ht;obtain ⟨xs,m,_,hx,h3,h4,h5⟩:=DataW.trod_struct h1 h;refine ⟨h3,m,fun i u o hi =>?_⟩;rw[←h2] at hi;simp only[zx8,t8,Prod.mk.injEq] at hi;obtain ⟨f,hf,rfl,rfl⟩:=hi;have hf':fs[i]?=some f:=by simpa using hf
 have h6:=h5 i f hf';have hlt:i<fs.size:=(zy8.1 hf').1;rw[zz5 (by omega)] at h6;refine ⟨_,h6,fun k hk=>hwt k ?_⟩;rw[hx];simp only[DataW.weights,h1];refine DataW.weights_mem_each (j:=i) ?_ ?_ k hk
 ·rw[zx8,hf];rfl
 ·rw[zx8,zz5 (by omega)];rfl
theorem adP{P:Program}{f:FuncId}{fn:Func}{s:ChangeSpec}{H:Type}{enc0:TypeId×Value→H}{W:World}{ds gs:List (DataW H)}{before:List MemPlace}{xs:List I}{tb:TypeId}{v0 v1:Value}{t0 t1:TypeId}{d0 d1:DataW H}{p0 p1:List MemPlace}{again handsOn lC:Bool}
  (hl:laidOutB P=true) (hpar:fn.params.toList=[t0,t1]) (hds:ds=[d0,d1]) (hgs:gs=[]) (hbef:before=p0++p1)
  (hvars:s.vars=[]) (hfn:s.fn H [d0,d1] = { results:=[.lit (.bool true)],args:=[d0,d1] }) (hres:fn.resultTypes = #[tb]) (htb:P.underlying tb=some .bool)
  (hW:DataW.Whole enc0 P fn.params.toList s.vars false W #[v0,v1].toList ds gs before)
  (h0:DataW.Trod enc0 P W 0 (fun _=>true) true t0 v0 d0 p0) (h1:DataW.Trod enc0 P W 0 (fun _=>true) true t1 v1 d1 p1)
  (hr:∀ t∈[t0,t1],P.readableRec t=true∧t<P.types.size)
  (hctr:aP P f xs (enc true)) (hlaid:fw P W (fun _=>False)) (ae:aD W (kK W) cq xs [v0,v1]) :
  Calls P f #[v0,v1] W fun e W'=>∃ v,e=.returned v∧s.post enc0 P fn false lC handsOn again W #[v0,v1] v W':=by
 subst hds hgs;refine (hctr.2 W (kK W) [v0,v1] hlaid (fun _ _ h=>h) ae).mono fun e W' ⟨v,D',he,hrv,hb,_,_⟩=>⟨v,he,?_⟩
 have hvb:v=.bool true:=mJ hrv;subst hvb;have hlt:∀ x∈before,x.block<W.heap.size:=fun x hx=>by simpa using hW.lt x hx
 rw[hbef] at hlt;refine afN (pa:=p0++(p1++[])) (pv:=[]) hW (fun _ _ _ =>?_) (fun sp hsp =>?_) (fun _ _ =>?_) (by rw[hbef];simp) hb ?_
 ·simp only[zx2,hfn,hres];exact trodAll_mk1 (shut_bool htb true)
 ·simp only[zx2,hfn,hpar];rw[hbef] at hsp;have aS:∀ {t:TypeId} {v:Value} {d:DataW H} {p:List MemPlace},t∈[t0,t1]→DataW.Trod enc0 P W 0 (fun _=>true) true t v d p→(∀ x∈p,x∈p0++p1)→DataW.Trod enc0 P W' 0 sp true t v d p:=fun ht h hp =>
   WideElems.Trod_stays hl (hr _ ht).1 (hr _ ht).2 h (fun x hx=>hb.same (hlt x (hp x hx))) (fun x hx=>hsp x (hp x hx))
  exact trodAll_mk2 (aS (by simp) h0 fun x hx=>by simp[hx]) (aS (by simp) h1 fun x hx=>by simp[hx])
 ·simp only[zx2,hfn,hvars];rfl
 ·intro j t r hj hv';rw[hres] at hj hv'
  match j,hj,hv' with
  |0,hj,hv' =>
   simp[Value.resultList] at hj hv';subst hj;subst hv';simp[Value.okWide,htb,Cell.okWide,Cell.ok]
end Go.Abs
namespace Go.Abs
open Go Go.RowKit
open Enc (enc)
structure aH where
 b:ByteArray
 deriving DecidableEq,Inhabited
instance:Enc aH where
 enc s:=.ak s.b
 sz:=1
 aN:=.one
 gA:=false
 done _:=rfl
 size _:=by simp[I.size]
 iI _:=by simp[I.aN]
 agg _:=rfl
instance:Enc UInt8 where
 enc b:=.int .u8 b.toNat
 sz:=1
 aN:=.one
 gA:=false
 done _:=rfl
 size _:=by simp[I.size]
 iI _:=by simp[I.aN]
 agg _:=rfl
def aH.l(s:aH):List UInt8:=s.b.data.toList
def aH.of(l:List UInt8):aH:=⟨⟨l.toArray⟩⟩
theorem aH.zu(s:aH):aH.of s.l=s:=by obtain ⟨⟨⟨l⟩⟩⟩:=s;rfl
theorem aH.eJ(l:List UInt8):(aH.of l).l=l:=rfl
theorem aH.Sp{s t:aH}(h:s.l=t.l):s=t:=by rw[←aH.zu s,←aH.zu t,h]
theorem aH.vX{s t:List UInt8} : aH.of s=aH.of t↔s=t:=⟨fun h=>by rw[←aH.eJ s,h,aH.eJ],fun h=>by rw[h]⟩
theorem aH.size(s:aH):s.b.size=s.l.length:=Lib.size_eq s.b
theorem AG(s t:ByteArray):(s.toList==t.toList)=decide ((⟨s⟩:aH)=⟨t⟩):=by
 obtain ⟨⟨l⟩⟩:=s;obtain ⟨⟨m⟩⟩:=t;simp;by_cases h:l=m <;>simp[h]
def I7(a b:aH):aH:=⟨a.b++b.b⟩
theorem wF(s:aH):enc s=I.ak s.b:=rfl
theorem agS(a b:aH)(h:a.l.length+b.l.length≤9223372036854775807):b8 .add (enc a) (enc b)=some (enc (I7 a b)):=by
 rw[←aH.size,←aH.size] at h;simp only[wF,b8,if_pos h,I7]
theorem Ai(a b:aH):b8 .eql (enc a) (enc b)=some (.bool (decide (a=b))):=by
 simp only[wF,b8,AG]
theorem Aj(a b:aH):b8 .neq (enc a) (enc b)=some (.bool (!decide (a=b))):=by
 simp only[wF,b8,AG]
theorem tE(a:aH):oy (enc a)=some (.int .i64 a.l.length):=by
 simp only[wF,oy,aH.size]
theorem Jd(a:aH){i:Nat}(h:i<a.l.length):fq .eM [enc a,.int .i64 (i:Int)]=some (.int .u8 (a.l[i].toNat:Int)):=by
 show (if 0≤(i:Int) then (a.b.data.toList[(i:Int).toNat]?).map fun b=>I.int .u8 b.toNat else none)=_
 rw[if_pos (by omega),zw8,zz5 (show i<a.b.data.toList.length from h)];rfl
theorem Ee(s:ByteArray)(i j:Nat):(⟨s.extract i j⟩:aH)=aH.of ((s.data.toList.drop i).take (j-i)):=aH.Sp (Lib.extract_data s i j)
theorem Al(a:aH){i:Nat}(h2:i≤a.l.length):fq (.ss true false) [enc a,.int .i64 (i:Int)]=some (enc (aH.of (a.l.drop i))):=by
 show (if 0≤(i:Int)∧(i:Int)≤a.b.size then some (I.ak (a.b.extract (i:Int).toNat a.b.size)) else none)=_
 rw[if_pos ⟨by omega,by rw[aH.size];omega⟩,zw8];refine (congrArg (fun s:aH=>some (enc s)) (Ee a.b i a.b.size)).trans ?_;rw[aH.size,zv8 (by simp[aH.l])];rfl
theorem tF(a:aH){j:Nat}(h2:j≤a.l.length):fq (.ss false true) [enc a,.int .i64 (j:Int)]=some (enc (aH.of (a.l.take j))):=by
 show (if 0≤(j:Int)∧(j:Int)≤a.b.size then some (I.ak (a.b.extract 0 (j:Int).toNat)) else none)=_
 rw[if_pos ⟨by omega,by rw[aH.size];omega⟩,zw8];exact congrArg (fun s:aH=>some (enc s)) (Ee a.b 0 j)
theorem Ja(n:Int):iO 1 (some [.int .u8 n])=some (.slice 1 [.int .u8 n]):=by
 simp[iO,I.size,I.cG,I.bF]
theorem I9(A:af)(n:Int):mX (du A 1 (.slice 1 [.int .u8 n]))=some (enc (aH.of [UInt8.ofNat n.toNat])):=rfl
theorem tG(b:UInt8):enc b=I.int .u8 (b.toNat:Int):=rfl
theorem Jc(s:aH):nK (enc s)=some (s.l.map enc):=rfl
theorem I6{A:af}{d:Nat}{k:af→cD}{l:List UInt8}(hd:A.o d=none) :
  ∃ p:Nat→Prop,jM A (some d) k (some (l.map enc))=.any p fun m=>k ((A.aM d (.box (.agg ((l++List.replicate m 0).map enc)))).aR (some d) (.view d [] 1 0 l.length)):=by
 refine ⟨fun m=>(l.map enc).length+m≤maxLen,?_⟩;have e:∀ m,(l++List.replicate m (0:UInt8)).map enc=l.map enc++List.replicate m (I.int .u8 0):=fun m=>by
  rw[zw3,List.map_replicate];rfl
 simp only[jM,hd,e,zz3]
theorem aY.fC{P:Program}{Y:Value→List I→List (Nat×al)→cv→Prop}{K:af→Prop}{ts:List (Nat×I)}{os:List (Nat×al)}{d:Nat}{rest:List aF}{l:List UInt8}(hd:aq os d=none)
  (h:∀ m,aY P Y false K (au rest (aC ((d,.view d [] 1 0 l.length)::ts) ((d,.box (.agg ((l++List.replicate m 0).map enc)))::os)))):aY P Y false K (jM (aC ts os) (some d) (au rest) (some (l.map enc))):=by
 obtain ⟨p,e⟩:=I6 (A:=aC ts os) (k:=au rest) (l:=l) hd;rw[e];exact .any rfl fun m _=>h m
theorem Ek{A:af}{n:Nat}{l q:List UInt8}(h:A.o n=some (.box (.agg ((l++q).map enc)))):bh true A (.view n [] 1 0 l.length)=some (enc l):=by
 have h1:bh true A (.view n [] 1 0 l.length)=jB 1 0 l.length (some ((l++q).map enc)):=by
  rw[sB,h];rfl
 have e:jB 1 0 l.length (some ((l++q).map enc))=some (enc ((l++q).take l.length)):=oj rfl;rw[h1,e,zu8]
theorem bQ.fC{P:Program}{Y:Value→List I→List (Nat×al)→cv→Prop}{hs:List FuncId}{K:af→Prop}{ts:List (Nat×I)}{os:List (Nat×al)}{d:Nat}{rest:List aF}{l:List UInt8}(hd:aq os d=none)
  (h:∀ m,bQ P Y hs K (au rest (aC ((d,.view d [] 1 0 l.length)::ts) ((d,.box (.agg ((l++List.replicate m 0).map enc)))::os)))):bQ P Y hs K (jM (aC ts os) (some d) (au rest) (some (l.map enc))):=by
 obtain ⟨p,e⟩:=I6 (A:=aC ts os) (k:=au rest) (l:=l) hd;rw[e];exact .any fun m _=>h m
theorem Jb(a:aH):bS none (enc a)=true:=rfl
theorem bA :
  (∀ d rest A p xs,bx A d (.prim p xs) rest=cL (fq p (xs.map (aj A))) (c6 d rest A))∧(∀ d rest A x,bx A d (.b2s x) rest=cL (mX (du A 1 (aj A x))) (c6 d rest A)) ∧
  (∀ b,fq (.px b) [.dh]=some (.bool (!b)))∧(∀ b t v,fq (.px b) [.iface t v]=some (.bool b))∧(type_of% @Ai)∧(type_of% @Aj)∧(type_of% @tE)∧(type_of% @Ja)∧(type_of% @I9)∧(type_of% @Jb)∧(∀ d rest A x,bx A d (.fC x) rest=jM A d (au rest) (nK (aj A x)))∧(type_of% @Jc)∧(∀ a b,fq .min2 [.int .i64 a,.int .i64 b]=some (.int .i64 (if b<a then b else a))) ∧
  (∀ a b,b8 .eql (.int .u8 a) (.int .u8 b)=some (.bool (a==b)))∧(∀ a b,b8 .neq (.int .u8 a) (.int .u8 b)=some (.bool (a != b)))∧(∀ a b,b8 .lss (.int .u8 a) (.int .u8 b)=some (.bool (decide (a<b))))∧(∀ a b,b8 .gtr (.int .u8 a) (.int .u8 b)=some (.bool (decide (a>b)))) ∧
  (∀ a b,b8 .leq (.int .u8 a) (.int .u8 b)=some (.bool (decide (a≤b))))∧(∀ a b,b8 .geq (.int .u8 a) (.int .u8 b)=some (.bool (decide (a≥b))))∧(∀ a b,b8 .sub (.int .u8 a) (.int .u8 b)=some (.int .u8 (IntKind.u8.wrap (a-b)))) :=
 ⟨fun _ _ _ _ _=>rfl,fun _ _ _ _=>rfl,fun _=>rfl,fun _ _ _=>rfl,Ai,Aj,tE,Ja,I9,Jb,fun _ _ _ _=>rfl,Jc,fun _ _=>rfl,fun _ _=>rfl,fun _ _=>rfl,fun _ _=>rfl,fun _ _=>rfl,fun _ _=>rfl,fun _ _=>rfl,fun _ _=>rfl⟩
end Go.Abs
namespace Go.Abs
open Go
open Enc (enc)
def kO(c:UInt8)(jv:Bool):List UInt8→List (List UInt8)
 | []=>[[]]
 |b::l=>if b=c then (if jv then [b] else [])::kO c jv l else match kO c jv l with
  |h::t=>(b::h)::t
  | []=>[[b]]
theorem QV(c:UInt8)(jv:Bool)(l:List UInt8):kO c jv l≠[]:=by
 cases l with
 |nil=>simp[kO]
 |cons b l =>
  simp only[kO];split
  ·simp
  ·split <;>simp
theorem DM{c:UInt8}{jv:Bool} : ∀ {l:List UInt8},(∀ b∈l,b≠c)→kO c jv l=[l]
 | [],_=>rfl
 |b::l,h=>by
  simp only[kO,if_neg (h b (by simp)),DM (l:=l) fun x hx=>h x (by simp[hx])]
theorem DL{c:UInt8}{jv:Bool} : ∀ {x:List UInt8} (y:List UInt8),(∀ b∈x,b≠c)→kO c jv (x++c::y)=(x++if jv then [c] else [])::kO c jv y
 | [],y,_=>by cases jv <;>simp[kO]
 |b::x,y,h=>by
  simp only[zz8,kO,if_neg (h b (by simp)),DL (x:=x) y fun z hz=>h z (by simp[hz])]
def ki(b:UInt8):Bool:=decide (48≤b.toNat∧b.toNat≤57)
def fA(acc:Nat):List UInt8→Option Nat
 | []=>some acc
 |b::l=>if ki b then fA (acc*10+(b.toNat-48)) l else none
def vR(most:Nat)(w:List UInt8):Option Nat:=if w=[]∨most<w.length∨(w.head?=some 48∧1<w.length) then none else fA 0 w
theorem xT(x y:List UInt8):∀ acc,fA acc (x++y)=(fA acc x).bind fun n=>fA n y:=by
 induction x with
 |nil=>intro acc;rfl
 |cons b x ih =>
  intro acc;simp only[zz8,fA];split
  ·exact ih _
  ·rfl
theorem DO:∀ (l:List UInt8) (acc n:Nat),fA acc l=some n→n<(acc+1)*10^l.length
 | [],acc,n,h=>by simp only[fA,v6] at h;simp;omega
 |b::l,acc,n,h=>by
  simp only[fA] at h;split at h
  case isFalse=>cases h
  rename_i hd;simp only[ki,decide_eq_true_eq] at hd;have:=DO l _ n h;have h2:(acc*10+(b.toNat-48)+1)*10^l.length≤((acc+1)*10)*10^l.length:=Nat.mul_le_mul_right _ (by omega);rw[zx5,Nat.pow_succ]
  calc n<_:=this
   _≤_:=h2
   _=_:=by rw[Nat.mul_assoc,Nat.mul_comm 10 (10^l.length)]
theorem RC{l:List UInt8}{n k:Nat}(h:fA 0 l=some n)(hl:l.length≤k):n<10^k:=by
 have:=DO l 0 n h;have h2:10^l.length≤10^k:=Nat.pow_le_pow_right (by omega) hl;omega
theorem GX:∀ (l:List UInt8) (acc:Nat),(acc+1)*10^l.length≤1000000000000000000→Lib.parseUint10 acc l=match fA acc l with | some n=>.ok n | none=>Lib.parseUint10 0 [97]
 | [],acc,_=>rfl
 |b::l,acc,h=>by
  have hp:1≤10^l.length:=Nat.one_le_pow _ _ (by decide);rw[zx5,Nat.pow_succ] at h;have hacc:(acc+1)*10≤1000000000000000000:=by
   calc (acc+1)*10=(acc+1)*(1*10):=by omega
    _≤(acc+1)*(10^l.length*10):=Nat.mul_le_mul_left _ (Nat.mul_le_mul_right _ hp)
    _≤_:=h
  simp only[Lib.parseUint10,fA,ki,decide_eq_true_eq];split
  ·rename_i hd;rw[if_neg (by omega),if_neg (by omega)];refine GX l _ ?_
   calc (acc*10+(b.toNat-48)+1)*10^l.length≤((acc+1)*10)*10^l.length:=Nat.mul_le_mul_right _ (by omega)
    _=(acc+1)*(10^l.length*10):=by rw[Nat.mul_assoc,Nat.mul_comm 10 (10^l.length)]
    _≤_:=h
  ·rfl
theorem Fh{x y:List UInt8}(h:x≠[]):(x++y).head?=x.head?:=by cases x with
 |nil=>exact absurd rfl h
 |cons _ _=>rfl
theorem DT(d:Nat)(h:d<10):(UInt8.ofNat (48+d)).toNat=48+d:=by simp;omega
theorem uM{u:Nat}(h:¬ u<10):Lib.decDigits u=Lib.decDigits (u / 10)++[UInt8.ofNat (48+u%10)]:=by
 rw[Lib.decDigits,dif_neg h]
theorem qy:∀ u:Nat,fA 0 (Lib.decDigits u)=some u∧Lib.decDigits u≠[]∧((Lib.decDigits u).head?=some 48→u=0)
 |u=>by
  by_cases h:u<10
  ·rw[Lib.decDigits_one h];have e:=DT u h;refine ⟨?_,by simp,fun h0 =>?_⟩
   ·have hd:ki (UInt8.ofNat (48+u))=true:=by simp only[ki,e,decide_eq_true_eq];omega
    simp only[fA,hd,if_true,e]
    congr 1;omega
   ·simp only[List.head?_cons,v6] at h0;have:=congrArg UInt8.toNat h0;rw[e] at this;simpa using this
  ·obtain ⟨h1,h2,h3⟩:=qy (u / 10);rw[uM h];have e:=DT (u%10) (by omega);refine ⟨?_,by simp,fun h0 =>?_⟩
   ·rw[xT,h1];have hd:ki (UInt8.ofNat (48+u%10))=true:=by simp only[ki,e,decide_eq_true_eq];omega
    simp only[zu4,fA,hd,if_true,e]
    congr 1;omega
   ·rw[Fh h2] at h0;have:=h3 h0;omega
termination_by u=>u
decreasing_by omega
theorem DR:∀ (k:Nat) (w:List UInt8) (n:Nat),w.length≤k→w≠[]→¬ (w.head?=some 48∧1<w.length)→fA 0 w=some n→Lib.decDigits n=w
 |0,w,n,hk,hne,_,_=>absurd (zv0 (by omega)) hne
 |k+1,w,n,hk,hne,hz,h=>by
  have hw:=List.dropLast_concat_getLast hne;generalize w.getLast hne=b at hw;generalize w.dropLast=x at hw;subst hw;rw[xT] at h;cases hx:fA 0 x with
  |none=>rw[hx] at h;cases h
  |some m =>
   rw[hx] at h;simp only[zu4,fA] at h;split at h
   case isFalse=>cases h
   rename_i hd;simp only[v6] at h;simp only[ki,decide_eq_true_eq] at hd;have hb:UInt8.ofNat (48+(b.toNat-48))=b:=by
    rw[show 48+(b.toNat-48)=b.toNat by omega];simp
   by_cases hx0:x=[]
   ·subst hx0;simp only[fA,v6] at hx;subst hx;have hn:n=b.toNat-48:=by omega
    rw[Lib.decDigits_one (show n<10 by omega),hn,hb];rfl
   ·have hl:x.length+1≤k+1:=by simpa using hk
    have hz':¬ (x.head?=some 48):=fun e=>hz ⟨by rw[Fh hx0];exact e,by have:=zv2.2 hx0;simp;omega⟩;have ih:=DR k x m (by omega) hx0 (fun e=>hz' e.1) hx;have hm:m≠0:=fun e=>by
     subst e;rw[Lib.decDigits_one (by omega)] at ih;rw[←ih] at hz';exact hz' rfl
    rw[uM (show ¬ n<10 by omega),show n / 10=m by omega,ih,show n%10=b.toNat-48 by omega,hb]
theorem aeE{most:Nat}(hm:most≤18){w:List UInt8}{n:Nat}(h:vR most w=some n):Lib.atoiAll w=.ok (n:Int)∧w.length≤most∧Lib.itoa (n:Int)=w∧n<10^most:=by
 simp only[vR] at h;split at h
 ·cases h
 rename_i hc;rw[not_or,not_or] at hc;obtain ⟨h1,h2,h3⟩:=hc;have hs:=RC h (show w.length≤most by omega);have hb:n<9223372036854775808:=by
  have h5:10^most≤10^18:=Nat.pow_le_pow_right (by omega) hm;omega
 have hd:=DR w.length w n (zy1 _) h1 h3 h;refine ⟨?_,by omega,by rw[Lib.itoa_nonneg];exact hd,hs⟩;cases w with
 |nil=>exact absurd rfl h1
 |cons c r =>
  have hdc:ki c=true:=by
   simp only[fA] at h;split at h
   ·assumption
   ·cases h
  simp only[ki,decide_eq_true_eq] at hdc;have hp:=GX (c::r) 0 (by
   have:10^(c::r).length≤10^18:=Nat.pow_le_pow_right (by omega) (by omega);omega)
  rw[h] at hp;simp only[Lib.atoiAll];rw[if_neg (by omega),Lib.parseMag,if_neg (by simp),hp];simp only;rw[if_neg (by omega),if_neg (by omega),if_neg (by omega)]
theorem DS{n:Int}(h:0≤n){c:UInt8}(hc:c.toNat<48):∀ b∈Lib.itoa n,b≠c:=by
 obtain ⟨m,rfl⟩:=zy2 h;rw[Lib.itoa_nonneg];have key:∀ (l:List UInt8) (acc:Nat),fA acc l≠none→∀ b∈l,b≠c:=by
  intro l
  induction l with
  |nil=>intro _ _ b hb;cases hb
  |cons x l ih =>
   intro acc hne b hb;simp only[fA] at hne;split at hne
   case isFalse=>exact absurd rfl hne
   rename_i hd;simp only[ki,decide_eq_true_eq] at hd;rcases zx7.1 hb with rfl | hb
   ·intro e;rw[e] at hd;omega
   ·exact ih _ hne b hb
 exact key _ 0 (by rw[(qy m).1];simp)
theorem R3{α:Type}{l:List α}{i:Nat}(h:i<l.length):l.drop i=l[i]::l.drop (i+1):=zu3 h
theorem RD{l:List UInt8}{j:Nat}(h:j<l.length)(hb:ki l[j]=false):fA 0 l=none:=by
 conv=>lhs;rw[←zw1 j l,R3 h]
 rw[xT];cases fA 0 (l.take j) with
 |none=>rfl
 |some n=>simp only[zu4,fA,hb,zy0,if_false]
theorem wH{α:Type}[Enc α](A:af){l:List α}{esz:Nat}{k:Nat}(hs:Enc.sz α=esz)(h:k≤l.length):j9 A esz none (some (.int .i64 (k:Int))) none (enc l)=some (enc (l.take k)):=by
 simp only[j9,hG,hs,if_true,jO,jj,zz3];rw[if_pos (by omega)];simp only[Option.isSome_none,zy0,false_and,if_false,zw8,Int.toNat_zero,List.drop_zero];rw[List.map_take]
end Go.Abs
namespace Go.Abs
open Go Go.Shelf Go.Proofs
open Enc (enc)
theorem Ls{w:World}{D:aO}{x y:aH}{vs:List Value}(ae:aD w D cq [enc x,enc y] vs):vs=[.string x.b,.string y.b]:=by
 have hv':aD w D cq [.ak x.b,.ak y.b] vs:=ae;simp only[aD] at hv';obtain ⟨v,rest,cs,rfl,h1,h2,v2,rest2,cs2,rfl,h3,h4,rfl⟩:=hv';rw[(il (gD h1 h2)).1,(il (gD h3 h4)).1]
theorem QS{P:Program}{ρ:Ren}(ao:Lays.n104 P ρ)(hc:eV P (ρ.f 104)=true)(s p:aH):aP P (ρ.f 104) [enc s,enc p] (.tuple [enc (aH.of (Lib.trimSuffix s.l p.l)),enc (Lib.hasSuffix s.l p.l)]):=by
 refine ⟨hc,fun w D vs hl hD ae =>?_⟩;have hsz:s.b.size≤maxLen:=by
  have hv':aD w D cq [.ak s.b,.ak p.b] vs:=ae;simp only[aD] at hv';obtain ⟨v,rest,cs,rfl,h1,h2,_⟩:=hv';exact (il (gD h1 h2)).2
 rw[Ls ae];refine (Any.strings_CutSuffix ao s.b p.b w (by unfold maxLen at hsz;omega)).mono ?_;rintro e w' ⟨rfl,rfl⟩;refine ⟨_,D,rfl,⟨[_,_],rfl,?_⟩,Go.RowKit.Below.refl _ w',hD,fun _ _ h _=>h⟩;simp only[aD];refine ⟨_,_,[_],rfl,by simp[bm,I.isAgg,enc];rfl,?_,_,_,[_],rfl,by simp[bm,I.isAgg,enc];rfl,?_,rfl⟩
 ·show ai _ _ _ (.ak _) _
  simp only[ai];refine ⟨rfl,?_⟩
  show (Lib.trimSuffix s.l p.l).toArray.size≤maxLen
  have h1:(Lib.trimSuffix s.l p.l).length≤s.l.length:=by unfold Lib.trimSuffix;split <;>simp
  rw[aH.size] at hsz;simp only[List.size_toArray];omega
 ·show ai _ _ _ (.bool _) _
  simp only[ai];rfl
def ji(T:TypeId)(l:List UInt8):I:=match Lib.atoiAll l with
 | .ok v=>.tuple [enc v,.dh]
 | .range=>.tuple [enc (Lib.atoiSat l),.iface T .any]
 | _ =>.tuple [enc (0:Int),.iface T .any]
theorem QP {P : Program} {ρ : Ren} (ao : LaysC.n172 P ρ) (hc : eV P (ρ.f 172) = true) (g1 : P.globalNamed "strconv.ErrSyntax" = some (ρ.g 15)) (g2 : P.globalNamed "strconv.ErrRange" = some (ρ.g 16)) {T : TypeId} (hT : ρ.t 168 = T) (s : aH) (hs : s.l.length ≤ 281474976710656) : aP P (ρ.f 172) [enc s] (ji T s.l) := by
 refine ⟨hc,fun w D vs hl hD ae =>?_⟩;subst hT;have hv':aD w D cq [.ak s.b] vs:=ae;simp only[aD] at hv';obtain ⟨v,rest,cs,rfl,h1,h2,rfl⟩:=hv';rw[(il (gD h1 h2)).1];rw[←aH.size] at hs;obtain ⟨_, hv1, t1, p1, rfl⟩ := hl.u7 (n := "strconv.ErrSyntax") (k := .qB) (by simp [pn]) g1
 obtain ⟨_, hv2, t2, p2, rfl⟩ := hl.u7 (n := "strconv.ErrRange") (k := .qB) (by simp [pn]) g2
 have fail:∀ (n:Int) (w':World) (N:Nat),IntKind.i64.min≤n∧n≤IntKind.i64.max→Go.RowKit.Below w.heap.size w w' →
   ∃ v D',(Ending.returned (.tuple #[.int .i64 n,.iface (ρ.t 168) (.pointer (some ⟨N,0,none⟩))])=.returned v)∧aV w' D' cq (.tuple [enc n,.iface (ρ.t 168) .any]) v∧Go.RowKit.Below w.heap.size w w'∧(∀ b o,D' b o→b<w'.heap.size)∧∀ b o,D' b o→b<w.heap.size→D b o:=by
  intro n w' N hn hb;refine ⟨_,D,rfl,⟨[_,_],rfl,?_⟩,hb,fun b o hd=>zu5 (hD b o hd) hb.size,fun _ _ h _=>h⟩;simp only[aD];refine ⟨_,_,[_],rfl,by simp[bm,I.isAgg,enc];rfl,?_,_,_,[_],rfl,by simp[bm,I.isAgg];rfl,?_,rfl⟩
  ·show ai _ _ _ (.int .i64 n) _
   simp only[ai,true_and];exact hn
  ·simp only[ai];exact ⟨_,[_],rfl,by simp[bm,I.isAgg];rfl,_,rfl,rfl⟩
 have hmin:IntKind.i64.min=-9223372036854775808:=by decide
 have hmax:IntKind.i64.max=9223372036854775807:=by decide
 cases hr:Lib.atoiAll s.b.data.toList with
 |ok n =>
  refine (Any.strconv_Atoi_ok ao s.b (by omega) n hr w).mono ?_;rintro e w' ⟨rfl,hw⟩;have hb:Go.RowKit.Below w.heap.size w w':=by
   rcases hw with rfl | ⟨t,rfl⟩
   ·exact Go.RowKit.Below.refl _ _
   ·exact Lib.bytesWorld_below _ _ _
  have hn:=Lib.atoiAll_bounds hr;have e0:ji (ρ.t 168) s.l=.tuple [enc n,.dh]:=by
   show ji (ρ.t 168) s.b.data.toList=_
   simp only[ji,hr]
  rw[e0];refine ⟨_,D,rfl,⟨[_,_],rfl,?_⟩,hb,fun b o hd=>zu5 (hD b o hd) hb.size,fun _ _ h _=>h⟩;simp only[aD];refine ⟨_,_,[_],rfl,by simp[bm,I.isAgg,enc];rfl,?_,_,_,[_],rfl,by simp[bm,I.isAgg];rfl,?_,rfl⟩
  ·show ai _ _ _ (.int .i64 n) _
   simp only[ai,true_and];rw[hmin,hmax];omega
  ·simp only[ai]
 |range =>
  have e0:ji (ρ.t 168) s.l=.tuple [enc (Lib.atoiSat s.l),.iface (ρ.t 168) .any]:=by
   show ji (ρ.t 168) s.b.data.toList=_
   simp only[ji,hr];rfl
  rw[e0];refine (Any.strconv_Atoi_range_var ao s.b hs hr t2 p2 w hv2).mono ?_;rintro e w' ⟨N,rfl,_,_,hb⟩;have hn:=Lib.atoiSat_bounds s.b.data.toList;exact fail _ w' N (by rw[hmin,hmax];exact hn) hb
 | _ =>
  have e0:ji (ρ.t 168) s.l=.tuple [enc (0:Int),.iface (ρ.t 168) .any]:=by
   show ji (ρ.t 168) s.b.data.toList=_
   simp only[ji,hr]
  rw[e0];refine (Any.strconv_Atoi_syntax_var ao s.b hs hr t1 p1 w hv1).mono ?_;rintro e w' ⟨N,rfl,_,_,hb⟩;exact fail 0 w' N (by rw[hmin,hmax];omega) hb
end Go.Abs
namespace Go.Abs
open Go Go.Shelf Go.Proofs
open Enc (enc)
def yY(n:Int):aH:=aH.of (Lib.itoa n)
open Go.Sort Go.RowKit in
theorem xw(w:World)(k:Nat)(os:Array Obj):Go.RowKit.Below w.heap.size w (grow (w.drewN k) os) :=
 ⟨rfl,rfl,rfl,by simp,fun i hi=>by rw[heap_grow_old _ _ (by simpa using hi)];rfl⟩
theorem QU{P:Program}{ρ:Ren}(ao:LaysM.n171 P ρ)(hc:eV P (ρ.f 171)=true){g:Nat}(hg:P.globalNamed vu=some g)(n:Int):aP P (ρ.f 171) [enc n] (enc (yY n)):=by
 refine ⟨hc,fun w D vs hl hD ae =>?_⟩;have hv':aD w D cq [.int .i64 n] vs:=ae;simp only[aD] at hv';obtain ⟨v,rest,cs,rfl,h1,h2,rfl⟩:=hv';obtain ⟨rfl,h3,h4⟩:=ef (gD h1 h2);have h3':-9223372036854775808≤n:=h3;have h4':n≤9223372036854775807:=h4;obtain ⟨_,htab,rfl⟩:=hl.u7 (n:=vu) (k:=.wc) (by simp[pn]) hg;refine (Any.strconv_Itoa ao n h3' h4' w htab).mono ?_;rintro e w' ⟨rfl,k,os,rfl⟩;refine ⟨_,D,rfl,⟨[.string ⟨(Lib.itoa n).toArray⟩],by simp[bm,I.isAgg,enc],?_⟩,xw w k os,fun b o hd=>zu5 (hD b o hd) (xw w k os).size,fun _ _ h _=>h⟩;have hlen:=Lib.itoa_length_le n h3' h4'
 show ai _ _ _ (.ak _) _
 simp only[ai];refine ⟨rfl,?_⟩
 show (Lib.itoa n).toArray.size≤maxLen
 simp only[List.size_toArray,maxLen];omega
theorem AF{w:World}{D:aO}{s:aH}{p:List I}{vs:List Value}(ae:aD w D cq (enc s::p) vs):∃ rest,vs=.string s.b::rest∧s.b.size≤maxLen∧aD w D cq p rest:=by
 have hv':aD w D cq (.ak s.b::p) vs:=ae;simp only[aD] at hv';obtain ⟨v,rest,cs,rfl,h1,h2,h3⟩:=hv';obtain ⟨rfl,h4⟩:=il (gD h1 h2);exact ⟨rest,rfl,h4,h3⟩
theorem I1{w:World}{D:aO}{E:aU}{l:List UInt8}(h:l.length≤maxLen):aV w D E (enc (aH.of l)) (.string ⟨l.toArray⟩):=by
 refine ⟨[.string ⟨l.toArray⟩],by simp[bm,I.isAgg,enc,aH.of],?_⟩
 show ai _ _ _ (.ak _) _
 simp only[ai];exact ⟨rfl,by show l.toArray.size≤maxLen;simpa using h⟩
theorem QT{P:Program}{ρ:Ren}(ao:Lays.n137 P ρ)(hc:eV P (ρ.f 137)=true)(s:aH)(c:UInt8):aP P (ρ.f 137) [enc s,.int .u8 c.toNat] (enc (Lib.indexByte s.l c)):=by
 refine ⟨hc,fun w D vs hl hD ae =>?_⟩;obtain ⟨rest,rfl,hsz,hv2⟩:=AF ae;simp only[aD] at hv2;obtain ⟨v,rest2,cs,rfl,h1,h2,rfl⟩:=hv2;obtain ⟨rfl,_⟩:=ef (gD h1 h2);have key:=Any.strings_IndexByte ao s.b (c.toNat:Int) w;have hcc:((c.toNat:Int)).toNat.toUInt8=c:=by simp
 rw[hcc] at key;refine Calls.mono key ?_;rintro e w' ⟨rfl,rfl⟩;refine ⟨_,D,rfl,⟨[_],by simp[bm,I.isAgg,enc];rfl,?_⟩,Go.RowKit.Below.refl _ w',hD,fun _ _ h _=>h⟩
 show ai _ _ _ (.int .i64 (Lib.indexByte s.l c)) _
 simp only[ai];refine ⟨rfl,?_⟩;have g1:=Lib.indexByte_ge s.l c;have g2:∀ l:List UInt8,Lib.indexByte l c≤l.length:=by
  intro l
  induction l with
  |nil=>simp[Lib.indexByte]
  |cons b l ih =>
   unfold Lib.indexByte
   (repeat' split) <;>simp only[zx5] <;>omega
 have g3:=g2 s.l;rw[aH.size] at hsz;have hmin:IntKind.i64.min=-9223372036854775808:=by decide
 have hmax:IntKind.i64.max=9223372036854775807:=by decide
 unfold maxLen at hsz;rw[hmin,hmax];omega
theorem QR{P:Program}{ρ:Ren}(ao:LaysM.n316 P ρ)(hc:eV P (ρ.f 316)=true)(s:aH)(hs:s.l.length≤281474976710656):aP P (ρ.f 316) [enc s] (enc s):=by
 refine ⟨hc,fun w D vs hl hD ae =>?_⟩;obtain ⟨rest,rfl,hsz,hv2⟩:=AF ae;simp only[aD] at hv2;subst hv2;refine (Any.stringslite_Clone ao s.b w (by rw[aH.size];exact hs)).mono ?_;rintro e w' ⟨rfl,hb⟩;refine ⟨_,D,rfl,⟨[_],by simp[bm,I.isAgg,enc];rfl,?_⟩,hb,fun b o hd=>zu5 (hD b o hd) hb.size,fun _ _ h _=>h⟩
 show ai _ _ _ (.ak s.b) _
 simp only[ai,true_and];exact hsz
end Go.Abs
namespace Go.Abs
open Go
theorem Ev(c:UInt8):∀ l:List UInt8,(∀ b∈l,b≠c)∨∃ x y,(∀ b∈x,b≠c)∧l=x++c::y
 | []=>.inl (by simp)
 |b::l=>by
  by_cases hb:b=c
  ·exact .inr ⟨[],l,by simp,by rw[hb];rfl⟩
  ·rcases Ev c l with h | ⟨x,y,h,rfl⟩
   ·refine .inl fun z hz =>?_;rcases zx7.1 hz with rfl | hz
    ·exact hb
    ·exact h z hz
   ·refine .inr ⟨b::x,y,fun z hz =>?_,rfl⟩;rcases zx7.1 hz with rfl | hz
    ·exact hb
    ·exact h z hz
theorem xU:∀ (k n:Nat),n<10^(k+1)→(Lib.decDigits n).length≤k+1
 |0,n,h=>by rw[Lib.decDigits_one (by omega)];simp
 |k+1,n,h=>by
  by_cases q:n<10
  ·rw[Lib.decDigits_one q];simp
  ·rw[uM q,zz1];have:=xU k (n / 10) (by rw[Nat.pow_succ] at h;omega);simp only[zx5,zv1];omega
theorem aeD{k n:Nat}(h:n<10^(k+1)):vR (k+1) (Lib.itoa (n:Int))=some n:=by
 rw[Lib.itoa_nonneg];obtain ⟨h1,h2,h3⟩:=qy n;have hl:=xU k n h;simp only[vR];rw[if_neg,h1];rintro (h | h | ⟨h4,h5⟩)
 ·exact h2 h
 ·omega
 ·rw[h3 h4,Lib.decDigits_one (by omega)] at h5;simp at h5
theorem adz{n:Int}(h:0≤n):Lib.itoa n≠[]:=by
 obtain ⟨m,rfl⟩:=zy2 h;rw[Lib.itoa_nonneg];exact (qy m).2.1
theorem sQ{k:Nat}{n:Int}(h:0≤n∧n<((10^(k+1):Nat):Int)):(Lib.itoa n).length≤k+1:=by
 obtain ⟨m,rfl⟩:=zy2 h.1;rw[Lib.itoa_nonneg];exact xU k m (by omega)
end Go.Abs
namespace Go.Abs
open Go Go.RowKit
open Enc (enc)
def vt:Option Nat→Code
 |none=>.ret
 |some id=>.exit id
def yg:Option Nat→Exit
 |none=>.ret
 |some id=>.exit id
def rV(o:Obj)(A:af)(os:List (Nat×al)):Prop:=∀ n x,aq (cn o os) n=some x→A.o n=some x∧x.only (ay (cn o os))=true∧x.fm=true
def IU(o:Obj)(In:List (Nat×al)→Prop)(Ix:Option Nat→List (Nat×al)→Prop):Exit→af→Prop
 | .normal,A=>∃ os,rV o A os∧In os
 | .ret,A=>∃ os,rV o A os∧Ix none os
 | .exit id,A=>∃ os,rV o A os∧Ix (some id) os
 |_,_=>False
section
variable {c:cP} {Q:Exit→af→Prop}
theorem adg{o:Obj}{A:af}{os:List (Nat×al)}(h:rV o A os)(o':Obj):∀ n x,aq (cn o' os) n=some x→(A.aM 1999999 (.dU o')).o n=some x∧x.only (ay (cn o' os))=true∧x.fm=true:=fun n x hx=>by
 have e:ay (cn o' os)=ay (cn o os):=by funext m;rw[lG,lG]
 rw[e];by_cases hn:n=1999999
 ·subst hn;rw[qS,if_pos rfl,v6] at hx;subst hx;exact ⟨by simp[af.aM],rfl,rfl⟩
 ·rw[qS,if_neg hn] at hx;obtain ⟨h1,h2⟩:=h n x (by rw[qS,if_neg hn];exact hx);exact ⟨by simp only[af.aM,if_neg hn];exact h1,h2⟩
end
mutual
theorem pG{ρ:Nat→Nat}(h:∀ n,ρ n=n):∀ x:I,x.aQ ρ=x
 | .agg fs | .tuple fs=>by simp only[I.aQ];rw[nH h fs]
 | .slice _ es=>by simp only[I.aQ];rw[nH h es]
 | .ref x=>by simp only[I.aQ];rw[pG h x]
 | .func _ caps=>by simp only[I.aQ];rw[nH h caps]
 | .iface _ v=>by simp only[I.aQ];rw[pG h v]
 | .ptr _ _ | .own _ _ | .view _ _ _ _ _ | .mref _ | .dx _=>by simp only[I.aQ,h]
 | .dA ks vs=>by simp only[I.aQ];rw[nH h ks,nH h vs]
 | .bool _ | .int _ _ | .ak _ | .nilp | .dO | .dh | .any | .raw _ | .nils _ | .c0 _ | .undef | .dv=>by simp only[I.aQ]
theorem nH{ρ:Nat→Nat}(h:∀ n,ρ n=n):∀ xs:List I,I.dq ρ xs=xs
 | []=>rfl
 |x::xs=>by simp only[I.dq];rw[pG h x,nH h xs]
end
theorem al.pG{ρ:Nat→Nat}(h:∀ n,ρ n=n):∀ x:al,x.aQ ρ=x
 | .box x=>by simp only[al.aQ,Abs.pG h]
 | .b6 _ _ es=>by simp only[al.aQ,nH h]
 | .dU _=>rfl
 | .eN _ _=>rfl
 | .cI _ _=>by simp only[al.aQ,nH h]
 | .it _ _ _ _=>by simp only[al.aQ,nH h]
theorem agr(os:List (Nat×al)):dp [] os=os:=by
 simp only[dp];have:(fun q:Nat×al=>(bp [] q.1,q.2.aQ (bp [])))=id:=by
  funext q
  rw[al.pG (ρ:=bp []) (fun n=>rfl)];rfl
 rw[this,List.map_id]
theorem F1(a b:List (Nat×al))(n:Nat):aq (a++b) n=match aq a n with
  |some x=>some x
  |none=>aq b n:=by
 induction a with
 |nil=>rfl
 |cons q a ih =>
  obtain ⟨k,v⟩:=q;simp only[zz8,aq];split
  ·rfl
  ·exact ih
theorem gv.none{os os':List (Nat×al)}(h:gv os os'){n:Nat}(hn:n<1000000):aq os' n=none:=by
 cases hx:aq os' n with
 |none=>rfl
 |some x =>
  have h1:ay os' n=true:=by simp[ay,hx]
  rw[h.same] at h1;exact absurd (h.ot n h1) (by omega)
theorem bt.slots{ts ts':List (Nat×I)}{os os':List (Nat×al)}(h1:bT ts ts')(h2:∀ n,aq os n=aq os' n):bt (aC ts os) (aC ts' os'):=by
 have e:aC ts os=aC ts os':=by
  simp only[aC];congr 1;funext n;exact h2 n
 rw[e];rintro c a w ⟨D,E,hs⟩;refine ⟨D,E,hs.sz,hs.fg,fun t =>?_,hs.dX,hs.df,hs.dy,hs.bG,hs.cV,hs.ev,hs.fu,hs.cR,hs.fO,hs.gq⟩;rcases AH h1 t with h | h
 ·simp only[aC];rw[h];simp[aV]
 ·have:=hs.eG t;simp only[aC] at *;rw[h];exact this
theorem BQ{os osk os2 ow:List (Nat×al)}{ts:List (Nat×I)}(h1:gv os osk)(h2:gv os os2)(how:∀ m,ay ow m=true→m<1000000):aC ts (dp [] os2++(ow++osk))=aC ts (ow++os2):=by
 simp only[aC,agr]
 congr 1
 funext n
 simp only[F1];cases hw:aq ow n with
 |none =>
  simp only;cases h3:aq os2 n with
  |some x=>rfl
  |none =>
   simp only;cases h4:aq osk n with
   |none=>rfl
   |some x =>
    have h5:ay osk n=true:=by simp[ay,h4]
    rw[h1.same,←h2.same] at h5;simp[ay,h3] at h5
 |some x =>
  simp only;rw[h2.none (how n (by simp[ay,hw]))]
theorem fj.lD{os osk ow:List (Nat×al)}(h1:gv os osk)(how:∀ m,ay ow m=true→m<1000000):fj [] osk (ow++osk):=by
 refine ⟨fun m x hx =>?_,fun m m' _ _ h=>h⟩;have hm:ay osk m=true:=by simp[ay,hx]
 have hg:=h1.ot m (by rw[←h1.same];exact hm);obtain ⟨k1,k2⟩:=h1.ok m x hx;refine ⟨?_,k1,k2⟩;rw[al.pG (ρ:=bp []) (fun n=>rfl)];simp only[bp,F1];cases hw:aq ow m with
 |none=>exact hx
 |some y=>have:=how m (by simp[ay,hw]);omega
theorem dG.lD{os osk os2 os0:List (Nat×al)}{r:I}(h1:gv os osk)(h2:gv os os2)(hr:r.bF=true):dG false [] osk os0 r os2:=by
 refine ⟨fun m x hx=>⟨(h2.ok m x hx).1,(h2.ok m x hx).2,fun h=>by cases h⟩,fun m m' _ _ h=>h,fun m hm=>by rw[h2.same,←h1.same];exact hm,fun m h3 h4 =>?_,nz _ r hr,fun h=>by cases h⟩;rw[h2.same,←h1.same,h4] at h3;cases h3
theorem aY.ahU{P:Program}{Y:Value→List I→List (Nat×al)→cv→Prop}{K:af→Prop}{v:Value}{vs:List I}{dst:Option Nat}{rest:List aF}{ts:List (Nat×I)}{os osk ow:List (Nat×al)}{In Ix:List (Nat×al)→Prop}
  (hY:Y v vs osk (fun r os2=>(r=.bool true∧In os2)∨(r=.bool false∧Ix os2))) (hk:gv os osk) (hi:∀ os',In os'→gv os os') (hx:∀ os',Ix os'→gv os os') (hcl:I.cG vs=true) (how:∀ m,ay ow m=true→m<1000000)
  (h1:∀ os2,In os2→aY P Y false K (au rest ((aC ts (ow++os2)).aR dst (.bool true)))) (h2:∀ os2,Ix os2→aY P Y false K (au rest ((aC ts (ow++os2)).aR dst (.bool false)))) :
  aY P Y false K (.nc v vs dst rest (aC ts (ow++osk))):=by
 refine .w0 osk vs _ rfl hY (fj.lD hk how) (sd vs hcl) ?_ ?_
 ·rintro r os' (⟨rfl,h⟩ | ⟨rfl,h⟩)
  ·exact dG.lD hk (hi _ h) rfl
  ·exact dG.lD hk (hx _ h) rfl
 ·rintro r os' (⟨rfl,h⟩ | ⟨rfl,h⟩)
  ·rw[BQ hk (hi _ h) how];exact h1 os' h
  ·rw[BQ hk (hx _ h) how];exact h2 os' h
theorem NL(A:af)(d:Option Nat)(args:List I)(rest:List aF)(v:Value):sk A d args rest (.raw v)=.nc v args d rest A:=rfl
end Go.Abs
namespace Go.Proofs.YtoffnnjbplgnaaaGreatDoor
open Go Go.Abs
open Go.Abs.Enc (enc)
structure Item where
 aI:Int
 no:Int
 deriving DecidableEq,Inhabited
instance:Enc Item where
 enc x:=.agg [.int .i64 x.aI,.int .i64 x.no]
 sz:=2
 aN:=.dP [.one,.one]
 gA:=true
 done _:=rfl
 size _:=by simp[I.size,I.sizes]
 iI _:=by simp[I.aN,I.cB]
 agg _:=rfl
structure ah where
 aI:Int
 no:Int
 kind:Int
 eP:Int
 known:Int
 gb:Int
 gp:Int
 text:List UInt8
 deriving DecidableEq,Inhabited
def ah.bw(r:ah):Item:=⟨r.aI,r.no⟩
def ah.ic(r:ah):Item:=⟨r.gb,r.gp⟩
instance:Enc ah where
 enc r:=.agg [enc r.bw,.int .i64 r.kind,.int .i64 r.eP,.int .i64 r.known,enc r.ic,enc (aH.of r.text)]
 sz:=8
 aN:=.dP [.dP [.one,.one],.one,.one,.one,.dP [.one,.one],.one]
 gA:=true
 done e:=by simp only[I.done,I.gm,Enc.done,Bool.and_self]
 size e:=by simp only[I.size,I.sizes,gK];rfl
 iI e:=by simp only[I.aN,I.cB,cM];rfl
 agg _:=rfl
structure dL where
 bD:List UInt8
 cT:List UInt8
 deriving DecidableEq,Inhabited
instance:Enc dL where
 enc r:=.agg [enc (aH.of r.bD),enc (aH.of r.cT)]
 sz:=2
 aN:=.dP [.one,.one]
 gA:=true
 done e:=by simp only[I.done,I.gm,Enc.done,Bool.and_self]
 size e:=by simp only[I.size,I.sizes,gK];rfl
 iI e:=by simp only[I.aN,I.cB,cM];rfl
 agg _:=rfl
structure b7 where
 cd:dL
 copy:dL
 deriving DecidableEq,Inhabited
instance:Enc b7 where
 enc r:=.agg [enc r.cd,enc r.copy]
 sz:=4
 aN:=.dP [.dP [.one,.one],.dP [.one,.one]]
 gA:=true
 done e:=by simp only[I.done,I.gm,Enc.done,Bool.and_self]
 size e:=by simp only[I.size,I.sizes,gK];rfl
 iI e:=by simp only[I.aN,I.cB,cM];rfl
 agg _:=rfl
structure iL where
 l:List ah
 deriving DecidableEq,Inhabited
instance:Enc iL where
 enc b:=.agg [enc b.l]
 sz:=1
 aN:=.dP [.one]
 gA:=true
 done e:=by simp only[I.done,I.gm,Enc.done,Bool.and_self]
 size e:=by simp only[I.size,I.sizes,gK];rfl
 iI e:=by simp only[I.aN,I.cB,cM];rfl
 agg _:=rfl
theorem pA{fs:List I}{f off:Nat}{v:I}(h1:f<fs.length)(h:I.sizes (fs.take f)=off):e9 fs f off v=some v:=by simp[e9,h,h1]
theorem R8:Enc.sz Item=2:=rfl
theorem Sb:Enc.sz aH=1:=rfl
theorem Sa:Enc.sz dL=2:=rfl
theorem GA(x:I)(fs:List I)(v:I):e9 (x::fs) 0 0 v=some v:=pA (by simp) (by simp[I.sizes])
theorem Gx(a b:Item)(n1 n2 n3:Int)(s:aH)(v:I) :
  (e9 [enc a,.int .i64 n1,.int .i64 n2,.int .i64 n3,enc b,enc s] 1 2 v=some v)∧(e9 [enc a,.int .i64 n1,.int .i64 n2,.int .i64 n3,enc b,enc s] 2 3 v=some v)∧(e9 [enc a,.int .i64 n1,.int .i64 n2,.int .i64 n3,enc b,enc s] 3 4 v=some v) ∧
  (e9 [enc a,.int .i64 n1,.int .i64 n2,.int .i64 n3,enc b,enc s] 4 5 v=some v)∧(e9 [enc a,.int .i64 n1,.int .i64 n2,.int .i64 n3,enc b,enc s] 5 7 v=some v):=by
 refine ⟨?_,?_,?_,?_,?_⟩ <;>refine pA (t7 rfl) ?_ <;>simp[I.sizes,I.size,gK,R8]
theorem Gw(n1 n2:Int)(v:I):e9 [.int .i64 n1,.int .i64 n2] 1 1 v=some v:=pA (t7 rfl) (by simp[I.sizes,I.size])
theorem Gz(a b:aH)(v:I):e9 [enc a,enc b] 1 1 v=some v:=pA (t7 rfl) (by simp[I.sizes,gK,Sb])
theorem Gy(a b:dL)(v:I):e9 [enc a,enc b] 1 2 v=some v:=pA (t7 rfl) (by simp[I.sizes,gK,Sa])
theorem JK :
  (∀ x:Item,(enc x).dC=some [.int .i64 x.aI,.int .i64 x.no])∧(∀ r:ah,(enc r).dC=some [enc r.bw,.int .i64 r.kind,.int .i64 r.eP,.int .i64 r.known,enc r.ic,enc (aH.of r.text)])∧(∀ r:dL,(enc r).dC=some [enc (aH.of r.bD),enc (aH.of r.cT)]) ∧
  (∀ r:b7,(enc r).dC=some [enc r.cd,enc r.copy])∧(∀ b:iL,(enc b).dC=some [enc b.l])∧(type_of% @GA)∧(type_of% @Gx)∧(type_of% @Gw)∧(type_of% @Gz)∧(type_of% @Gy) ∧
  (∀ x:Item,bS (some 2) (enc x)=true)∧(∀ x:ah,bS (some 8) (enc x)=true)∧(∀ x:dL,bS (some 2) (enc x)=true)∧(∀ x:b7,bS (some 4) (enc x)=true)∧(∀ x:iL,bS (some 1) (enc x)=true)∧(∀ x:aH,bS none (enc x)=true)∧(∀ x:List ah,bS none (enc x)=true) ∧
  (∀ r:ah,r.bw.aI=r.aI)∧(∀ r:ah,r.bw.no=r.no)∧(∀ r:ah,r.ic.aI=r.gb)∧(∀ r:ah,r.ic.no=r.gp) ∧
  (∀ (fs:List I) x,(x::fs)[0]?=some x)∧(∀ (fs:List I) x n,(x::fs)[n+1]?=fs[n]?)∧(∀ (fs:List I) x,(x::fs)[1]?=fs[0]?)∧(∀ (fs:List I) x,(x::fs)[2]?=fs[1]?)∧(∀ (fs:List I) x,(x::fs)[3]?=fs[2]?)∧(∀ (fs:List I) x,(x::fs)[4]?=fs[3]?)∧(∀ (fs:List I) x,(x::fs)[5]?=fs[4]?) :=
 ⟨fun _=>rfl,fun _=>rfl,fun _=>rfl,fun _=>rfl,fun _=>rfl,GA,Gx,Gw,Gz,Gy,fun _=>by rw[eQ];rfl,fun _=>by rw[eQ];rfl,fun _=>by rw[eQ];rfl,fun _=>by rw[eQ];rfl,fun _=>by rw[eQ];rfl,fun _=>rfl,fun _=>rfl,
  fun _=>rfl,fun _=>rfl,fun _=>rfl,fun _=>rfl,fun _ _=>rfl,fun _ _ _=>rfl,fun _ _=>rfl,fun _ _=>rfl,fun _ _=>rfl,fun _ _=>rfl,fun _ _=>rfl⟩
theorem yd(x y:Item):cA (.aS [.i .i64,.i .i64]) (enc x) (enc y)=some (decide (x=y)):=by
 show cA (.aS [.i .i64,.i .i64]) (.agg [.int .i64 x.aI,.int .i64 x.no]) (.agg [.int .i64 y.aI,.int .i64 y.no])=_
 have:x=y↔x.aI=y.aI∧x.no=y.no:=by cases x;cases y;simp
 simp[cA,iS,jT,this];rfl
theorem D6(x y:aH):cA .s (enc x) (enc y)=some (decide (x=y)):=by
 show cA .s (.ak x.b) (.ak y.b)=_
 simp only[cA];exact congrArg some (AG _ _)
theorem D0(x y:ah):cA (.aS [.aS [.i .i64,.i .i64],.i .i64,.i .i64,.i .i64,.aS [.i .i64,.i .i64],.s]) (enc x) (enc y)=some (decide (x=y)):=by
 show cA (.aS [.aS [.i .i64,.i .i64],.i .i64,.i .i64,.i .i64,.aS [.i .i64,.i .i64],.s]) (.agg [enc x.bw,.int .i64 x.kind,.int .i64 x.eP,.int .i64 x.known,enc x.ic,enc (aH.of x.text)]) (.agg [enc y.bw,.int .i64 y.kind,.int .i64 y.eP,.int .i64 y.known,enc y.ic,enc (aH.of y.text)])=_
 have:x=y↔x.bw=y.bw∧x.kind=y.kind∧x.eP=y.eP∧x.known=y.known∧x.ic=y.ic∧x.text=y.text:=by cases x;cases y;simp[ah.bw,ah.ic,and_assoc]
 rw[cA];simp only[iS,yd,D6,aH.vX];simp[cA,jT,this];rfl
theorem yf(x y:dL):cA (.aS [.s,.s]) (enc x) (enc y)=some (decide (x=y)):=by
 show cA (.aS [.s,.s]) (.agg [enc (aH.of x.bD),enc (aH.of x.cT)]) (.agg [enc (aH.of y.bD),enc (aH.of y.cT)])=_
 have:x=y↔x.bD=y.bD∧x.cT=y.cT:=by cases x;cases y;simp
 rw[cA];simp only[iS,D6,aH.vX];simp[jT,this]
theorem D5(x y:b7):cA (.aS [.aS [.s,.s],.aS [.s,.s]]) (enc x) (enc y)=some (decide (x=y)):=by
 show cA (.aS [.aS [.s,.s],.aS [.s,.s]]) (.agg [enc x.cd,enc x.copy]) (.agg [enc y.cd,enc y.copy])=_
 have:x=y↔x.cd=y.cd∧x.copy=y.copy:=by cases x;cases y;simp
 rw[cA];simp only[iS,yf];simp[jT,this]
theorem G0:(∀ r:ah,(enc r).at [0,0]=some (.int .i64 r.aI))∧(∀ r:ah,(enc r).at [0,1]=some (.int .i64 r.no))∧(∀ r:ah,(enc r).at [4,0]=some (.int .i64 r.gb))∧(∀ r:ah,(enc r).at [4,1]=some (.int .i64 r.gp))∧(∀ zs,fi zs []=some zs) ∧
  (∀ (a b:Nat) (l:List Nat),[a]++(b::l)=a::b::l)∧(∀ (a b c:Nat) (l:List Nat),[a,b]++(c::l)=a::b::c::l) :=
 ⟨fun _=>rfl,fun _=>rfl,fun _=>rfl,fun _=>rfl,fun _=>rfl,fun _ _ _=>rfl,fun _ _ _ _=>rfl⟩
theorem aw:(type_of% @G0)∧(type_of% @JK)∧(∀ {α:Type} [Enc α] (aG:Bool) (A:af) (x:α),bh aG A (enc x)=some (enc x))∧(∀ {α:Type} [Enc α] (x:α),(enc x).cm=true)∧(type_of% @yd)∧(type_of% @D0)∧(type_of% @yf)∧(type_of% @D5)∧(type_of% @qq)∧(type_of% @kD)∧(type_of% @aZ) :=
 ⟨G0,JK,@jW,@dH,yd,D0,yf,D5,qq,kD,aZ⟩
theorem ga{i n:Nat}(h:i<n):decide ((i:Int)<(n:Int))=true:=by simp;omega
theorem gM{i n:Nat}(h:¬ i<n):decide ((i:Int)<(n:Int))=false:=by simp;omega
theorem eO{i:Nat}(h:i<9223372036854775807):IntKind.i64.wrap ((i:Int)+1)=((i+1:Nat):Int):=by rw[eX _ (by omega) (by omega)];rfl
def dm(lo hi n:Int):Bool:=decide (lo≤n)&&decide (n≤hi)
theorem mT(n lo hi:Int):aP Tryz.prog 128 [enc n,enc lo,enc hi] (enc (dm lo hi n)):=by
 refine aP.bM Tryz.func128 Mq N5 PK (t7 rfl) (fun hwf W0 bI E1 =>?_);simp only[Ci,Ho,bC,zz4,Nat.reduceAdd];have R:=aw
 repeat' ((first |(with_reducible refine .guard (fun hb =>?_) (fun hb =>?_) <;>try simp only[hb])|refine ab.aA (by decide +kernel) rfl fun K hK =>?_|(refine .av [0,1,2,6] hK ?_;clear hK K)|(with_reducible refine .done (hK _ ?_);clear hK K)|refine ab.of rfl ?_|(with_reducible refine ar.az (fun h =>?_) (fun h =>?_) <;>try simp only[h])) <;>try simp only[aB,R,simprocAttr])
 all_goals clear R
 all_goals (simp at *;simp_all[dm])
 all_goals omega
theorem oT(n lo hi:Int):aP Tryz.prog 82 [enc n,enc lo,enc hi] (enc (dm lo hi n)):=by
 refine aP.bM Tryz.func82 Nv O2 QF (t7 rfl) (fun hwf W0 bI E1 =>?_);simp only[C6,Il,bC,zz4,Nat.reduceAdd];have R:=aw
 repeat' ((first |(with_reducible refine .guard (fun hb =>?_) (fun hb =>?_) <;>try simp only[hb])|refine ab.aA (by decide +kernel) rfl fun K hK =>?_|(refine .av [0,1,2,6] hK ?_;clear hK K)|(with_reducible refine .done (hK _ ?_);clear hK K)|refine ab.of rfl ?_|(with_reducible refine ar.az (fun h =>?_) (fun h =>?_) <;>try simp only[h])) <;>try simp only[aB,R,simprocAttr])
 all_goals clear R
 all_goals (simp at *;simp_all[dm])
 all_goals omega
theorem AW(n:Int):aP Tryz.prog 105 [enc n] (enc (dm 0 100000 n)):=by
 refine aP.bM Tryz.func105 Md NR Py (t7 rfl) (fun hwf W0 bI E1 =>?_);simp only[B7,Hc,bC];have R:=aw
 repeat' ((first |refine ab.aA (by decide +kernel) rfl fun K hK =>?_|refine .flat _ (mT n 0 100000) rfl ?_|(refine .av [0,2] hK ?_;clear hK K)|(with_reducible refine .done (hK _ ?_);clear hK K)|refine ab.of rfl ?_|(with_reducible refine ar.az (fun h =>?_) (fun h =>?_) <;>try simp only[h])) <;>try simp only[aB,R,simprocAttr])
 all_goals clear R
theorem Bn(n:Int):aP Tryz.prog 79 [enc n] (enc (dm 0 1000002 n)):=by
 refine aP.bM Tryz.func79 Nr OZ QC (t7 rfl) (fun hwf W0 bI E1 =>?_);simp only[C4,Ii,bC];have R:=aw
 repeat' ((first |refine ab.aA (by decide +kernel) rfl fun K hK =>?_|refine .flat _ (mT n 0 1000002) rfl ?_|(refine .av [0,2] hK ?_;clear hK K)|(with_reducible refine .done (hK _ ?_);clear hK K)|refine ab.of rfl ?_|(with_reducible refine ar.az (fun h =>?_) (fun h =>?_) <;>try simp only[h])) <;>try simp only[aB,R,simprocAttr])
 all_goals clear R
theorem rX(n:Int):aP Tryz.prog 110 [enc n] (enc (dm 0 5 n)):=by
 refine aP.bM Tryz.func110 Me NS Pz (t7 rfl) (fun hwf W0 bI E1 =>?_);simp only[B8,Hd,bC];have R:=aw
 repeat' ((first |refine ab.aA (by decide +kernel) rfl fun K hK =>?_|refine .flat _ (mT n 0 5) rfl ?_|(refine .av [0,2] hK ?_;clear hK K)|(with_reducible refine .done (hK _ ?_);clear hK K)|refine ab.of rfl ?_|(with_reducible refine ar.az (fun h =>?_) (fun h =>?_) <;>try simp only[h])) <;>try simp only[aB,R,simprocAttr])
 all_goals clear R
theorem Ks(n:Int):aP Tryz.prog 167 [enc n] (enc (!dm 0 60 n)):=by
 refine aP.bM Tryz.func167 MU Ow P8 (t7 rfl) (fun hwf W0 bI E1 =>?_);simp only[c167,HM,bC];have R:=aw
 repeat' ((first |refine ab.aA (by decide +kernel) rfl fun K hK =>?_|refine .flat _ (mT n 0 60) rfl ?_|(refine .av [0,2] hK ?_;clear hK K)|(with_reducible refine .done (hK _ ?_);clear hK K)|refine ab.of rfl ?_|(with_reducible refine ar.az (fun h =>?_) (fun h =>?_) <;>try simp only[h])) <;>try simp only[aB,R,simprocAttr])
 all_goals clear R
def j4(x:Item):Bool:=dm 0 5 x.aI&&dm 0 9999 x.no
theorem A5(x:Item):aP Tryz.prog 129 [enc x] (enc (j4 x)):=by
 refine aP.bM Tryz.func129 Mr N6 PL (t7 rfl) (fun hwf W0 bI E1 =>?_);simp only[Cj,Hp,bC];cases q:dm 0 5 x.aI
 ·simp only[j4,q,Bool.false_and];have R:=y6 @q aw
  repeat' ((first |(with_reducible refine .guard (fun hb =>?_) (fun hb =>?_) <;>try simp only[hb])|refine ab.aA (by decide +kernel) rfl fun K hK =>?_|refine .flat _ (mT x.aI 0 5) rfl ?_|refine .flat _ (mT x.no 0 9999) rfl ?_|(refine .av [0,1,2] hK ?_;clear hK K)|(with_reducible refine .done (hK _ ?_);clear hK K)|refine ab.of rfl ?_|(with_reducible refine ar.az (fun h =>?_) (fun h =>?_) <;>try simp only[h])) <;>try simp only[aB,R,simprocAttr])
  all_goals clear R
 ·simp only[j4,q,zu6];have R:=y6 @q aw
  repeat' ((first |(with_reducible refine .guard (fun hb =>?_) (fun hb =>?_) <;>try simp only[hb])|refine ab.aA (by decide +kernel) rfl fun K hK =>?_|refine .flat _ (mT x.aI 0 5) rfl ?_|refine .flat _ (mT x.no 0 9999) rfl ?_|(refine .av [0,1,2] hK ?_;clear hK K)|(with_reducible refine .done (hK _ ?_);clear hK K)|refine ab.of rfl ?_|(with_reducible refine ar.az (fun h =>?_) (fun h =>?_) <;>try simp only[h])) <;>try simp only[aB,R,simprocAttr])
  all_goals clear R
theorem Bo(x:Item):aP Tryz.prog 85 [enc x] (enc (j4 x)):=by
 refine aP.bM Tryz.func85 Nx O4 QH (t7 rfl) (fun hwf W0 bI E1 =>?_);simp only[c85,Io,bC];cases q:dm 0 5 x.aI
 ·simp only[j4,q,Bool.false_and];have R:=y6 @q aw
  repeat' ((first |(with_reducible refine .guard (fun hb =>?_) (fun hb =>?_) <;>try simp only[hb])|refine ab.aA (by decide +kernel) rfl fun K hK =>?_|refine .flat _ (oT x.aI 0 5) rfl ?_|refine .flat _ (oT x.no 0 9999) rfl ?_|(refine .av [0,1,2] hK ?_;clear hK K)|(with_reducible refine .done (hK _ ?_);clear hK K)|refine ab.of rfl ?_|(with_reducible refine ar.az (fun h =>?_) (fun h =>?_) <;>try simp only[h])) <;>try simp only[aB,R,simprocAttr])
  all_goals clear R
 ·simp only[j4,q,zu6];have R:=y6 @q aw
  repeat' ((first |(with_reducible refine .guard (fun hb =>?_) (fun hb =>?_) <;>try simp only[hb])|refine ab.aA (by decide +kernel) rfl fun K hK =>?_|refine .flat _ (oT x.aI 0 5) rfl ?_|refine .flat _ (oT x.no 0 9999) rfl ?_|(refine .av [0,1,2] hK ?_;clear hK K)|(with_reducible refine .done (hK _ ?_);clear hK K)|refine ab.of rfl ?_|(with_reducible refine ar.az (fun h =>?_) (fun h =>?_) <;>try simp only[h])) <;>try simp only[aB,R,simprocAttr])
  all_goals clear R
end Go.Proofs.YtoffnnjbplgnaaaGreatDoor
namespace Go.Proofs.YtoffnnjbplgnaaaGreatDoor
open Go Go.Abs Go.Shelf
open Go.Abs.Enc (enc)
def adX:Go.Shelf.Ren:=⟨fun | 104=>125 | 211=>153 | 207=>169 | n=>n,fun | 9=>9 | 4=>4 | 24=>42 | 3=>3 | n=>n,fun | n=>n⟩
theorem adW:Go.Proofs.Lays.n104 Tryz.prog adX := {
 mixed:=by kernel_rfl
 f104:=Tryz.func125.trans (congrArg some (by kernel_rfl))
 f207:=Tryz.func169.trans (congrArg some (by kernel_rfl))
 f211:=Tryz.func153.trans (congrArg some (by kernel_rfl))
 t3:=Tryz.underlying3
 a3:=Tryz.isAgg3
 z3:=Tryz.sizeOf3
 v3:=Tryz.zeroValue3
 t4:=Tryz.underlying4
 a4:=Tryz.isAgg4
 z4:=Tryz.sizeOf4
 v4:=Tryz.zeroValue4
 t9:=Tryz.underlying9
 a9:=Tryz.isAgg9
 z9:=Tryz.sizeOf9
 v9:=Tryz.zeroValue9
 t24:=Tryz.underlying42
 a24:=Tryz.isAgg42
 z24:=Tryz.sizeOf42
 v24:=Tryz.zeroValue42 }
def FK:Go.Shelf.Ren:=⟨fun | 137=>123 | 217=>152 | 266=>168 | n=>n,fun | 9=>9 | 5=>5 | 3=>3 | n=>n,fun | n=>n⟩
theorem FJ:Go.Proofs.Lays.n137 Tryz.prog FK := {
 mixed:=by kernel_rfl
 f137:=Tryz.func123.trans (congrArg some (by kernel_rfl))
 f217:=Tryz.func152.trans (congrArg some (by kernel_rfl))
 f266:=Tryz.func168.trans (congrArg some (by kernel_rfl))
 t3:=Tryz.underlying3
 a3:=Tryz.isAgg3
 z3:=Tryz.sizeOf3
 v3:=Tryz.zeroValue3
 t5:=Tryz.underlying5
 a5:=Tryz.isAgg5
 z5:=Tryz.sizeOf5
 v5:=Tryz.zeroValue5
 t9:=Tryz.underlying9
 a9:=Tryz.isAgg9
 z9:=Tryz.sizeOf9
 v9:=Tryz.zeroValue9 }
def adS:Go.Shelf.Ren:=⟨fun | 172=>155 | 244=>171 | 245=>172 | 247=>189 | 279=>190 | 280=>191 | 281=>192 | 282=>193 | 287=>207 | 316=>127 | 171=>132 | 205=>208 | 321=>215 | 322=>216 | 243=>158 | 246=>174 | 283=>195 | 284=>196 | 285=>197 | 286=>198 | 129=>185 | 317=>209 | 318=>210 | 319=>211 | 320=>212 | 337=>217 | 338=>218 | n=>n,fun | 9=>9 | 3=>3 | 75=>199 | 76=>200 | 4=>4 | 5=>5 | 167=>231 | 37=>45 | 0=>0 | 85=>232 | 2=>2 | 168=>234 | 53=>227 | 175=>250 | 46=>208 | 210=>253 | 127=>202 | 145=>266 | 143=>264 | 21=>21 | 171=>239 | 173=>241 | 212=>256 | 51=>225 | 20=>20 | 213=>257 | 232=>267 | 233=>268 | 80=>206 | n=>n,fun | 15=>1 | 16=>2 | 17=>3 | 18=>4 | 19=>5 | n=>n⟩
theorem adR:Go.Proofs.LaysC.n172 Tryz.prog adS := {
 mixed:=by kernel_rfl
 f129:=Tryz.func185.trans (congrArg some (by kernel_rfl))
 f171:=Tryz.func132.trans (congrArg some (by kernel_rfl))
 f172:=Tryz.func155.trans (congrArg some (by kernel_rfl))
 f205:=Tryz.func208.trans (congrArg some (by kernel_rfl))
 f243:=Tryz.func158.trans (congrArg some (by kernel_rfl))
 f244:=Tryz.func171.trans (congrArg some (by kernel_rfl))
 f245:=Tryz.func172.trans (congrArg some (by kernel_rfl))
 f246:=Tryz.func174.trans (congrArg some (by kernel_rfl))
 f247:=Tryz.func189.trans (congrArg some (by kernel_rfl))
 f279:=Tryz.func190.trans (congrArg some (by kernel_rfl))
 f280:=Tryz.func191.trans (congrArg some (by kernel_rfl))
 f281:=Tryz.func192.trans (congrArg some (by kernel_rfl))
 f282:=Tryz.func193.trans (congrArg some (by kernel_rfl))
 f283:=Tryz.func195.trans (congrArg some (by kernel_rfl))
 f284:=Tryz.func196.trans (congrArg some (by kernel_rfl))
 f285:=Tryz.func197.trans (congrArg some (by kernel_rfl))
 f286:=Tryz.func198.trans (congrArg some (by kernel_rfl))
 f287:=Tryz.func207.trans (congrArg some (by kernel_rfl))
 f316:=Tryz.func127.trans (congrArg some (by kernel_rfl))
 f317:=Tryz.func209.trans (congrArg some (by kernel_rfl))
 f318:=Tryz.func210.trans (congrArg some (by kernel_rfl))
 f319:=Tryz.func211.trans (congrArg some (by kernel_rfl))
 f320:=Tryz.func212.trans (congrArg some (by kernel_rfl))
 f321:=Tryz.func215.trans (congrArg some (by kernel_rfl))
 f322:=Tryz.func216.trans (congrArg some (by kernel_rfl))
 f337:=Tryz.func217.trans (congrArg some (by kernel_rfl))
 f338:=Tryz.func218.trans (congrArg some (by kernel_rfl))
 t0:=Tryz.underlying0
 a0:=Tryz.isAgg0
 z0:=Tryz.sizeOf0
 v0:=Tryz.zeroValue0
 t2:=Tryz.underlying2
 a2:=Tryz.isAgg2
 z2:=Tryz.sizeOf2
 v2:=Tryz.zeroValue2
 t3:=Tryz.underlying3
 a3:=Tryz.isAgg3
 z3:=Tryz.sizeOf3
 v3:=Tryz.zeroValue3
 t4:=Tryz.underlying4
 a4:=Tryz.isAgg4
 z4:=Tryz.sizeOf4
 v4:=Tryz.zeroValue4
 t5:=Tryz.underlying5
 a5:=Tryz.isAgg5
 z5:=Tryz.sizeOf5
 v5:=Tryz.zeroValue5
 t9:=Tryz.underlying9
 a9:=Tryz.isAgg9
 z9:=Tryz.sizeOf9
 v9:=Tryz.zeroValue9
 t20:=Tryz.underlying20
 a20:=Tryz.isAgg20
 z20:=Tryz.sizeOf20
 v20:=Tryz.zeroValue20
 t21:=Tryz.underlying21
 a21:=Tryz.isAgg21
 z21:=Tryz.sizeOf21
 v21:=Tryz.zeroValue21
 t37:=Tryz.underlying45
 a37:=Tryz.isAgg45
 z37:=Tryz.sizeOf45
 v37:=Tryz.zeroValue45
 t46:=Tryz.underlying208
 a46:=Tryz.isAgg208
 z46:=Tryz.sizeOf208
 v46:=Tryz.zeroValue208
 t51:=Tryz.underlying225
 a51:=Tryz.isAgg225
 z51:=Tryz.sizeOf225
 v51:=Tryz.zeroValue225
 t53:=Tryz.underlying227
 a53:=Tryz.isAgg227
 z53:=Tryz.sizeOf227
 v53:=Tryz.zeroValue227
 t75:=Tryz.underlying199
 a75:=Tryz.isAgg199
 z75:=Tryz.sizeOf199
 v75:=Tryz.zeroValue199
 t76:=Tryz.underlying200
 a76:=Tryz.isAgg200
 z76:=Tryz.sizeOf200
 v76:=Tryz.zeroValue200
 t85:=Tryz.underlying232
 a85:=Tryz.isAgg232
 z85:=Tryz.sizeOf232
 v85:=Tryz.zeroValue232
 t127:=Tryz.underlying202
 a127:=Tryz.isAgg202
 z127:=Tryz.sizeOf202
 v127:=Tryz.zeroValue202
 t143:=Tryz.underlying264
 a143:=Tryz.isAgg264
 z143:=Tryz.sizeOf264
 v143:=Tryz.zeroValue264
 t145:=Tryz.underlying266
 a145:=Tryz.isAgg266
 z145:=Tryz.sizeOf266
 v145:=Tryz.zeroValue266
 t167:=Tryz.underlying231
 a167:=Tryz.isAgg231
 z167:=Tryz.sizeOf231
 v167:=Tryz.zeroValue231
 t168:=Tryz.underlying234
 a168:=Tryz.isAgg234
 z168:=Tryz.sizeOf234
 v168:=Tryz.zeroValue234
 t171:=Tryz.underlying239
 a171:=Tryz.isAgg239
 z171:=Tryz.sizeOf239
 v171:=Tryz.zeroValue239
 t173:=Tryz.underlying241
 a173:=Tryz.isAgg241
 z173:=Tryz.sizeOf241
 v173:=Tryz.zeroValue241
 t175:=Tryz.underlying250
 a175:=Tryz.isAgg250
 z175:=Tryz.sizeOf250
 v175:=Tryz.zeroValue250
 t210:=Tryz.underlying253
 a210:=Tryz.isAgg253
 z210:=Tryz.sizeOf253
 v210:=Tryz.zeroValue253
 t212:=Tryz.underlying256
 a212:=Tryz.isAgg256
 z212:=Tryz.sizeOf256
 v212:=Tryz.zeroValue256
 t213:=Tryz.underlying257
 a213:=Tryz.isAgg257
 z213:=Tryz.sizeOf257
 t232:=Tryz.underlying267
 a232:=Tryz.isAgg267
 z232:=Tryz.sizeOf267
 v232:=Tryz.zeroValue267
 t233:=Tryz.underlying268
 a233:=Tryz.isAgg268
 z233:=Tryz.sizeOf268
 v233:=Tryz.zeroValue268
 g15:=by kernel_rfl
 g16:=by kernel_rfl
 g17:=by kernel_rfl
 g18:=by kernel_rfl
 g19:=by kernel_rfl
 t80:=Tryz.underlying206
 a80:=Tryz.isAgg206
 z80:=Tryz.sizeOf206
 v80:=Tryz.zeroValue206
 i0:=by kernel_rfl
 i2:=by kernel_rfl
 i3:=by kernel_rfl
 i4:=by kernel_rfl
 i5:=by kernel_rfl
 i9:=by kernel_rfl
 i20:=by kernel_rfl
 i21:=by kernel_rfl
 i37:=by kernel_rfl
 i46:=by kernel_rfl
 i51:=by kernel_rfl
 i53:=by kernel_rfl
 i75:=by kernel_rfl
 i76:=by kernel_rfl
 i80:=by kernel_rfl
 i85:=by kernel_rfl
 i127:=by kernel_rfl
 i143:=by kernel_rfl
 i145:=by kernel_rfl
 i167:=by kernel_rfl
 i168:=by kernel_rfl
 i171:=by kernel_rfl
 i173:=by kernel_rfl
 i175:=by kernel_rfl
 i210:=by kernel_rfl
 i212:=by kernel_rfl
 i232:=by kernel_rfl
 i233:=by kernel_rfl
 m15:=by kernel_rfl
 m16:=by kernel_rfl
 m17:=by kernel_rfl
 m18:=by kernel_rfl
 m19:=by kernel_rfl
 c0:=by kernel_rfl
 c2:=by kernel_rfl
 c3:=by kernel_rfl
 c4:=by kernel_rfl
 c5:=by kernel_rfl
 c9:=by kernel_rfl
 c20:=by kernel_rfl
 c21:=by kernel_rfl
 c37:=by kernel_rfl
 c46:=by kernel_rfl
 c51:=by kernel_rfl
 c53:=by kernel_rfl
 c75:=by kernel_rfl
 c76:=by kernel_rfl
 c80:=by kernel_rfl
 c85:=by kernel_rfl
 c127:=by kernel_rfl
 c143:=by kernel_rfl
 c145:=by kernel_rfl
 c167:=by kernel_rfl
 c168:=by kernel_rfl
 c171:=by kernel_rfl
 c173:=by kernel_rfl
 c175:=by kernel_rfl
 c210:=by kernel_rfl
 c212:=by kernel_rfl
 c213:=by kernel_rfl
 c232:=by kernel_rfl
 c233:=by kernel_rfl }
def adT:Go.Shelf.Ren:=⟨fun | 171=>132 | 243=>158 | 246=>174 | 283=>195 | 284=>196 | 285=>197 | 286=>198 | 129=>185 | 317=>209 | 318=>210 | 319=>211 | 320=>212 | 337=>217 | 338=>218 | n=>n,fun | 3=>3 | 9=>9 | 2=>2 | 4=>4 | 171=>239 | 0=>0 | 53=>227 | 37=>45 | 5=>5 | 173=>241 | 212=>256 | 51=>225 | 20=>20 | 213=>257 | 46=>208 | 232=>267 | 233=>268 | n=>n,fun | 17=>3 | 18=>4 | 19=>5 | n=>n⟩
theorem FI:Go.Proofs.LaysM.n171 Tryz.prog adT := {
 mixed:=by kernel_rfl
 f129:=Tryz.func185.trans (congrArg some (by kernel_rfl))
 f171:=Tryz.func132.trans (congrArg some (by kernel_rfl))
 f243:=Tryz.func158.trans (congrArg some (by kernel_rfl))
 f246:=Tryz.func174.trans (congrArg some (by kernel_rfl))
 f283:=Tryz.func195.trans (congrArg some (by kernel_rfl))
 f284:=Tryz.func196.trans (congrArg some (by kernel_rfl))
 f285:=Tryz.func197.trans (congrArg some (by kernel_rfl))
 f286:=Tryz.func198.trans (congrArg some (by kernel_rfl))
 f317:=Tryz.func209.trans (congrArg some (by kernel_rfl))
 f318:=Tryz.func210.trans (congrArg some (by kernel_rfl))
 f319:=Tryz.func211.trans (congrArg some (by kernel_rfl))
 f320:=Tryz.func212.trans (congrArg some (by kernel_rfl))
 f337:=Tryz.func217.trans (congrArg some (by kernel_rfl))
 f338:=Tryz.func218.trans (congrArg some (by kernel_rfl))
 t0:=Tryz.underlying0
 a0:=Tryz.isAgg0
 z0:=Tryz.sizeOf0
 v0:=Tryz.zeroValue0
 t2:=Tryz.underlying2
 a2:=Tryz.isAgg2
 z2:=Tryz.sizeOf2
 v2:=Tryz.zeroValue2
 t3:=Tryz.underlying3
 a3:=Tryz.isAgg3
 z3:=Tryz.sizeOf3
 v3:=Tryz.zeroValue3
 t4:=Tryz.underlying4
 a4:=Tryz.isAgg4
 z4:=Tryz.sizeOf4
 v4:=Tryz.zeroValue4
 t5:=Tryz.underlying5
 a5:=Tryz.isAgg5
 z5:=Tryz.sizeOf5
 v5:=Tryz.zeroValue5
 t9:=Tryz.underlying9
 a9:=Tryz.isAgg9
 z9:=Tryz.sizeOf9
 v9:=Tryz.zeroValue9
 t20:=Tryz.underlying20
 a20:=Tryz.isAgg20
 z20:=Tryz.sizeOf20
 v20:=Tryz.zeroValue20
 t37:=Tryz.underlying45
 a37:=Tryz.isAgg45
 z37:=Tryz.sizeOf45
 v37:=Tryz.zeroValue45
 t46:=Tryz.underlying208
 a46:=Tryz.isAgg208
 z46:=Tryz.sizeOf208
 v46:=Tryz.zeroValue208
 t51:=Tryz.underlying225
 a51:=Tryz.isAgg225
 z51:=Tryz.sizeOf225
 v51:=Tryz.zeroValue225
 t53:=Tryz.underlying227
 a53:=Tryz.isAgg227
 z53:=Tryz.sizeOf227
 v53:=Tryz.zeroValue227
 t171:=Tryz.underlying239
 a171:=Tryz.isAgg239
 z171:=Tryz.sizeOf239
 v171:=Tryz.zeroValue239
 t173:=Tryz.underlying241
 a173:=Tryz.isAgg241
 z173:=Tryz.sizeOf241
 v173:=Tryz.zeroValue241
 t212:=Tryz.underlying256
 a212:=Tryz.isAgg256
 z212:=Tryz.sizeOf256
 v212:=Tryz.zeroValue256
 t213:=Tryz.underlying257
 a213:=Tryz.isAgg257
 z213:=Tryz.sizeOf257
 t232:=Tryz.underlying267
 a232:=Tryz.isAgg267
 z232:=Tryz.sizeOf267
 v232:=Tryz.zeroValue267
 t233:=Tryz.underlying268
 a233:=Tryz.isAgg268
 z233:=Tryz.sizeOf268
 v233:=Tryz.zeroValue268
 g17:=by kernel_rfl
 g18:=by kernel_rfl
 g19:=by kernel_rfl
 i0:=by kernel_rfl
 i2:=by kernel_rfl
 i3:=by kernel_rfl
 i4:=by kernel_rfl
 i5:=by kernel_rfl
 i9:=by kernel_rfl
 i20:=by kernel_rfl
 i37:=by kernel_rfl
 i46:=by kernel_rfl
 i51:=by kernel_rfl
 i53:=by kernel_rfl
 i171:=by kernel_rfl
 i173:=by kernel_rfl
 i212:=by kernel_rfl
 i232:=by kernel_rfl
 i233:=by kernel_rfl
 m17:=by kernel_rfl
 m18:=by kernel_rfl
 m19:=by kernel_rfl }
def adV:Go.Shelf.Ren:=⟨fun | 316=>127 | n=>n,fun | 9=>9 | 3=>3 | 4=>4 | 37=>45 | 0=>0 | 127=>202 | 5=>5 | n=>n,fun | n=>n⟩
theorem adU:Go.Proofs.LaysM.n316 Tryz.prog adV := {
 mixed:=by kernel_rfl
 f316:=Tryz.func127.trans (congrArg some (by kernel_rfl))
 t0:=Tryz.underlying0
 a0:=Tryz.isAgg0
 z0:=Tryz.sizeOf0
 v0:=Tryz.zeroValue0
 t3:=Tryz.underlying3
 a3:=Tryz.isAgg3
 z3:=Tryz.sizeOf3
 v3:=Tryz.zeroValue3
 t4:=Tryz.underlying4
 a4:=Tryz.isAgg4
 z4:=Tryz.sizeOf4
 v4:=Tryz.zeroValue4
 t9:=Tryz.underlying9
 a9:=Tryz.isAgg9
 z9:=Tryz.sizeOf9
 v9:=Tryz.zeroValue9
 t37:=Tryz.underlying45
 a37:=Tryz.isAgg45
 z37:=Tryz.sizeOf45
 v37:=Tryz.zeroValue45
 t127:=Tryz.underlying202
 a127:=Tryz.isAgg202
 z127:=Tryz.sizeOf202
 v127:=Tryz.zeroValue202
 t5:=Tryz.underlying5
 a5:=Tryz.isAgg5
 z5:=Tryz.sizeOf5
 v5:=Tryz.zeroValue5
 i0:=by kernel_rfl
 i3:=by kernel_rfl
 i4:=by kernel_rfl
 i5:=by kernel_rfl
 i9:=by kernel_rfl
 i37:=by kernel_rfl
 i127:=by kernel_rfl }
theorem J7(s p:aH):aP Tryz.prog 125 [enc s,enc p] (.tuple [enc (aH.of (Lib.trimSuffix s.l p.l)),enc (Lib.hasSuffix s.l p.l)]):=QS adW Mo s p
theorem J6(s:aH)(c:UInt8):aP Tryz.prog 123 [enc s,.int .u8 c.toNat] (enc (Lib.indexByte s.l c)):=QT FJ Mn s c
theorem xc(s:aH)(hs:s.l.length≤281474976710656):aP Tryz.prog 155 [enc s] (ji 234 s.l):=QP adR MP (by kernel_rfl) (by kernel_rfl) rfl s hs
theorem Kd(n:Int):aP Tryz.prog 132 [enc n] (enc (yY n)):=QU FI Mv (g:=3) (by kernel_rfl) n
theorem J9(s:aH)(hs:s.l.length≤281474976710656):aP Tryz.prog 127 [enc s] (enc s):=QR adU Mp s hs
theorem adQ:Go.Proofs.Lays.n217 Tryz.prog FK := { FJ with }
theorem adn(l:List UInt8)(c:UInt8):-1≤Lib.indexByte l c∧Lib.indexByte l c≤l.length:=by
 refine ⟨Lib.indexByte_ge l c,?_⟩
 induction l with
 |nil=>simp[Lib.indexByte]
 |cons b l ih =>
  unfold Lib.indexByte
  (repeat' split) <;>simp only[zx5] <;>omega
theorem Ko(s:aH)(c:UInt8):aP Tryz.prog 152 [enc s,.int .u8 c.toNat] (enc (Lib.indexByte s.l c)):=by
 refine ⟨MN,fun w D vs hl hD ae =>?_⟩;obtain ⟨rest,rfl,hsz,hv2⟩:=AF ae;simp only[aD] at hv2;obtain ⟨v,rest2,cs,rfl,h1,h2,rfl⟩:=hv2;obtain ⟨rfl,_⟩:=ef (gD h1 h2);have key:=Any.stringslite_IndexByte adQ s.b (c.toNat:Int) w;have hcc:((c.toNat:Int)).toNat.toUInt8=c:=by simp
 rw[hcc] at key;refine Calls.mono key ?_;rintro e w' ⟨rfl,rfl⟩;refine ⟨_,D,rfl,⟨[_],by simp[bm,I.isAgg,enc];rfl,?_⟩,Go.RowKit.Below.refl _ w',hD,fun _ _ h _=>h⟩
 show ai _ _ _ (.int .i64 (Lib.indexByte s.l c)) _
 simp only[ai];refine ⟨rfl,?_⟩;have g:=adn s.l c;rw[aH.size] at hsz;have hmin:IntKind.i64.min=-9223372036854775808:=by decide
 have hmax:IntKind.i64.max=9223372036854775807:=by decide
 unfold maxLen at hsz;rw[hmin,hmax];omega
theorem Kv(s:aH)(c:UInt8):aP Tryz.prog 188 [enc s,enc (aH.of [c])] (enc (Lib.indexByte s.l c)):=by
 refine aP.bM Tryz.func188 MY OB Qd (t7 rfl) (fun hwf W0 bI E1 =>?_);simp only[CI,HR,bC,zz4];have hsi:=Jd (aH.of [c]) (i:=0) (by rw[aH.eJ];exact Nat.zero_lt_one);have hl1:oy (enc (aH.of [c]))=some (.int .i64 1):=by rw[tE];rfl
 have hsi':fq .eM [enc (aH.of [c]),.int .i64 0]=some (.int .u8 (c.toNat:Int)):=hsi;cases q:decide (aH.of [c]=s)
 ·have R:=y6 @hsi' (y6 @hl1 (y6 @q (y6 @bA aw)))
  repeat' ((first |(with_reducible refine .guard (fun hb =>?_) (fun hb =>?_) <;>try simp only[hb])|refine ab.aA (by decide +kernel) rfl fun K hK =>?_|refine .flat _ (Ko s c) rfl ?_|(refine .av [0,1,4,5,6,7,8,9,10,11,12,13,16,24,31,36,59,64,73,93,107,114,132,139] hK ?_;clear hK K)|(with_reducible refine .done (hK _ ?_);clear hK K)|refine ab.of rfl ?_|(with_reducible refine ar.az (fun h =>?_) (fun h =>?_) <;>try simp only[h])) <;>try simp only[aB,R,simprocAttr])
  all_goals clear R
 ·have e:=of_decide_eq_true q;subst e;have R:=y6 @hl1 (y6 @bA aw)
  repeat' ((first |(with_reducible refine .guard (fun hb =>?_) (fun hb =>?_) <;>try simp only[hb])|refine ab.aA (by decide +kernel) rfl fun K hK =>?_|(refine .av [0,1,4,5,6,7,8,9,10,11,12,13,16,24,31,36,59,64,73,93,107,114,132,139] hK ?_;clear hK K)|(with_reducible refine .done (hK _ ?_);clear hK K)|refine ab.of rfl ?_|(with_reducible refine ar.az (fun h =>?_) (fun h =>?_) <;>try simp only[h])) <;>try simp only[aB,R,eq_self,decide_true,simprocAttr])
  all_goals clear R
  show I.int .i64 0=I.int .i64 (Lib.indexByte [c] c)
  simp[Lib.indexByte]
def ec(c:UInt8):List UInt8→Option (List UInt8×List UInt8)
 | []=>none
 |b::l=>if b=c then some ([],l) else (ec c l).map fun p=>(b::p.1,p.2)
def lv(c:UInt8)(l:List UInt8):List UInt8×List UInt8×Bool:=match ec c l with
 |some p=>(p.1,p.2,true)
 |none=>(l,[],false)
theorem uJ(c:UInt8):∀ l:List UInt8,(ec c l=none∧Lib.indexByte l c=-1)∨∃ i:Nat,i<l.length∧Lib.indexByte l c=i∧ec c l=some (l.take i,l.drop (i+1))
 | []=>.inl ⟨rfl,rfl⟩
 |b::l=>by
  by_cases h:b=c
  ·refine .inr ⟨0,by simp,by simp[Lib.indexByte,h],by simp[ec,h]⟩
  ·rcases uJ c l with ⟨h1,h2⟩ | ⟨i,h0,h1,h2⟩
   ·refine .inl ⟨by simp[ec,h,h1],by simp[Lib.indexByte,h,h2]⟩
   ·refine .inr ⟨i+1,by simpa using h0,?_,by simp[ec,h,h2]⟩;simp only[Lib.indexByte,h1];simp[h]
    try omega
theorem Kt(s:aH)(c:UInt8):aP Tryz.prog 170 [enc s,enc (aH.of [c])] (.tuple [enc (aH.of (lv c s.l).1),enc (aH.of (lv c s.l).2.1),enc (lv c s.l).2.2]):=by
 refine aP.wf Dm fun hwf0 =>?_;have hlen:s.l.length≤maxLen:=by
  have:=hwf0.1;rw[←aH.size];exact this
 simp only[maxLen] at hlen;refine aP.bM Tryz.func170 Dm Ox P9 (t7 rfl) (fun hwf W0 bI E1 =>?_);simp only[CF,HN,bC,zz4];clear hwf;have hF:=Kv s c;have hl1:oy (enc (aH.of [c]))=some (.int .i64 1):=by rw[tE];rfl
 rcases uJ c s.l with ⟨h1,h2⟩ | ⟨i,h0,h1,h2⟩
 ·rw[h2] at hF;simp only[lv,h1];have R:=y6 @hl1 (y6 @bA aw)
  repeat' ((first |refine ab.aA (by decide +kernel) rfl fun K hK =>?_|refine .flat _ (hF) rfl ?_|(refine .av [0,1,4,5,6,7,12] hK ?_;clear hK K)|(with_reducible refine .done (hK _ ?_);clear hK K)|refine ab.of rfl ?_|(with_reducible refine ar.az (fun h =>?_) (fun h =>?_) <;>try simp only[h])) <;>try simp only[aB,R,decide_false,simprocAttr])
  all_goals clear R
  rw[aH.zu];rfl
 ·rw[h1] at hF;simp only[lv,h2];have g1:=tF s (j:=i) (by omega);have g2:=Al s (i:=i+1) (by omega);have hw:=eO (i:=i) (by omega);have hd:decide ((i:Int)≥0)=true:=decide_eq_true (by omega);have R:=y6 @hd (y6 @hl1 (y6 @hw (y6 @g1 (y6 @g2 (y6 @bA aw)))))
  repeat' ((first |refine ab.aA (by decide +kernel) rfl fun K hK =>?_|refine .flat _ (hF) rfl ?_|(refine .av [0,1,4,5,6,7,12] hK ?_;clear hK K)|(with_reducible refine .done (hK _ ?_);clear hK K)|refine ab.of rfl ?_|(with_reducible refine ar.az (fun h =>?_) (fun h =>?_) <;>try simp only[h])) <;>try simp only[aB,R,decide_true,simprocAttr])
  all_goals clear R
  trace_state
  all_goals rfl
theorem Bc(s:aH)(c:UInt8):aP Tryz.prog 154 [enc s,enc (aH.of [c])] (.tuple [enc (aH.of (lv c s.l).1),enc (aH.of (lv c s.l).2.1),enc (lv c s.l).2.2]):=by
 refine aP.bM Tryz.func154 MO Oo P3 (t7 rfl) (fun hwf W0 bI E1 =>?_);simp only[CA,HG,bC,zz4];have R:=y6 @bA aw
 repeat' ((first |refine ab.aA (by decide +kernel) rfl fun K hK =>?_|refine .flat _ (Kt s c) rfl ?_|(refine .av [0,1,4,5,6] hK ?_;clear hK K)|(with_reducible refine .done (hK _ ?_);clear hK K)|refine ab.of rfl ?_|(with_reducible refine ar.az (fun h =>?_) (fun h =>?_) <;>try simp only[h])) <;>try simp only[aB,R,simprocAttr])
 all_goals clear R
 all_goals rfl
theorem KG(s:aH)(hs:s.l.length≤281474976710656):aP Tryz.prog 74 [enc s] (enc s):=by
 refine aP.bM Tryz.func74 Np OX QA (t7 rfl) (fun hwf W0 bI E1 =>?_);simp only[C3,Ig,bC];have R:=y6 @bA aw
 repeat' ((first |refine ab.aA (by decide +kernel) rfl fun K hK =>?_|refine .flat _ (J9 s hs) rfl ?_|(refine .av [0,2] hK ?_;clear hK K)|(with_reducible refine .done (hK _ ?_);clear hK K)|refine ab.of rfl ?_|(with_reducible refine ar.az (fun h =>?_) (fun h =>?_) <;>try simp only[h])) <;>try simp only[aB,R,simprocAttr])
 all_goals clear R
 all_goals rfl
end Go.Proofs.YtoffnnjbplgnaaaGreatDoor
namespace Go.Proofs.YtoffnnjbplgnaaaGreatDoor
open Go Go.Abs
open Go.Abs.Enc (enc)
theorem DJ{c:UInt8} : ∀ {x:List UInt8} (y:List UInt8),(∀ b∈x,b≠c)→ec c (x++c::y)=some (x,y)
 | [],y,_=>by simp[ec]
 |b::x,y,h=>by
  have ih:=DJ (x:=x) y fun z hz=>h z (by simp[hz]);simp only[zz8,ec,if_neg (h b (by simp)),ih,zy5]
def dV(l:List Int):List UInt8:=l.flatMap fun n=>Lib.itoa n++[32]
def je(f:List UInt8→Option Int):Nat→List UInt8→Option (List Int×List UInt8)
 |0,s=>some ([],s)
 |k+1,s=>match ec 32 s with
  |none=>none
  |some (w,t)=>match f w with
   |none=>none
   |some n=>(je f k t).map fun p=>(n::p.1,p.2)
theorem AL{f:List UInt8→Option Int}(t:List UInt8):∀ {l:List Int},(∀ n∈l,0≤n∧f (Lib.itoa n)=some n)→je f l.length (dV l++t)=some (l,t)
 | [],_=>rfl
 |n::l,h=>by
  have ih:=AL t (l:=l) fun m hm=>h m (by simp[hm]);have hn:=h n (by simp);simp only[zx5,je,dV,List.flatMap_cons,zz7,zz8,zy3];rw[DJ _ (DS hn.1 (by decide))];simp only[hn.2];rw[dV] at ih;rw[ih,zy5]
def gU(w:List UInt8):Option Int:=match Lib.atoiAll w with
 | .ok n=>some n
 |_=>none
def mE(w:List UInt8):Option Int:=if w=[]∨8<w.length then none else (fA 0 w).map fun n=>(n:Int)
theorem GJ{n:Int}(h:0≤n∧n<100000000):gU (Lib.itoa n)=some n∧mE (Lib.itoa n)=some n:=by
 obtain ⟨m,rfl⟩:=zy2 h.1;have hm:=aeD (k:=7) (show m<10^(7+1) by omega);obtain ⟨h1,h2,_⟩:=aeE (by omega) hm;refine ⟨by rw[gU,h1],?_⟩;rw[mE,if_neg]
 ·rw[Lib.itoa_nonneg,(qy m).1];rfl
 ·rintro (k | k)
  ·exact adz h.1 k
  ·omega
def eK(r:ah):List Int:=[r.aI,r.no,r.kind,r.eP,r.known,r.gb,r.gp]
def j0(n:List Int)(t:List UInt8):ah:=⟨n.getD 1 0,n.getD 2 0,n.getD 3 0,n.getD 4 0,n.getD 5 0,n.getD 6 0,n.getD 7 0,t⟩
theorem Gf(s:Int)(r:ah):j0 (s::eK r) r.text=r:=rfl
def da(r:ah):List UInt8:=dV (eK r)++r.text
def dE(s:Int)(l:List UInt8):Int:=l.foldl (fun s c=>(257*s+c.toNat+1)%1000003) s
theorem lW{s:Int}(h:0≤s∧s<1000003):∀ l,0≤dE s l∧dE s l<1000003:=by
 intro l
 induction l generalizing s with
 |nil=>exact h
 |cons c l ih =>
  rw[dE,List.foldl_cons];exact ih (by omega)
def db(s:Int)(r:ah):List UInt8:=dV [dE s (da r)]++da r++[10]
theorem zc(s:Int)(r:ah):db s r=(dV (dE s (da r)::eK r)++r.text)++[10]:=by
 simp only[db,da,dV,List.flatMap_cons,List.flatMap_nil,zx2,zz7]
section
variable (ok:ah→Bool)
def nf(s:Int)(t:List UInt8)(r:ah):Option (ah×Int):=if ok r=true∧db s r=t then some (r,dE s (da r)) else none
def eb(s:Int)(t:List UInt8):Option (ah×Int):=if t.getLast?=some 10 then
  (je gU 8 t.dropLast).bind fun p=>(nf ok s t (j0 p.1 p.2)).bind fun q=>if p.1.headD 0=q.2 then some q else none
 else none
def IG(s:Int)(t:List UInt8):Option (ah×Int) :=
 (je mE 8 t).bind fun p=>if t.getLast?=some 10∧p.2≠[] then nf ok s t (j0 p.1 p.2.dropLast) else none
theorem Sc{s:Int}{t:List UInt8}{r:ah}{q:ah×Int}(h:nf ok s t r=some q):ok q.1=true∧db s q.1=t∧q.2=dE s (da q.1):=by
 rw[nf] at h;by_cases c:ok r=true∧db s r=t
 ·rw[if_pos c] at h;cases h;exact ⟨c.1,c.2,rfl⟩
 ·rw[if_neg c] at h;cases h
theorem IF{s:Int}{t:List UInt8}{q:ah×Int}(h:eb ok s t=some q):ok q.1=true∧db s q.1=t∧q.2=dE s (da q.1):=by
 rw[eb] at h;by_cases c:t.getLast?=some 10
 ·rw[if_pos c] at h;cases hp:je gU 8 t.dropLast with
  |none=>rw[hp] at h;cases h
  |some p =>
   rw[hp,zu4] at h;cases he:nf ok s t (j0 p.1 p.2) with
   |none=>rw[he] at h;cases h
   |some q' =>
    rw[he,zu4] at h;by_cases k:p.1.headD 0=q'.2
    ·rw[if_pos k] at h;cases h;exact Sc ok he
    ·rw[if_neg k] at h;cases h
 ·rw[if_neg c] at h;cases h
theorem agh{s:Int}(hs:0≤s∧s<1000003){r:ah}(h:ok r=true)(hn:∀ n∈eK r,0≤n∧n<100000000) :
  eb ok s (db s r)=some (r,dE s (da r))∧IG ok s (db s r)=some (r,dE s (da r)):=by
 have hb:=lW hs (da r);have hm:∀ n∈dE s (da r)::eK r,0≤n∧n<100000000:=fun n hn'=>by
  rcases zx7.1 hn' with rfl | hn'
  ·omega
  ·exact hn n hn'
 have e:=zc s r;have hl:(db s r).getLast?=some 10:=by rw[e,List.getLast?_append];rfl
 have hd:(db s r).dropLast=dV (dE s (da r)::eK r)++r.text:=by rw[e,List.dropLast_concat]
 have he:nf ok s (db s r) r=some (r,dE s (da r)):=by rw[nf,if_pos ⟨h,rfl⟩]
 constructor
 ·rw[eb,if_pos hl,hd,show 8=(dE s (da r)::eK r).length from rfl,AL (f:=gU) r.text fun n hn'=>⟨(hm n hn').1,(GJ (hm n hn')).1⟩,zu4];simp only[Gf,he,zu4,List.headD_cons,if_true]
 ·have ht:je mE 8 (db s r)=some (dE s (da r)::eK r,r.text++[10]):=by
   rw[e,zz7];exact AL (f:=mE) (r.text++[10]) fun n hn'=>⟨(hm n hn').1,(GJ (hm n hn')).2⟩
  rw[IG,ht,zu4,if_pos ⟨hl,by simp⟩];simp only[List.dropLast_concat,Gf,he]
end
def lq:List PanicEntry:=[{ v:=.iface 176 (.agg #[]),recovered:=false }]
theorem pC{Q:Exit→af→Prop}{x:aJ}{A:af}(h:aj A x=.iface 176 (.agg []))(hq:Q (.panic lq) A):nX Tryz.prog Q (.prim .mG [x]) A:=.mG h hq
theorem lI:(∀ T:TypeId,fq (.oA T) [.agg []]=some (.iface T (.agg [])))∧fi [] []=some []:=⟨fun _=>rfl,rfl⟩
theorem zK{A:af} : zL lq (fun os'=>os'=[]) (.panic lq) A:=⟨rfl,[],[],yT,trivial,rfl,rfl⟩
theorem pg:(I.ak ⟨#[32]⟩)=enc (aH.of [32]):=rfl
theorem sv:(I.ak ⟨#[10]⟩)=enc (aH.of [10]):=rfl
theorem GH{w:List UInt8}{n:Int}(h:gU w=some n):ji 234 w=.tuple [enc n,.dh]:=by
 unfold gU at h;split at h
 ·rename_i m hm;cases h;simp only[ji,hm]
 ·cases h
theorem GG{w:List UInt8}(h:gU w=none):∃ n:Int,ji 234 w=.tuple [enc n,.iface 234 .any]:=by
 unfold gU at h;split at h
 ·cases h
 ·rename_i hm;cases hr:Lib.atoiAll w with
  |ok n=>exact absurd hr (hm n)
  |range=>exact ⟨_,by simp only[ji,hr];rfl⟩
  | _ =>exact ⟨0,by simp only[ji,hr]⟩
theorem uL{c:UInt8}{l:List UInt8}{p:List UInt8×List UInt8}(h:ec c l=some p):p.1.length+p.2.length<l.length:=by
 rcases uJ c l with ⟨h1,_⟩ | ⟨i,h0,_,h2⟩
 ·rw[h1] at h;cases h
 ·rw[h2] at h;cases h;simp only[zz6,zv3];omega
theorem A4(s:aH)(hlen:s.l.length≤281474976710656)(w t:List UInt8)(n:Int)(h1:ec 32 s.l=some (w,t))(h2:gU w=some n):aP Tryz.prog 126 [enc s] (.tuple [enc n,enc (aH.of t)]):=by
 refine aP.bM Tryz.func126 Dl Dt PJ (t7 rfl) (fun hwf W0 bI E1 =>?_);simp only[xD,Hn,bC];clear hwf;have hc:=Bc s 32;simp only[lv,h1] at hc;have hl:=uL h1;simp only at hl;have ha:=xc (aH.of w) (by rw[aH.eJ];omega);rw[aH.eJ,GH h2] at ha;have R:=y6 @pg (y6 @bA aw)
 repeat' ((first |(with_reducible refine .guard (fun hb =>?_) (fun hb =>?_) <;>try simp only[hb])|refine ab.aA (by decide +kernel) rfl fun K hK =>?_|refine .flat _ (hc) rfl ?_|refine .lead _ (ha) ?_|(refine .av [0,2,3,4,5,6,7,8,25] hK ?_;clear hK K)|(with_reducible refine .done (hK _ ?_);clear hK K)|refine ab.of rfl ?_|(with_reducible refine ar.az (fun h =>?_) (fun h =>?_) <;>try simp only[h])) <;>try simp only[aB,R,simprocAttr])
 all_goals clear R
 all_goals rfl
theorem J8(s:aH)(hlen:s.l.length≤281474976710656)(h:∀ w t,ec 32 s.l=some (w,t)→gU w=none):rW Tryz.prog 126 lq [enc s] [] (fun os'=>os'=[]):=by
 refine rW.mk Tryz.func126 Dl Dt (t7 rfl) (t7 rfl) (fun m hm=>by simp[ay,aq] at hm) (fun hwf W0 bI E1 =>?_);simp only[xD,bC];clear hwf;have hc:=Bc s 32;cases h1:ec 32 s.l with
 |none =>
  simp only[lv,h1] at hc;have ha:=xc (aH.of s.l) (by rw[aH.eJ];omega);rw[aH.eJ] at ha;cases ho:gU s.l with
  |some n =>
   rw[GH ho] at ha;have R:=y6 @pg (y6 @lI (y6 @bA aw))
   repeat' ((first |(with_reducible refine .guard (fun hb =>?_) (fun hb =>?_) <;>try simp only[hb])|(refine ab.nG (gs:=u4) (gs1:=[_,_]) rfl fun K hK =>?_)|refine ab.aA (by decide +kernel) rfl fun K hK =>?_|refine .flat _ (hc) rfl ?_|refine .lead _ (ha) ?_|(refine .av [0,2,3,4,5,6,7,8,25] hK ?_;clear hK K)|(with_reducible refine .done (hK _ ?_);clear hK K)|refine ab.of rfl ?_|(with_reducible refine ar.az (fun h =>?_) (fun h =>?_) <;>try simp only[h])) <;>try simp only[aB,R,simprocAttr])
   all_goals clear R
   refine pC ?_ zK;rfl
  |none =>
   obtain ⟨n,hn⟩:=GG ho;rw[hn] at ha;have R:=y6 @pg (y6 @lI (y6 @bA aw))
   repeat' ((first |(with_reducible refine .guard (fun hb =>?_) (fun hb =>?_) <;>try simp only[hb])|(refine ab.nG (gs:=u4) (gs1:=[_,_]) rfl fun K hK =>?_)|refine ab.aA (by decide +kernel) rfl fun K hK =>?_|refine .flat _ (hc) rfl ?_|refine .lead _ (ha) ?_|(refine .av [0,2,3,4,5,6,7,8,25] hK ?_;clear hK K)|(with_reducible refine .done (hK _ ?_);clear hK K)|refine ab.of rfl ?_|(with_reducible refine ar.az (fun h =>?_) (fun h =>?_) <;>try simp only[h])) <;>try simp only[aB,R,simprocAttr])
   all_goals clear R
   refine pC ?_ zK;rfl
 |some p =>
  obtain ⟨w,t⟩:=p;simp only[lv,h1] at hc;have hl:=uL h1;simp only at hl;have ha:=xc (aH.of w) (by rw[aH.eJ];omega);obtain ⟨n,hn⟩:=GG (h w t h1);rw[aH.eJ,hn] at ha;have R:=y6 @pg (y6 @lI (y6 @bA aw))
  repeat' ((first |(with_reducible refine .guard (fun hb =>?_) (fun hb =>?_) <;>try simp only[hb])|(refine ab.nG (gs:=u4) (gs1:=[_,_]) rfl fun K hK =>?_)|refine ab.aA (by decide +kernel) rfl fun K hK =>?_|refine .flat _ (hc) rfl ?_|refine .lead _ (ha) ?_|(refine .av [0,2,3,4,5,6,7,8,25] hK ?_;clear hK K)|(with_reducible refine .done (hK _ ?_);clear hK K)|refine ab.of rfl ?_|(with_reducible refine ar.az (fun h =>?_) (fun h =>?_) <;>try simp only[h])) <;>try simp only[aB,R,simprocAttr])
  all_goals clear R
  refine pC ?_ zK;rfl
theorem adk:ud Tryz.prog 124 3:=⟨Dk,fun bs w hb=>by
 obtain ⟨b1,b2,b3,rfl⟩:∃ b1 b2 b3,bs=[b1,b2,b3]:=by
  match bs,hb with
  | [a,b,c],_=>exact ⟨a,b,c,rfl⟩
 refine callsDIn_of_wpSIn Tryz.func124 rfl trivial fun c₀ cs hu =>?_;apply wpSIn_seq;apply wpSIn_region;simp[wpOpsSIn,go_sem,recoverD,hu,Tryz.ntmps124,Exit.thenS];refine wpSIn_of_wpIn rfl (wpIn_block (wpIn_seq (wpIn_region_list ?_)));simp[wpListIn,go_sem];refine wpIn_cond (t:=true) (by simp[Act.eval,Array.replicate]) ?_;simp only[if_true];refine wpIn_region_list ?_;simp[wpListIn,go_sem,Exit.inBlock];cases c₀
 simp_all[bodyPostS,results,Tryz.results124]⟩
theorem zH{P:Program}{o:Oper}{a:Act}{w w':World}{Kw:Act→World→Prop}{Q:Exit→Act→World→Prop}{n:Nat}(h:(execOp a.eval o).run P w=.ok .skip w')(hK:Kw (a.put o.dst undef) w'):o.wpIn Fence.wide n P a w Kw Q:=by
 refine ⟨fun _ _=>trivial,?_⟩
 show o.uponIn _ _ _ _ _ _ ((execOp a.eval o).run P w)
 rw[h,Oper.uponIn_skip];exact hK
theorem afA{P:Program}{o:Oper}{a:Act}{w w':World}{v:Value}{Kw:Act→World→Prop}{Q:Exit→Act→World→Prop}{n:Nat}(h:(execOp a.eval o).run P w=.ok (.value v) w')(hK:Kw (a.put o.dst v) w'):o.wpIn Fence.wide n P a w Kw Q:=by
 refine ⟨fun _ _=>trivial,?_⟩
 show o.uponIn _ _ _ _ _ _ ((execOp a.eval o).run P w)
 rw[h,Oper.uponIn_value];exact hK
theorem AA{P:Program}{o:Oper}{ρ:Operand→Value}{t:TypeId}{x y:Operand}{p v:Value}{w w':World}(ho:o.op=.store t x y)(hx:ρ x=p)(hy:ρ y=v)(h:(Instr.storeAt t p v).run P w=.ok () w'):(execOp ρ o).run P w=.ok .skip w':=by
 simp only[execOp,ho,hx,hy,Sem.run_bind,h];rfl
theorem AD{c:cP}{A:af}{a:Act}{w:World}{D:aO}{E:aU}{P:Program}(hs:aT c A a w D E){N b:Nat}{x z:I}{v:Value}{ds:List Value}{t:TypeId}{i:TypeInfo}(hn:A.o N=some (.box x))(aE:E N=some (.aG b z.aN))(hsh:x.aN=z.aN)
  (hz:ai w D E z ds) (ae:v.cells.toList=ds) (hi:P.info? t=some i) (hsz:i.size=ds.length) :
  ∃ w',(Instr.storeAt t (lQ b) v).run P w=.ok () w'∧aT c (A.aM N (.box z)) a w' D E:=by
 obtain ⟨b',cs,T,k1,k2,k3,k4,k5⟩:=hs.box hn;rw[aE] at k1;simp only[v6,bL.aG.injEq] at k1;obtain ⟨rfl,_⟩:=k1;have l1:=ai.length _ _ k4;have l2:=ai.length _ _ hz;have l3:x.size=z.size:=by rw[←I.jN x,←I.jN z,hsh]
 have hcl:cs.size=ds.length:=by rw[←zw5,l1,l2,l3]
 have hrun:=wE P b 0 T ds 0 cs w k3 (by omega) (ai.mD _ _ hz);simp only[Nat.add_zero] at hrun;have e:(cs.toList.take 0++ds++cs.toList.drop (0+ds.length))=ds:=by
  rw[List.take_zero,zy3,zz4,zv9 (by rw[zw5];omega),zx2]
 rw[e] at hrun;have hs2:=hs.Ao (y:=z) (cs':=ds.toArray) hn (hsh▸aE) hsh.symm (by simpa using hz);refine ⟨w.setRow b ds.toArray,?_,hs2⟩;have hg:¬ v.cells.size≠i.size:=by rw[hsz,←ae];simp
 have e2:P.cellsOf t=i.size:=by simp[Program.cellsOf,hi]
 simp only[lQ,Instr.storeAt,Instr.sureAddr,storeVar,Sem.run_bind,Sem.run_pure,Result.andThen_ok,jb hi,Sem.run_ite,e2,if_neg hg,ae,hrun]
theorem NP:tW Tryz.prog 124 lq [enc (default:ah),.int .i64 0,.bool false]:=⟨Dk,fun c A a w D E Ns bs hP hs aE hA=>by
 have hta:∀ W,(Instr.typeAssert (.iface 176 (.agg #[])) 20 176 true).run Tryz.prog W=.ok (.tuple #[.agg #[],.bool true]) W:=fun W=>by
  simp[Instr.typeAssert,run_underlying Tryz.underlying176]
 obtain ⟨N1,N2,N3,rfl⟩:∃ a b c,Ns=[a,b,c]:=by
  match Ns,aE.len.2 with
  | [a,b,c],_=>exact ⟨a,b,c,rfl⟩
 obtain ⟨b1,b2,b3,rfl⟩:∃ a b c,bs=[a,b,c]:=by
  match bs,aE.len.1 with
  | [a,b,c],_=>exact ⟨a,b,c,rfl⟩
 obtain ⟨hE1,hE2,hE3,_⟩:=aE;obtain ⟨⟨x1,hx1,hsh1⟩,⟨x2,hx2,hsh2⟩,⟨x3,hx3,hsh3⟩,_⟩:=hA;refine callsDIn_of_wpSIn Tryz.func124 rfl trivial fun c₀ cs hu =>?_;apply wpSIn_seq;apply wpSIn_region;simp[wpOpsSIn,go_sem,recoverD,hu,Tryz.ntmps124,Exit.thenS,lq];refine wpSIn_of_wpIn rfl (wpIn_block (wpIn_seq (wpIn_region_list ?_)));simp[wpListIn,go_sem];refine wpIn_cond (t:=false) (by simp[Act.eval,Array.replicate]) ?_;simp only[zy0,if_false];refine wpIn_seq (wpIn_region_list ?_);simp[wpListIn,go_sem,hta];refine wpIn_cond (t:=true) (by simp[Act.eval,Array.replicate]) ?_;simp only[if_true];refine wpIn_seq (wpIn_region_list ?_);simp[wpListIn,go_sem];refine wpIn_region_list ?_;have hb:Go.RowKit.Below w.heap.size w (w.alloc (Obj.cells #[] 176)):=kL _ _;have hs1:=hs.grow (D':=D) hb (fun _ _ h=>h) (fun _ _ h _=>h) (fun b o hd=>zu5 (hs.dy b o hd) hb.size);generalize w.alloc (Obj.cells #[] 176)=W1 at *;have nx:∀ {A:af} {N M b d:Nat} {z y:I},E N=some (.aG b z.aN)→E M=some (.aG d y.aN)→(∃ x,A.o M=some (.box x)∧x.aN=y.aN)→∃ x,(A.aM N (.box z)).o M=some (.box x)∧x.aN=y.aN:=by
  intro A N M b d z y h1 h2 ⟨x,h3,h4⟩;by_cases e:M=N
  ·subst e;rw[h1] at h2;simp only[v6,bL.aG.injEq] at h2;exact ⟨z,by simp[af.aM],h2.2⟩
  ·exact ⟨x,by simp[af.aM,e,h3],h4⟩
 obtain ⟨i50,hi50,hz50⟩:∃ i,Tryz.prog.info? 50=some i∧i.size=8:=by
  have h:(Tryz.prog.info? 50).map (·.size)=some 8:=by kernel_rfl
  obtain ⟨i,h1,h2⟩:=t8.1 h;exact ⟨i,h1,h2⟩
 obtain ⟨i3,hi3,hz3⟩:∃ i,Tryz.prog.info? 3=some i∧i.size=1:=by
  have h:(Tryz.prog.info? 3).map (·.size)=some 1:=by kernel_rfl
  obtain ⟨i,h1,h2⟩:=t8.1 h;exact ⟨i,h1,h2⟩
 obtain ⟨i4,hi4,hz4⟩:∃ i,Tryz.prog.info? 4=some i∧i.size=1:=by
  have h:(Tryz.prog.info? 4).map (·.size)=some 1:=by kernel_rfl
  obtain ⟨i,h1,h2⟩:=t8.1 h;exact ⟨i,h1,h2⟩
 obtain ⟨W2,hst1,hs2⟩:=AD (P:=Tryz.prog) (t:=50) (z:=enc (default:ah)) (v:=.agg #[.int .i64 0,.int .i64 0,.int .i64 0,.int .i64 0,.int .i64 0,.int .i64 0,.int .i64 0,.string ⟨#[]⟩]) hs1 hx1 hE1 hsh1
  (ds:=[.int .i64 0,.int .i64 0,.int .i64 0,.int .i64 0,.int .i64 0,.int .i64 0,.int .i64 0,.string ⟨#[]⟩]) (by
   show ai _ _ _ (.agg [.agg [.int .i64 0,.int .i64 0],.int .i64 0,.int .i64 0,.int .i64 0,.agg [.int .i64 0,.int .i64 0],.ak ⟨#[]⟩]) _
   simp only[ai,aK];refine ⟨[.int .i64 0,.int .i64 0],_,rfl,⟨[.int .i64 0],_,rfl,⟨rfl,by decide⟩,[.int .i64 0],_,rfl,⟨rfl,by decide⟩,rfl⟩,[.int .i64 0],_,rfl,⟨rfl,by decide⟩,[.int .i64 0],_,rfl,⟨rfl,by decide⟩,[.int .i64 0],_,rfl,⟨rfl,by decide⟩,[.int .i64 0,.int .i64 0],_,rfl,⟨[.int .i64 0],_,rfl,⟨rfl,by decide⟩,[.int .i64 0],_,rfl,⟨rfl,by decide⟩,rfl⟩,[.string ⟨#[]⟩],[],rfl,⟨rfl,by decide⟩,rfl⟩) rfl hi50 hz50
 obtain ⟨y2,hy2,hsh2'⟩:=nx hE1 hE2 ⟨x2,hx2,hsh2⟩;obtain ⟨W3,hst2,hs3⟩:=AD (P:=Tryz.prog) (t:=3) (z:=.int .i64 0) (v:=.int .i64 0) hs2 hy2 hE2 hsh2' (ds:=[.int .i64 0]) (by simp only[ai];exact ⟨trivial,by decide⟩) rfl hi3 hz3;obtain ⟨y3,hy3,hsh3'⟩:=nx hE2 hE3 (nx hE1 hE3 ⟨x3,hx3,hsh3⟩);obtain ⟨W4,hst3,hs4⟩:=AD (P:=Tryz.prog) (t:=4) (z:=.bool false) (v:=.bool false) hs3 hy3 hE3 hsh3' (ds:=[.bool false]) (by simp only[ai]) rfl hi4 hz4;have hbl:∀ W,(Instr.build 50 #[]).run Tryz.prog W=.ok (.agg #[.int .i64 0,.int .i64 0,.int .i64 0,.int .i64 0,.int .i64 0,.int .i64 0,.int .i64 0,.string ⟨#[]⟩]) W:=fun W=>by
  simp[Instr.build,Tryz.zeroValue50,Instr.fill,Value.cells]
 simp only[wpListIn,Region.wanted,if_true];refine afA (v:=.agg #[.int .i64 0,.int .i64 0,.int .i64 0,.int .i64 0,.int .i64 0,.int .i64 0,.int .i64 0,.string ⟨#[]⟩]) (by simp only[execOp,Array.map_empty,Sem.run_bind,hbl];rfl) ?_;refine zH (AA rfl (by simp[Act.eval,Act.put]) (by simp[Act.eval,Act.put]) hst1) ?_;refine zH (AA rfl (by simp[Act.eval,Act.put]) (by simp[Act.eval]) hst2) ?_;refine zH (AA rfl (by simp[Act.eval,Act.put]) (by simp[Act.eval]) hst3) ?_;simp[Exit.inBlock,bodyPostS,results,Tryz.results124,settle];exact ⟨rfl,hs4⟩⟩
end Go.Proofs.YtoffnnjbplgnaaaGreatDoor
namespace Go.Proofs.YtoffnnjbplgnaaaGreatDoor
open Go Go.Abs Go.Shelf Go.RowKit
open Go.Abs.Enc (enc)
def FL:Go.Shelf.Ren:=⟨fun | 166=>156 | 240=>173 | 276=>194 | n=>n,fun | 70=>203 | 9=>9 | 3=>3 | 75=>199 | 0=>0 | 72=>205 | 37=>45 | 4=>4 | 164=>237 | 80=>206 | 5=>5 | n=>n,fun | n=>n⟩
theorem ad0:Go.Proofs.Lays.n166 Tryz.prog FL := {
 mixed:=by kernel_rfl
 f166:=Tryz.func156.trans (congrArg some (by kernel_rfl))
 f240:=Tryz.func173.trans (congrArg some (by kernel_rfl))
 f276:=Tryz.func194.trans (congrArg some (by kernel_rfl))
 t0:=Tryz.underlying0
 a0:=Tryz.isAgg0
 z0:=Tryz.sizeOf0
 v0:=Tryz.zeroValue0
 t3:=Tryz.underlying3
 a3:=Tryz.isAgg3
 z3:=Tryz.sizeOf3
 v3:=Tryz.zeroValue3
 t4:=Tryz.underlying4
 a4:=Tryz.isAgg4
 z4:=Tryz.sizeOf4
 v4:=Tryz.zeroValue4
 t9:=Tryz.underlying9
 a9:=Tryz.isAgg9
 z9:=Tryz.sizeOf9
 v9:=Tryz.zeroValue9
 t20:=Tryz.underlying20
 a20:=Tryz.isAgg20
 z20:=Tryz.sizeOf20
 v20:=Tryz.zeroValue20
 t37:=Tryz.underlying45
 a37:=Tryz.isAgg45
 z37:=Tryz.sizeOf45
 v37:=Tryz.zeroValue45
 t70:=Tryz.underlying203
 a70:=Tryz.isAgg203
 z70:=Tryz.sizeOf203
 v70:=Tryz.zeroValue203
 t72:=Tryz.underlying205
 a72:=Tryz.isAgg205
 z72:=Tryz.sizeOf205
 v72:=Tryz.zeroValue205
 t75:=Tryz.underlying199
 a75:=Tryz.isAgg199
 z75:=Tryz.sizeOf199
 v75:=Tryz.zeroValue199
 t164:=Tryz.underlying237
 a164:=Tryz.isAgg237
 z164:=Tryz.sizeOf237
 v164:=Tryz.zeroValue237 }
def FM:Go.Shelf.Ren:=⟨fun | 169=>157 | n=>n,fun | 70=>203 | 9=>9 | 0=>0 | 72=>205 | 37=>45 | 127=>202 | 3=>3 | 5=>5 | n=>n,fun | n=>n⟩
theorem ad3:Go.Proofs.Lays.n169 Tryz.prog FM := {
 mixed:=by kernel_rfl
 f169:=Tryz.func157.trans (congrArg some (by kernel_rfl))
 t0:=Tryz.underlying0
 a0:=Tryz.isAgg0
 z0:=Tryz.sizeOf0
 v0:=Tryz.zeroValue0
 t3:=Tryz.underlying3
 a3:=Tryz.isAgg3
 z3:=Tryz.sizeOf3
 v3:=Tryz.zeroValue3
 t9:=Tryz.underlying9
 a9:=Tryz.isAgg9
 z9:=Tryz.sizeOf9
 v9:=Tryz.zeroValue9
 t37:=Tryz.underlying45
 a37:=Tryz.isAgg45
 z37:=Tryz.sizeOf45
 v37:=Tryz.zeroValue45
 t70:=Tryz.underlying203
 a70:=Tryz.isAgg203
 z70:=Tryz.sizeOf203
 v70:=Tryz.zeroValue203
 t72:=Tryz.underlying205
 a72:=Tryz.isAgg205
 z72:=Tryz.sizeOf205
 v72:=Tryz.zeroValue205
 t127:=Tryz.underlying202
 a127:=Tryz.isAgg202
 z127:=Tryz.sizeOf202
 v127:=Tryz.zeroValue202 }
theorem Sq:Builder.Extra Tryz.prog FL where
 sizeBuilder:=by kernel_rfl
 liesBuilder:=by kernel_rfl
 t5:=Tryz.underlying5
 a5:=Tryz.isAgg5
 z5:=Tryz.sizeOf5
 v5:=Tryz.zeroValue5
 infoByte:=by kernel_rfl
 cellsByte:=by kernel_rfl
 sizeByte:=by kernel_rfl
 neB5:=by decide
theorem Sr:Builder.Extra Tryz.prog FM where
 sizeBuilder:=by kernel_rfl
 liesBuilder:=by kernel_rfl
 t5:=Tryz.underlying5
 a5:=Tryz.isAgg5
 z5:=Tryz.sizeOf5
 v5:=Tryz.zeroValue5
 infoByte:=by kernel_rfl
 cellsByte:=by kernel_rfl
 sizeByte:=by kernel_rfl
 neB5:=by decide
abbrev mU(B b:Nat)(l:List UInt8)(w:World):Prop:=Lib.IsBuilderF 205 5 B b (Lib.byteCells l) w
abbrev xh(b:Nat)(w w':World):Prop:=Lib.OthersKept 5 (some b) w w'
theorem JT(B b:Nat)(l:List UInt8)(s:ByteArray)(w:World)(h:mU B b l w)(hlen:l.length+s.size≤140737488355328)(hB:B≤w.heap.size) :
  Calls Tryz.prog 156 #[.pointer (some ⟨b,0,none⟩),.string s] w fun e w'=>e=.returned (.tuple #[.int .i64 s.size,.nilIface])∧(mU B b (l++s.data.toList) w'∧Below B w w'∧xh b w w'):=by
 refine (Any.Builder_WriteString_k ad0 Sq B b (Lib.byteCells l) s w h (by rw[Lib.byteCells_length];exact hlen) hB).mono ?_;rintro e w' ⟨rfl,h1,h2,h3⟩;refine ⟨rfl,.inr ?_,h2,h3⟩;rw[Lib.byteCells_append];exact h1
theorem BV(B b:Nat)(l:List UInt8)(w:World)(h:mU B b l w)(hB:B≤w.heap.size) :
  Calls Tryz.prog 157 #[.pointer (some ⟨b,0,none⟩)] w fun e w'=>e=.returned (.string ⟨l.toArray⟩)∧(mU B b l w'∧Below B w w'∧xh b w w'):=Any.Builder_String_any_k ad3 Sr B b l w h hB
theorem adx(n:Int)(h:IntKind.i64.min≤n∧n≤IntKind.i64.max)(W:World)(hl:fw Tryz.prog W (fun _=>False)):Calls Tryz.prog 132 #[.int .i64 n] W fun e w'=>e=.returned (.string ⟨(Lib.itoa n).toArray⟩)∧Below W.heap.size W w':=by
 have h3':-9223372036854775808≤n:=h.1;have h4':n≤9223372036854775807:=h.2;obtain ⟨_,htab,rfl⟩:=hl.u7 (n:=vu) (k:=.wc) (g:=3) (by simp[pn]) (by kernel_rfl);refine (Any.strconv_Itoa FI n h3' h4' W htab).mono ?_;rintro e w' ⟨rfl,k,os,rfl⟩;exact ⟨rfl,xw W k os⟩
theorem FH{w wr:World}(hl:fw Tryz.prog w (fun _=>False))(h:Below w.heap.size w wr):fw Tryz.prog wr (fun _=>False) :=
 hl.FE (M:=fun b=>w.heap.size≤b) ⟨h.os,h.tape,h.output,h.size,fun k hk=>h.block k (by omega)⟩ (fun b hb=>.inl hb) (fun b hb=>hb.elim)
theorem vn{B b:Nat}{l:List UInt8}{w w':World}(hI:mU B b l w)(h:Below w.heap.size w w'):mU B b l w':=by
 have key:∀ p,Lib.BuilderAtF 205 5 B b p (Lib.byteCells l) w→Lib.BuilderAtF 205 5 B b p (Lib.byteCells l) w':=by
  rintro p ⟨h1,v,h2,⟨h3,h4⟩,h5⟩;refine ⟨h1,v,(h.block b (fG h2)).trans h2,⟨h3,?_⟩,h5⟩;rcases h4 with h4 | ⟨g,cap,cur,fz,k1,k2,k3,k4⟩
  ·exact .inl h4
  ·exact .inr ⟨g,cap,cur,fz,k1,k2,(h.block g (fG k3)).trans k3,k4⟩
 exact hI.imp (key _) (key _)
theorem NO(a:List UInt8)(t:ByteArray):((⟨a.toArray⟩:ByteArray)++t)=⟨(a++t.data.toList).toArray⟩:=by
 apply ByteArray.ext;simp[ByteArray.data_append]
theorem agK(l:List Int)(n:Int):dV (l++[n])=dV l++(Lib.itoa n++[32]):=by simp[dV]
theorem LZ(m n k d cj om on:Int)(t:ByteArray)(w:World)(hl:fw Tryz.prog w (fun _=>False))(hbd:∀ x∈[m,n,k,d,cj,om,on],IntKind.i64.min≤x∧x≤IntKind.i64.max)(ht:t.size≤1000000000000) :
  Calls Tryz.prog 131 #[.agg #[.int .i64 m,.int .i64 n,.int .i64 k,.int .i64 d,.int .i64 cj,.int .i64 om,.int .i64 on,.string t]] w fun e w'=>e=.returned (.string ⟨(dV [m,n,k,d,cj,om,on]++t.data.toList).toArray⟩)∧Below w.heap.size w w':=by
 obtain ⟨vs,hvs⟩:∃ vs:List Int,vs=[m,n,k,d,cj,om,on]:=⟨_,rfl⟩
 have hvl:vs.length=7:=by rw[hvs];rfl
 rw[←hvs] at hbd;have hlen:∀ j,(dV (vs.take j)).length≤22*j:=by
  intro j;have:∀ l:List Int,(∀ x∈l,IntKind.i64.min≤x∧x≤IntKind.i64.max)→(dV l).length≤22*l.length:=by
   intro l
   induction l with
   |nil=>intro _;simp[dV]
   |cons x l ih =>
    intro h;have h1:=ih fun y hy=>h y (by simp[hy]);have h2:=Lib.itoa_length_le x (h x (by simp)).1 (h x (by simp)).2;simp only[dV] at h1;simp only[dV,List.flatMap_cons,zz1,zx5,zv1];omega
  have h3:=this (vs.take j) fun x hx=>hbd x (zx9 hx);have h4:(vs.take j).length≤j:=by rw[zz6];omega
  omega
 go_enter Tryz.func131,Tryz.ntmps131
 go_wp2
 go_loopw [26] (fun i wr=>∃ j:Nat,j≤7∧i=.int .i64 j∧mU w.heap.size (w.heap.size+1) (dV (vs.take j)) wr∧wr.heap[w.heap.size]?=some (.cells #[.int .i64 m,.int .i64 n,.int .i64 k,.int .i64 d,.int .i64 cj,.int .i64 om,.int .i64 on,.string t] 50) ∧
  wr.heap[w.heap.size+1+1]?=some (.cells (vs.map (Value.int .i64)).toArray 3)∧Below w.heap.size w wr) (fun i _=>7-(RowKit.intOf i).toNat)
 case atStart =>
  obtain ⟨c1,hc1⟩:∃ c1,c1=Obj.cells #[.int .i64 m,.int .i64 n,.int .i64 k,.int .i64 d,.int .i64 cj,.int .i64 om,.int .i64 on,.string t] 50:=⟨_,rfl⟩
  have hv0:(#[.int .i64 m,.int .i64 n,.int .i64 k,.int .i64 d,.int .i64 cj,.int .i64 om,.int .i64 on]:Array Value)=(vs.map (Value.int .i64)).toArray:=by rw[hvs];rfl
  rw[←hc1,hv0];obtain ⟨w1,hw1⟩:∃ w1,w1=w.alloc c1:=⟨_,rfl⟩
  obtain ⟨w2,hw2⟩:∃ w2,w2=w1.alloc (Obj.cells #[Value.pointer none,Value.slice none 0 0] 205):=⟨_,rfl⟩
  obtain ⟨w3,hw3⟩:∃ w3,w3=w2.alloc (Obj.cells (vs.map (Value.int .i64)).toArray 3):=⟨_,rfl⟩
  have s1:w1.heap.size=w.heap.size+1:=by rw[hw1];simp
  have s2:w2.heap.size=w.heap.size+1+1:=by rw[hw2];simp[s1]
  have b1:Below w.heap.size w w1:=hw1▸kL w c1;have b2:Below w1.heap.size w1 w2:=hw2▸kL w1 _;have b3:Below w2.heap.size w2 w3:=hw3▸kL w2 _;have e1:w1.heap[w.heap.size]?=some c1:=hw1▸heap_alloc_new w c1;have e2:w2.heap[w1.heap.size]?=some (Obj.cells #[Value.pointer none,Value.slice none 0 0] 205):=hw2▸heap_alloc_new w1 _;have e3:w3.heap[w2.heap.size]?=some (Obj.cells (vs.map (Value.int .i64)).toArray 3):=hw3▸heap_alloc_new w2 _;rw[←hw1,←hw2,←hw3];refine ⟨0,by omega,rfl,.inl ⟨by omega,.slice none 0 0,?_,⟨rfl,.inl ⟨rfl,rfl⟩⟩,by simp[Value.ownBlock]⟩,?_,?_,?_⟩
  ·rw[b3.block _ (by omega),←s1];exact e2
  ·rw[b3.block _ (by omega),b2.block _ (by omega)];exact e1
  ·rw[←s2];exact e3
  ·exact (b1.trans (b2.mono (by omega))).trans (b3.mono (by omega))
 case round =>
  obtain ⟨j,hj,rfl,hI,hr,ae,hbw⟩:=hrel;have hB1:w.heap.size≤wr.heap.size:=hbw.size;by_cases hlt:j<7
  ·have hjv:j<vs.length:=by omega
   have hc:wr.cell? ⟨w.heap.size+1+1,j,none⟩=some (.int .i64 vs[j]):=by
    simp[World.cell?,ae,hjv]
   have hbx:=hbd vs[j] (zv4 hjv);have lE:=Lib.itoa_length_le vs[j] hbx.1 hbx.2;have hj2:=hlen j;have htk:dV (vs.take (j+1))=dV (vs.take j)++(Lib.itoa vs[j]++[32]):=by rw[zu0 hjv,agK]
   generalize vs[j]=x at *;have hsz:((⟨(Lib.itoa x).toArray⟩:ByteArray)++⟨#[32]⟩).size=(Lib.itoa x).length+1:=by rw[ByteArray.size_append];rfl
   have hdat:((⟨(Lib.itoa x).toArray⟩:ByteArray)++⟨#[32]⟩).data.toList=Lib.itoa x++[32]:=by simp
   have hlt':decide ((j:Int)<7)=true:=by simp;omega
   have hw:=eO (i:=j) (by omega)
   go_wp2_with (first | (go_at_call 132;refine (adx x hbx _ (FH hl hbw)).mono ?_;rintro e W1 ⟨rfl,hb1⟩) | (go_at_call 156;refine (JT w.heap.size (w.heap.size+1) _ _ _ (vn hI hb1) (by rw[hsz];omega) (by have:=hb1.size;omega)).mono ?_;rintro e W2 ⟨rfl,hI2,hb2,hk2⟩))
   have q1:w.heap.size<wr.heap.size:=fG hr;have q2:w.heap.size+1+1<wr.heap.size:=fG ae;refine ⟨⟨j+1,by omega,rfl,?_,?_,?_,?_⟩,by simp only[RowKit.intOf];omega⟩
   ·rw[htk];rw[hdat] at hI2;exact hI2
   ·exact hk2 _ _ ((hb1.block _ q1).trans hr) (by simp) (fun c fz e=>by cases e)
   ·exact hk2 _ _ ((hb1.block _ q2).trans ae) (by simp) (fun c fz e=>by cases e)
   ·exact (hbw.trans (hb1.mono hB1)).trans hb2
  ·have hj7:j=7:=by omega
   subst hj7;have hlt':decide (((7:Nat):Int)<7)=false:=by decide
   rw[zv8 (by omega)] at hI;have hcr:wr.cell? ⟨w.heap.size,7,none⟩=some (.string t):=by simp[World.cell?,hr]
   have q1:w.heap.size<wr.heap.size:=fG hr
   go_wp2
   have hI1:mU w.heap.size (w.heap.size+1) (dV vs) wr.drew:=vn hI ⟨rfl,rfl,rfl,zy1 _,fun _ _=>rfl⟩;have hcd:wr.drew.cell? ⟨w.heap.size,7,none⟩=some (.string t):=hcr;have bh:∀ W2,xh (w.heap.size+1) wr.drew W2→W2.cell? ⟨w.heap.size,7,none⟩=some (.string t):=fun W2 hk=>by
    have:=hk _ _ hr (by simp) (fun c fz e=>by cases e);simp[World.cell?,this]
   have hl7:=hlen 7;rw[zv8 (by omega)] at hl7;have hsum:¬ (9223372036854775807<(⟨(dV vs).toArray⟩:ByteArray).size+t.size):=by
    have e1:(⟨(dV vs).toArray⟩:ByteArray).size=(dV vs).length:=by show (dV vs).toArray.size=_;simp
    rw[e1];omega
   have hdr:Below w.heap.size wr wr.drew:=⟨rfl,rfl,rfl,zy1 _,fun _ _=>rfl⟩
   have hcall:=BV w.heap.size (w.heap.size+1) _ _ hI1 (by show _≤wr.heap.size;omega);generalize hS:(⟨(dV vs).toArray⟩:ByteArray)=S at *
   go_region_with (go_at_call 157;refine (hcall).mono ?_;rintro e W2 ⟨rfl,hI2,hb2,hk2⟩;have hc2:=bh W2 hk2)
   all_goals go_wp2
   all_goals go_ret
   all_goals refine ⟨?_,(hbw.trans hdr).trans hb2⟩
   all_goals rw[←hvs,←hS,NO]
   all_goals rfl
theorem II{w:World}{D:aO}{E:aU}{r:ah}{v:Value}(h:aV w D E (enc r) v):v=.agg #[.int .i64 r.aI,.int .i64 r.no,.int .i64 r.kind,.int .i64 r.eP,.int .i64 r.known,.int .i64 r.gb,.int .i64 r.gp,.string ⟨r.text.toArray⟩] ∧
  (∀ x∈eK r,IntKind.i64.min≤x∧x≤IntKind.i64.max)∧r.text.length≤maxLen:=by
 obtain ⟨cs,h1,h2⟩:=h;have h2':ai w D E (.agg [.agg [.int .i64 r.aI,.int .i64 r.no],.int .i64 r.kind,.int .i64 r.eP,.int .i64 r.known,.agg [.int .i64 r.gb,.int .i64 r.gp],.ak ⟨r.text.toArray⟩]) cs:=h2;simp only[ai,aK] at h2';obtain ⟨_,_,rfl,⟨_,_,rfl,⟨rfl,a1⟩,_,_,rfl,⟨rfl,a2⟩,rfl⟩,_,_,rfl,⟨rfl,a3⟩,_,_,rfl,⟨rfl,a4⟩,_,_,rfl,⟨rfl,a5⟩,_,_,rfl,⟨_,_,rfl,⟨rfl,a6⟩,_,_,rfl,⟨rfl,a7⟩,rfl⟩,_,_,rfl,⟨rfl,a8⟩,rfl⟩:=h2';refine ⟨h1,?_,by simpa[ByteArray.size] using a8⟩;intro x hx;simp only[eK,zx7,List.not_mem_nil,or_false] at hx;rcases hx with rfl | rfl | rfl | rfl | rfl | rfl | rfl <;>assumption
theorem Kc(r:ah)(hs:r.text.length≤1000000000000):aP Tryz.prog 131 [enc r] (enc (aH.of (da r))):=by
 refine ⟨Mu,fun w D vs hl hD ae =>?_⟩;have hv':=ae;simp only[aD] at hv';obtain ⟨v,rest,cs,rfl,h1,h2,rfl⟩:=hv';obtain ⟨rfl,hb,_⟩:=II (gD h1 h2);refine (LZ _ _ _ _ _ _ _ ⟨r.text.toArray⟩ w hl hb (by show r.text.toArray.size≤_;simpa using hs)).mono ?_;rintro e w' ⟨rfl,hbl⟩;have hlen:(da r).length≤1000000001000:=by
  have:∀ l:List Int,(∀ x∈l,IntKind.i64.min≤x∧x≤IntKind.i64.max)→(dV l).length≤22*l.length:=by
   intro l
   induction l with
   |nil=>intro _;simp[dV]
   |cons x l ih =>
    intro h;have h1:=ih fun y hy=>h y (by simp[hy]);have h2:=Lib.itoa_length_le x (h x (by simp)).1 (h x (by simp)).2;simp only[dV] at h1;simp only[dV,List.flatMap_cons,zz1,zx5,zv1];omega
  have h3:=this (eK r) hb;have h4:(eK r).length=7:=rfl;rw[da,zz1];omega
 exact ⟨_,D,rfl,I1 (l:=da r) (by unfold maxLen;omega),hbl,fun b o hd=>zu5 (hD b o hd) hbl.size,fun _ _ h _=>h⟩
end Go.Proofs.YtoffnnjbplgnaaaGreatDoor
namespace Go.Proofs.YtoffnnjbplgnaaaGreatDoor
open Go Go.Abs
open Go.Abs.Enc (enc)
def ig(c:UInt8):Bool := !(decide ((c.toNat:Int)<32)||(decide ((c.toNat:Int)>126)||((c.toNat:Int)==63)))
def gT(t:List UInt8):Bool:=decide (t.length≤160)&&t.all ig
theorem GD{t:List UInt8}{i:Nat}(h:i<t.length)(h1:(t.take i).all ig=true):(ig t[i]=true→(t.take (i+1)).all ig=true)∧(ig t[i]=false→t.all ig=false):=by
 refine ⟨fun h2 =>?_,fun h2 =>?_⟩
 ·rw[zu0 h,List.all_append,h1];simp[h2]
 ·rw[List.all_eq_false];exact ⟨t[i],zv4 h,by simp[h2]⟩
theorem rF(t:List UInt8):oy (enc (aH.of t))=some (.int .i64 (t.length:Int)):=by rw[tE,aH.eJ]
theorem Je(t:List UInt8){i:Nat}(h:i<t.length):fq .eM [enc (aH.of t),.int .i64 (i:Int)]=some (.int .u8 (t[i].toNat:Int)):=Jd (aH.of t) h
theorem Ak(t:List UInt8):nK (enc (aH.of t))=some (t.map enc):=rfl
theorem Kb(t:List UInt8):aP Tryz.prog 130 [enc (aH.of t)] (enc (gT t)):=by
 refine aP.bM Tryz.func130 Mt N8 PN (t7 rfl) (fun hwf W0 bI E1 =>?_);simp only[Cl,Hr,bC];clear hwf;have hl:=rF t;have hsb:=Ak t;rcases q:decide ((t.length:Int)>160)
 rotate_left
 ·have h1:(t.length:Int)>160:=of_decide_eq_true q;rw[show gT t=false by simp only[gT];rw[decide_eq_false (by omega)];rfl];have R:=y6 @hl (y6 @q (y6 @bA aw))
  repeat' ((first |(with_reducible refine .guard (fun hb =>?_) (fun hb =>?_) <;>try simp only[hb])|refine ab.aA (by decide +kernel) rfl fun K hK =>?_|(refine .av [0,2,4,7,9,10,11,12,24] hK ?_;clear hK K)|(with_reducible refine .done (hK _ ?_);clear hK K)|refine ab.of rfl ?_|(with_reducible refine ar.az (fun h =>?_) (fun h =>?_) <;>try simp only[h])) <;>try simp only[aB,R,simprocAttr])
  all_goals clear R
  all_goals rfl
 have h1:¬ (t.length:Int)>160:=of_decide_eq_false q;rw[show gT t=t.all ig by simp only[gT];rw[decide_eq_true (by omega)];rfl];have R:=y6 @hl (y6 @hsb (y6 @q (y6 @bA (y6 @fM aw))))
 repeat' ((first |(with_reducible refine .guard (fun hb =>?_) (fun hb =>?_) <;>try simp only[hb])|refine aY.fC rfl fun m =>?_|refine ab.aA (by decide +kernel) rfl fun K hK =>?_|(refine .av [0,2,4,7,9,10,11,12,24] hK ?_;clear hK K)|(with_reducible refine .done (hK _ ?_);clear hK K)|refine ab.of rfl ?_|(with_reducible refine ar.az (fun h =>?_) (fun h =>?_) <;>try simp only[h])) <;>try simp only[aB,R,simprocAttr])
 all_goals clear R
 refine ab.loop (fun i:Nat=>aC [(0,enc (aH.of t)),(9,enc t),(10,.int .i64 t.length),(11,.int .i64 i)] []) (fun i=>i≤t.length∧(t.take i).all ig=true) (fun i=>t.length-i) 0 ⟨zv6 _,rfl⟩ ?_ ?_
 ·refine bt.mr [9] 9 (x:=.view 9 [] 1 0 t.length) (y:=enc t) rfl (Ek rfl) ?_ ?_ ?_ ?_ ?_ <;>simp[dN,bB,bT,bZ,bU,hU,bJ,I.only,bg]
 rintro i ⟨hi,hok⟩;by_cases hlt:i<t.length
 ·have hlc:=ga hlt;have he:=fun A=>gB (A:=A) 1 hlt rfl;have hw:=eO (i:=i) (by omega);obtain ⟨h2,h3⟩:=GD hlt hok;generalize t[i]=c at *;rcases q1:decide ((c.toNat:Int)<32)
  rotate_left
  ·rw[h3 (by simp[ig,q1])];have R:=y6 @hl (y6 @hlc (y6 @he (y6 @hw (y6 @q1 (y6 @tG (y6 @bA aw))))))
   repeat' ((first |(with_reducible refine .guard (fun hb =>?_) (fun hb =>?_) <;>try simp only[hb])|refine ab.aA (by decide +kernel) rfl fun K hK =>?_|(refine .av [0,2,4,7,9,10,11,12,24] hK ?_;clear hK K)|(with_reducible refine .done (hK _ ?_);clear hK K)|refine ab.of rfl ?_|(with_reducible refine ar.az (fun h =>?_) (fun h =>?_) <;>try simp only[h])) <;>try simp only[aB,R,simprocAttr])
   all_goals clear R
   all_goals rfl
  rcases q2:decide ((c.toNat:Int)>126)
  rotate_left
  ·rw[h3 (by simp only[ig,q1,q2];rfl)];have R:=y6 @hl (y6 @hlc (y6 @he (y6 @hw (y6 @q1 (y6 @q2 (y6 @tG (y6 @bA aw)))))))
   repeat' ((first |(with_reducible refine .guard (fun hb =>?_) (fun hb =>?_) <;>try simp only[hb])|refine ab.aA (by decide +kernel) rfl fun K hK =>?_|(refine .av [0,2,4,7,9,10,11,12,24] hK ?_;clear hK K)|(with_reducible refine .done (hK _ ?_);clear hK K)|refine ab.of rfl ?_|(with_reducible refine ar.az (fun h =>?_) (fun h =>?_) <;>try simp only[h])) <;>try simp only[aB,R,simprocAttr])
   all_goals clear R
   all_goals rfl
  rcases q3:((c.toNat:Int)==63)
  rotate_left
  ·rw[h3 (by simp only[ig,q1,q2,q3];rfl)];have R:=y6 @hl (y6 @hlc (y6 @he (y6 @hw (y6 @q1 (y6 @q2 (y6 @q3 (y6 @tG (y6 @bA aw))))))))
   repeat' ((first |(with_reducible refine .guard (fun hb =>?_) (fun hb =>?_) <;>try simp only[hb])|refine ab.aA (by decide +kernel) rfl fun K hK =>?_|(refine .av [0,2,4,7,9,10,11,12,24] hK ?_;clear hK K)|(with_reducible refine .done (hK _ ?_);clear hK K)|refine ab.of rfl ?_|(with_reducible refine ar.az (fun h =>?_) (fun h =>?_) <;>try simp only[h])) <;>try simp only[aB,R,simprocAttr])
   all_goals clear R
   all_goals rfl
  have h4:=h2 (by simp only[ig,q1,q2,q3];rfl);have R:=y6 @hl (y6 @hlc (y6 @he (y6 @hw (y6 @q1 (y6 @q2 (y6 @q3 (y6 @tG (y6 @bA aw))))))))
  repeat' ((first |(with_reducible refine .guard (fun hb =>?_) (fun hb =>?_) <;>try simp only[hb])|refine ab.aA (by decide +kernel) rfl fun K hK =>?_|(refine .av [0,2,4,7,9,10,11,12,24] hK ?_;clear hK K)|(with_reducible refine .done (hK _ ?_);clear hK K)|refine ab.of rfl ?_|(with_reducible refine ar.az (fun h =>?_) (fun h =>?_) <;>try simp only[h])) <;>try simp only[aB,R,simprocAttr])
  all_goals clear R
  refine ⟨i+1,⟨by omega,h4⟩,by omega,?_⟩;clear h2 h3 h4 hok;refine bt.cF ?_ ?_ ?_ ?_ <;>simp[bT,bZ,bU,bB,bJ,I.only,bg]
 ·have hlc:=gM hlt;have hge:i=t.length:=by omega
  rw[hge,zv5] at hok;rw[hok];have R:=y6 @hl (y6 @hlc (y6 @bA aw))
  repeat' ((first |(with_reducible refine .guard (fun hb =>?_) (fun hb =>?_) <;>try simp only[hb])|refine ab.aA (by decide +kernel) rfl fun K hK =>?_|(refine .av [0,2,4,7,9,10,11,12,24] hK ?_;clear hK K)|(with_reducible refine .done (hK _ ?_);clear hK K)|refine ab.of rfl ?_|(with_reducible refine ar.az (fun h =>?_) (fun h =>?_) <;>try simp only[h])) <;>try simp only[aB,R,simprocAttr])
  all_goals clear R
  all_goals rfl
theorem KI(t:List UInt8):aP Tryz.prog 86 [enc (aH.of t)] (enc (gT t)):=by
 refine aP.bM Tryz.func86 Ny O5 QI (t7 rfl) (fun hwf W0 bI E1 =>?_);simp only[C8,Ip,bC];clear hwf;have hl:=rF t;rcases q:decide ((t.length:Int)>160)
 rotate_left
 ·have h1:(t.length:Int)>160:=of_decide_eq_true q;rw[show gT t=false by simp only[gT];rw[decide_eq_false (by omega)];rfl];have R:=y6 @hl (y6 @q (y6 @bA aw))
  repeat' ((first |(with_reducible refine .guard (fun hb =>?_) (fun hb =>?_) <;>try simp only[hb])|refine ab.aA (by decide +kernel) rfl fun K hK =>?_|(refine .av [0,2,3,6,10,28] hK ?_;clear hK K)|(with_reducible refine .done (hK _ ?_);clear hK K)|refine ab.of rfl ?_|(with_reducible refine ar.az (fun h =>?_) (fun h =>?_) <;>try simp only[h])) <;>try simp only[aB,R,simprocAttr])
  all_goals clear R
  all_goals rfl
 have h1:¬ (t.length:Int)>160:=of_decide_eq_false q;rw[show gT t=t.all ig by simp only[gT];rw[decide_eq_true (by omega)];rfl];have R:=y6 @hl (y6 @q (y6 @bA aw))
 repeat' ((first |(with_reducible refine .guard (fun hb =>?_) (fun hb =>?_) <;>try simp only[hb])|refine ab.aA (by decide +kernel) rfl fun K hK =>?_|(refine .av [0,2,3,6,10,28] hK ?_;clear hK K)|(with_reducible refine .done (hK _ ?_);clear hK K)|refine ab.of rfl ?_|(with_reducible refine ar.az (fun h =>?_) (fun h =>?_) <;>try simp only[h])) <;>try simp only[aB,R,simprocAttr])
 all_goals clear R
 refine ab.loop (fun i:Nat=>aC [(0,enc (aH.of t)),(3,.int .i64 i)] []) (fun i=>i≤t.length∧(t.take i).all ig=true) (fun i=>t.length-i) 0 ⟨zv6 _,rfl⟩ ?_ ?_
 ·refine bt.cF ?_ ?_ ?_ ?_ <;>simp[bT,bZ,bU,bB,bJ,I.only,bg]
 rintro i ⟨hi,hok⟩;by_cases hlt:i<t.length
 ·have hlc:=ga hlt;have he:=Je t hlt;have hw:=eO (i:=i) (by omega);obtain ⟨h2,h3⟩:=GD hlt hok;generalize t[i]=c at *;rcases q1:decide ((c.toNat:Int)<32)
  rotate_left
  ·rw[h3 (by simp[ig,q1])];have R:=y6 @hl (y6 @hlc (y6 @he (y6 @hw (y6 @q1 (y6 @bA aw)))))
   repeat' ((first |(with_reducible refine .guard (fun hb =>?_) (fun hb =>?_) <;>try simp only[hb])|refine ab.aA (by decide +kernel) rfl fun K hK =>?_|(refine .av [0,2,3,6,10,28] hK ?_;clear hK K)|(with_reducible refine .done (hK _ ?_);clear hK K)|refine ab.of rfl ?_|(with_reducible refine ar.az (fun h =>?_) (fun h =>?_) <;>try simp only[h])) <;>try simp only[aB,R,simprocAttr])
   all_goals clear R
   all_goals rfl
  rcases q2:decide ((c.toNat:Int)>126)
  rotate_left
  ·rw[h3 (by simp only[ig,q1,q2];rfl)];have R:=y6 @hl (y6 @hlc (y6 @he (y6 @hw (y6 @q1 (y6 @q2 (y6 @bA aw))))))
   repeat' ((first |(with_reducible refine .guard (fun hb =>?_) (fun hb =>?_) <;>try simp only[hb])|refine ab.aA (by decide +kernel) rfl fun K hK =>?_|(refine .av [0,2,3,6,10,28] hK ?_;clear hK K)|(with_reducible refine .done (hK _ ?_);clear hK K)|refine ab.of rfl ?_|(with_reducible refine ar.az (fun h =>?_) (fun h =>?_) <;>try simp only[h])) <;>try simp only[aB,R,simprocAttr])
   all_goals clear R
   all_goals rfl
  rcases q3:((c.toNat:Int)==63)
  rotate_left
  ·rw[h3 (by simp only[ig,q1,q2,q3];rfl)];have R:=y6 @hl (y6 @hlc (y6 @he (y6 @hw (y6 @q1 (y6 @q2 (y6 @q3 (y6 @bA aw)))))))
   repeat' ((first |(with_reducible refine .guard (fun hb =>?_) (fun hb =>?_) <;>try simp only[hb])|refine ab.aA (by decide +kernel) rfl fun K hK =>?_|(refine .av [0,2,3,6,10,28] hK ?_;clear hK K)|(with_reducible refine .done (hK _ ?_);clear hK K)|refine ab.of rfl ?_|(with_reducible refine ar.az (fun h =>?_) (fun h =>?_) <;>try simp only[h])) <;>try simp only[aB,R,simprocAttr])
   all_goals clear R
   all_goals rfl
  have h4:=h2 (by simp only[ig,q1,q2,q3];rfl);have R:=y6 @hl (y6 @hlc (y6 @he (y6 @hw (y6 @q1 (y6 @q2 (y6 @q3 (y6 @bA aw)))))))
  repeat' ((first |(with_reducible refine .guard (fun hb =>?_) (fun hb =>?_) <;>try simp only[hb])|refine ab.aA (by decide +kernel) rfl fun K hK =>?_|(refine .av [0,2,3,6,10,28] hK ?_;clear hK K)|(with_reducible refine .done (hK _ ?_);clear hK K)|refine ab.of rfl ?_|(with_reducible refine ar.az (fun h =>?_) (fun h =>?_) <;>try simp only[h])) <;>try simp only[aB,R,simprocAttr])
  all_goals clear R
  refine ⟨i+1,⟨by omega,h4⟩,by omega,?_⟩;clear h2 h3 h4 hok;refine bt.cF ?_ ?_ ?_ ?_ <;>simp[bT,bZ,bU,bB,bJ,I.only,bg]
 ·have hlc:=gM hlt;have hge:i=t.length:=by omega
  rw[hge,zv5] at hok;rw[hok];have R:=y6 @hl (y6 @hlc (y6 @bA aw))
  repeat' ((first |(with_reducible refine .guard (fun hb =>?_) (fun hb =>?_) <;>try simp only[hb])|refine ab.aA (by decide +kernel) rfl fun K hK =>?_|(refine .av [0,2,3,6,10,28] hK ?_;clear hK K)|(with_reducible refine .done (hK _ ?_);clear hK K)|refine ab.of rfl ?_|(with_reducible refine ar.az (fun h =>?_) (fun h =>?_) <;>try simp only[h])) <;>try simp only[aB,R,simprocAttr])
  all_goals clear R
  all_goals rfl
def rf(r:ah):Bool:=(r.eP==0)&&(decide (r.text=[])&&(j4 r.ic&&((r.gb==r.aI)&&decide (r.gp<r.no))))
def ij(r:ah):Bool:=j4 r.bw&&(dm 0 40 r.kind&&(dm 0 100000 r.eP&&(dm 0 100000 r.known&&gT r.text)))
def bj(r:ah):Bool:=ij r&&(if r.kind=0 then rf r else decide (r.ic=⟨0,0⟩))
theorem jV:(I.ak ⟨#[]⟩)=enc (aH.of []):=rfl
theorem su:(I.agg [.int .i64 0,.int .i64 0])=enc (⟨0,0⟩:Item):=rfl
theorem nL(a b:List UInt8):b8 .eql (enc (aH.of a)) (enc (aH.of b))=some (.bool (decide (a=b))):=by rw[Ai];simp only[aH.vX]
theorem j8(a b:List UInt8):b8 .neq (enc (aH.of a)) (enc (aH.of b))=some (.bool (!decide (a=b))):=by rw[Aj];simp only[aH.vX]
theorem qe(r:ah):aP Tryz.prog 80 [enc r] (enc (bj r)):=by
 refine aP.bM Tryz.func80 Nt O0 QD (t7 rfl) (fun hwf W0 bI E1 =>?_);simp only[c80,Ij,bC];clear hwf;have f1:=A5 r.bw;have f2:=mT r.kind 0 40;have f3:=AW r.eP;have f4:=AW r.known;have f5:=Kb r.text;have f6:=A5 r.ic;cases q1:j4 r.bw
 ·rw[q1] at f1;rw[show bj r=false by simp only[bj,ij,q1,Bool.false_and]];have R:=y6 @q1 (y6 @bA aw)
  repeat' ((first |(with_reducible refine .guard (fun hb =>?_) (fun hb =>?_) <;>try simp only[hb])|refine ab.aA (by decide +kernel) rfl fun K hK =>?_|refine .flat _ (f1) rfl ?_|refine .flat _ (f2) rfl ?_|refine .flat _ (f3) rfl ?_|refine .flat _ (f4) rfl ?_|refine .flat _ (f5) rfl ?_|(refine .av [0,1,2,30,33] hK ?_;clear hK K)|(with_reducible refine .done (hK _ ?_);clear hK K)|refine ab.of rfl ?_|(with_reducible refine ar.az (fun h =>?_) (fun h =>?_) <;>try simp only[h])) <;>try simp only[aB,R,simprocAttr])
  all_goals clear R
  all_goals rfl
 rw[q1] at f1;cases q2:dm 0 40 r.kind
 ·rw[q2] at f2;rw[show bj r=false by simp only[bj,ij,q1,q2,Bool.false_and,Bool.and_false]];have R:=y6 @bA aw
  repeat' ((first |(with_reducible refine .guard (fun hb =>?_) (fun hb =>?_) <;>try simp only[hb])|refine ab.aA (by decide +kernel) rfl fun K hK =>?_|refine .flat _ (f1) rfl ?_|refine .flat _ (f2) rfl ?_|refine .flat _ (f3) rfl ?_|refine .flat _ (f4) rfl ?_|refine .flat _ (f5) rfl ?_|(refine .av [0,1,2,30,33] hK ?_;clear hK K)|(with_reducible refine .done (hK _ ?_);clear hK K)|refine ab.of rfl ?_|(with_reducible refine ar.az (fun h =>?_) (fun h =>?_) <;>try simp only[h])) <;>try simp only[aB,R,simprocAttr])
  all_goals clear R
  all_goals rfl
 rw[q2] at f2;cases q3:dm 0 100000 r.eP
 ·rw[q3] at f3;rw[show bj r=false by simp only[bj,ij,q1,q2,q3,Bool.false_and,Bool.and_false]];have R:=y6 @bA aw
  repeat' ((first |(with_reducible refine .guard (fun hb =>?_) (fun hb =>?_) <;>try simp only[hb])|refine ab.aA (by decide +kernel) rfl fun K hK =>?_|refine .flat _ (f1) rfl ?_|refine .flat _ (f2) rfl ?_|refine .flat _ (f3) rfl ?_|refine .flat _ (f4) rfl ?_|refine .flat _ (f5) rfl ?_|(refine .av [0,1,2,30,33] hK ?_;clear hK K)|(with_reducible refine .done (hK _ ?_);clear hK K)|refine ab.of rfl ?_|(with_reducible refine ar.az (fun h =>?_) (fun h =>?_) <;>try simp only[h])) <;>try simp only[aB,R,simprocAttr])
  all_goals clear R
  all_goals rfl
 rw[q3] at f3;cases q4:dm 0 100000 r.known
 ·rw[q4] at f4;rw[show bj r=false by simp only[bj,ij,q1,q2,q3,q4,Bool.false_and,Bool.and_false]];have R:=y6 @bA aw
  repeat' ((first |(with_reducible refine .guard (fun hb =>?_) (fun hb =>?_) <;>try simp only[hb])|refine ab.aA (by decide +kernel) rfl fun K hK =>?_|refine .flat _ (f1) rfl ?_|refine .flat _ (f2) rfl ?_|refine .flat _ (f3) rfl ?_|refine .flat _ (f4) rfl ?_|refine .flat _ (f5) rfl ?_|(refine .av [0,1,2,30,33] hK ?_;clear hK K)|(with_reducible refine .done (hK _ ?_);clear hK K)|refine ab.of rfl ?_|(with_reducible refine ar.az (fun h =>?_) (fun h =>?_) <;>try simp only[h])) <;>try simp only[aB,R,simprocAttr])
  all_goals clear R
  all_goals rfl
 rw[q4] at f4;cases q5:gT r.text
 ·rw[q5] at f5;rw[show bj r=false by simp only[bj,ij,q1,q2,q3,q4,q5,Bool.false_and,Bool.and_false]];have R:=y6 @bA aw
  repeat' ((first |(with_reducible refine .guard (fun hb =>?_) (fun hb =>?_) <;>try simp only[hb])|refine ab.aA (by decide +kernel) rfl fun K hK =>?_|refine .flat _ (f1) rfl ?_|refine .flat _ (f2) rfl ?_|refine .flat _ (f3) rfl ?_|refine .flat _ (f4) rfl ?_|refine .flat _ (f5) rfl ?_|(refine .av [0,1,2,30,33] hK ?_;clear hK K)|(with_reducible refine .done (hK _ ?_);clear hK K)|refine ab.of rfl ?_|(with_reducible refine ar.az (fun h =>?_) (fun h =>?_) <;>try simp only[h])) <;>try simp only[aB,R,simprocAttr])
  all_goals clear R
  all_goals rfl
 rw[q5] at f5;have hH:ij r=true:=by simp only[ij,q1,q2,q3,q4,q5,Bool.and_self]
 cases k:(r.kind==0)
 ·rw[show bj r=decide (r.ic=⟨0,0⟩) by simp only[bj,hH,zu6];rw[if_neg (by simpa using k)]];have R:=y6 @k (y6 @su (y6 @bA aw))
  repeat' ((first |(with_reducible refine .guard (fun hb =>?_) (fun hb =>?_) <;>try simp only[hb])|refine ab.aA (by decide +kernel) rfl fun K hK =>?_|refine .flat _ (f1) rfl ?_|refine .flat _ (f2) rfl ?_|refine .flat _ (f3) rfl ?_|refine .flat _ (f4) rfl ?_|refine .flat _ (f5) rfl ?_|(refine .av [0,1,2,30,33] hK ?_;clear hK K)|(with_reducible refine .done (hK _ ?_);clear hK K)|refine ab.of rfl ?_|(with_reducible refine ar.az (fun h =>?_) (fun h =>?_) <;>try simp only[h])) <;>try simp only[aB,R,simprocAttr])
  all_goals clear R
  all_goals rfl
 rw[show bj r=rf r by simp only[bj,hH,zu6];rw[if_pos (by simpa using k)]];simp only[rf];cases w1:(r.eP==0)
 ·have R:=y6 @k (y6 @w1 (y6 @jV (y6 @nL (y6 @bA aw))))
  repeat' ((first |(with_reducible refine .guard (fun hb =>?_) (fun hb =>?_) <;>try simp only[hb])|refine ab.aA (by decide +kernel) rfl fun K hK =>?_|refine .flat _ (f1) rfl ?_|refine .flat _ (f2) rfl ?_|refine .flat _ (f3) rfl ?_|refine .flat _ (f4) rfl ?_|refine .flat _ (f5) rfl ?_|refine .flat _ (f6) rfl ?_|(refine .av [0,1,2,30,33] hK ?_;clear hK K)|(with_reducible refine .done (hK _ ?_);clear hK K)|refine ab.of rfl ?_|(with_reducible refine ar.az (fun h =>?_) (fun h =>?_) <;>try simp only[h])) <;>try simp only[aB,R,simprocAttr])
  all_goals clear R
  all_goals rfl
 cases w2:decide (r.text=[])
 ·have R:=y6 @k (y6 @w1 (y6 @w2 (y6 @jV (y6 @nL (y6 @bA aw)))))
  repeat' ((first |(with_reducible refine .guard (fun hb =>?_) (fun hb =>?_) <;>try simp only[hb])|refine ab.aA (by decide +kernel) rfl fun K hK =>?_|refine .flat _ (f1) rfl ?_|refine .flat _ (f2) rfl ?_|refine .flat _ (f3) rfl ?_|refine .flat _ (f4) rfl ?_|refine .flat _ (f5) rfl ?_|refine .flat _ (f6) rfl ?_|(refine .av [0,1,2,30,33] hK ?_;clear hK K)|(with_reducible refine .done (hK _ ?_);clear hK K)|refine ab.of rfl ?_|(with_reducible refine ar.az (fun h =>?_) (fun h =>?_) <;>try simp only[h])) <;>try simp only[aB,R,simprocAttr])
  all_goals clear R
  all_goals rfl
 cases w3:j4 r.ic
 ·rw[w3] at f6;have R:=y6 @k (y6 @w1 (y6 @w2 (y6 @jV (y6 @nL (y6 @bA aw)))))
  repeat' ((first |(with_reducible refine .guard (fun hb =>?_) (fun hb =>?_) <;>try simp only[hb])|refine ab.aA (by decide +kernel) rfl fun K hK =>?_|refine .flat _ (f1) rfl ?_|refine .flat _ (f2) rfl ?_|refine .flat _ (f3) rfl ?_|refine .flat _ (f4) rfl ?_|refine .flat _ (f5) rfl ?_|refine .flat _ (f6) rfl ?_|(refine .av [0,1,2,30,33] hK ?_;clear hK K)|(with_reducible refine .done (hK _ ?_);clear hK K)|refine ab.of rfl ?_|(with_reducible refine ar.az (fun h =>?_) (fun h =>?_) <;>try simp only[h])) <;>try simp only[aB,R,simprocAttr])
  all_goals clear R
  all_goals rfl
 rw[w3] at f6;cases w4:(r.gb==r.aI)
 ·have R:=y6 @k (y6 @w1 (y6 @w2 (y6 @w4 (y6 @jV (y6 @nL (y6 @bA aw))))))
  repeat' ((first |(with_reducible refine .guard (fun hb =>?_) (fun hb =>?_) <;>try simp only[hb])|refine ab.aA (by decide +kernel) rfl fun K hK =>?_|refine .flat _ (f1) rfl ?_|refine .flat _ (f2) rfl ?_|refine .flat _ (f3) rfl ?_|refine .flat _ (f4) rfl ?_|refine .flat _ (f5) rfl ?_|refine .flat _ (f6) rfl ?_|(refine .av [0,1,2,30,33] hK ?_;clear hK K)|(with_reducible refine .done (hK _ ?_);clear hK K)|refine ab.of rfl ?_|(with_reducible refine ar.az (fun h =>?_) (fun h =>?_) <;>try simp only[h])) <;>try simp only[aB,R,simprocAttr])
  all_goals clear R
  all_goals rfl
 have R:=y6 @k (y6 @w1 (y6 @w2 (y6 @w4 (y6 @jV (y6 @nL (y6 @bA aw))))))
 repeat' ((first |(with_reducible refine .guard (fun hb =>?_) (fun hb =>?_) <;>try simp only[hb])|refine ab.aA (by decide +kernel) rfl fun K hK =>?_|refine .flat _ (f1) rfl ?_|refine .flat _ (f2) rfl ?_|refine .flat _ (f3) rfl ?_|refine .flat _ (f4) rfl ?_|refine .flat _ (f5) rfl ?_|refine .flat _ (f6) rfl ?_|(refine .av [0,1,2,30,33] hK ?_;clear hK K)|(with_reducible refine .done (hK _ ?_);clear hK K)|refine ab.of rfl ?_|(with_reducible refine ar.az (fun h =>?_) (fun h =>?_) <;>try simp only[h])) <;>try simp only[aB,R,simprocAttr])
 all_goals clear R
 all_goals rfl
def sn(r:ah):Int:=if bj r=true then 0 else 80
def dZ(t:List UInt8):List (List UInt8):=(kO 10 true t).dropLast
theorem qQ{t:List UInt8}(h:∀ b∈t,b≠10):dZ t=[]:=by rw[dZ,DM h];rfl
theorem zd{x:List UInt8}(y:List UInt8)(h:∀ b∈x,b≠10):dZ (x++10::y)=(x++[10])::dZ y:=by
 rw[dZ,DL y h,if_pos rfl,List.dropLast_cons_of_ne_nil (QV 10 true y)];rfl
def fL(cO:Int→List UInt8→Option (ah×Int))(nx:List ah→ah→Bool):List ah→Int→Nat→List (List UInt8)→List ah×Nat
 |out,_,size,[]=>(out,size)
 |out,s,size,x::t=>match cO s x with
  |none=>(out,size)
  |some q=>if nx out q.1=true then fL cO nx (out++[q.1]) q.2 (size+x.length) t else (out,size)
def bW:Int→List ah→List UInt8
 |_,[]=>[]
 |s,r::l=>db s r++bW (dE s (da r)) l
def dK:Int→List ah→Int
 |s,[]=>s
 |s,r::l=>dK (dE s (da r)) l
theorem tP:∀ (a b:List ah) (s:Int),bW s (a++b)=bW s a++bW (dK s a) b
 | [],_,_=>rfl
 |r::a,b,s=>by simp only[zz8,bW,dK,tP a b,zz7]
theorem AI:∀ (a b:List ah) (s:Int),dK s (a++b)=dK (dK s a) b
 | [],_,_=>rfl
 |r::a,b,s=>by simp only[zz8,dK,AI a b]
theorem wR:∀ (a:List ah) {s:Int},0≤s∧s<1000003→0≤dK s a∧dK s a<1000003
 | [],_,h=>h
 |_::a,_,h=>wR a (lW h _)
theorem rO(a:List ah)(r:ah)(s:Int):bW s (a++[r])=bW s a++db (dK s a) r∧dK s (a++[r])=dE (dK s a) (da r):=by
 rw[tP,AI];simp only[bW,dK,zx2,and_self]
structure kI (ok:ah→Bool):Prop where
 small:∀ r,ok r=true→∀ n∈eK r,0≤n∧n<100000000
 aez:∀ r,ok r=true→∀ b∈r.text,b≠10
theorem agJ:∀ {l:List Int},(∀ n∈l,0≤n)→∀ b∈dV l,b≠10:=by
 intro l h b hb;obtain ⟨n,hn,hb⟩:=List.mem_flatMap.1 hb;rcases zy6.1 hb with hb | hb
 ·exact DS (h n hn) (by decide) b hb
 ·rw[zy7.1 hb];decide
theorem F0{ok:ah→Bool}(hk:kI ok){s:Int}(hs:0≤s∧s<1000003){r:ah}(h:ok r=true) :
  ∃ x,db s r=x++[10]∧∀ b∈x,b≠10:=by
 refine ⟨_,zc s r,fun b hb =>?_⟩;rcases zy6.1 hb with hb | hb
 ·refine agJ (fun n hn =>?_) b hb;rcases zx7.1 hn with rfl | hn
  ·exact (lW hs _).1
  ·exact (hk.small r h n hn).1
 ·exact hk.aez r h b hb
def cW(ok:ah→Bool)(nx:List ah→ah→Bool):List ah→List ah→Prop
 |_,[]=>True
 |out,r::l=>ok r=true∧nx out r=true∧cW ok nx (out++[r]) l
theorem tH{ok:ah→Bool}(hk:kI ok)(nx:List ah→ah→Bool)(z:List UInt8):∀ (l out:List ah) (s:Int) (size:Nat),0≤s∧s<1000003→cW ok nx out l →
  fL (eb ok) nx out s size (dZ (bW s l++z))=fL (eb ok) nx (out++l) (dK s l) (size+(bW s l).length) (dZ z)
 | [],out,s,size,_,_=>by simp only[bW,dK,zy3,zx2,zv1,Nat.add_zero]
 |r::l,out,s,size,hs,hw=>by
  obtain ⟨h1,h2,h3⟩:=hw;obtain ⟨x,e,hx⟩:=F0 hk hs h1;have hb:=(agh ok hs h1 (hk.small r h1)).1;have ih:=tH hk nx z l (out++[r]) (dE s (da r)) (size+(db s r).length) (lW hs _) h3;rw[bW,zz7,e,zz7,List.singleton_append,zd _ hx,←e,fL,hb];simp only[h2,if_true];rw[ih];simp only[dK,zz7,List.singleton_append,zz1,Nat.add_assoc]
theorem agY{ok:ah→Bool}(hk:kI ok)(nx:List ah→ah→Bool){l:List ah}(h:cW ok nx [] l){z:List UInt8}(hz:∀ b∈z,b≠10) :
  fL (eb ok) nx [] 1 0 (dZ (bW 1 l++z))=(l,(bW 1 l).length):=by
 rw[tH hk nx z l [] 1 0 (by omega) h,qQ hz,fL];simp
theorem xS{ok:ah→Bool}(hk:kI ok)(nx:List ah→ah→Bool):∀ (l out:List ah) (s:Int) (A C:List UInt8),0≤s∧s<1000003→cW ok nx out l→bW s l=A++C→C≠[] →
  ∃ l1 l2 A2,l=l1++l2∧l2≠[]∧A=bW s l1++A2∧(∀ b∈A2,b≠10)∧A.count 10=l1.length
 | [],_,_,A,C,_,_,e,hC=>by
  simp only[bW] at e;have:=congrArg List.length e;cases C with
  |nil=>exact absurd rfl hC
  |cons c t=>simp at this
 |r::l,out,s,A,C,hs,hw,e,hC=>by
  obtain ⟨h1,h2,h3⟩:=hw;obtain ⟨x,ex,hx⟩:=F0 hk hs h1;have hc:(db s r).count 10=1:=by
   rw[ex,List.count_append,List.count_eq_zero.2 (fun k=>hx 10 k rfl)];rfl
  have step:∀ a',A=db s r++a'→bW (dE s (da r)) l=a'++C→∃ l1 l2 A2,r::l=l1++l2∧l2≠[]∧A=bW s l1++A2∧(∀ b∈A2,b≠10)∧A.count 10=l1.length:=by
   intro a' e1 e2;obtain ⟨l1,l2,A2,q1,q2,q3,q4,q5⟩:=xS hk nx l (out++[r]) _ a' C (lW hs _) h3 e2 hC;refine ⟨r::l1,l2,A2,by rw[q1];rfl,q2,by rw[e1,q3,bW,zz7],q4,?_⟩;rw[e1,List.count_append,hc,q5,zx5];omega
  rw[bW] at e;rcases List.append_eq_append_iff.1 e with ⟨a',e1,e2⟩ | ⟨c',e1,e2⟩
  ·exact step a' e1 e2
  ·by_cases hc':c'=[]
   ·subst hc';exact step [] (by rw[e1];simp) (by rw[e2];simp)
   ·have hA:∀ b∈A,b≠10:=by
     rw[ex] at e1;rcases List.append_eq_append_iff.1 e1 with ⟨y,f1,f2⟩ | ⟨y,f1,f2⟩
     ·have:y=[]:=by
       have h':=congrArg List.length f2;have h'':=zv2.2 hc';rw[zz1,List.length_singleton] at h';exact zv0 (by omega)
      rw[this,zx2] at f1;rw[f1];exact hx
     ·intro b hb;exact hx b (by rw[f1];exact List.mem_append_left _ hb)
    exact ⟨[],r::l,A,rfl,by simp,rfl,hA,by rw[List.count_eq_zero.2 (fun k=>hA 10 k rfl)];rfl⟩
theorem cW.left{ok:ah→Bool}{nx:List ah→ah→Bool} : ∀ {a b out:List ah},cW ok nx out (a++b)→cW ok nx out a
 | [],_,_,_=>trivial
 |_::_,_,_,h=>⟨h.1,h.2.1,cW.left h.2.2⟩
theorem ady(m:Nat)(b:UInt8)(h:b∈Lib.itoa (m:Int)):57<b.toNat→False:=by
 intro hb;rw[Lib.itoa_nonneg] at h;have hd:=(qy m).1;generalize Lib.decDigits m=l at h hd;obtain ⟨j,hj,rfl⟩:=List.getElem_of_mem h;rw[RD hj (by simp only[ki,decide_eq_false_iff_not];omega)] at hd;cases hd
theorem aeA{ok:ah→Bool}(hk:kI ok)(hq:∀ r,ok r=true→∀ b∈r.text,b≠63){s:Int}(hs:0≤s∧s<1000003){t:List UInt8}(h:(63:UInt8)∈t):eb ok s t=none:=by
 cases hr:eb ok s t with
 |none=>rfl
 |some q =>
  exfalso
  obtain ⟨h1,h2,_⟩:=IF ok hr;rw[←h2,zc] at h;rcases zy6.1 h with h | h
  ·rcases zy6.1 h with h | h
   ·obtain ⟨n,hn,hb⟩:=List.mem_flatMap.1 h;have h0:0≤n:=by
     rcases zx7.1 hn with rfl | hn
     ·exact (lW hs _).1
     ·exact (hk.small _ h1 n hn).1
    rcases zy6.1 hb with hb | hb
    ·obtain ⟨m,rfl⟩:=zy2 h0;exact ady m 63 hb (by decide)
    ·exact absurd (zy7.1 hb) (by decide)
   ·exact hq _ h1 63 h rfl
  ·exact absurd (zy7.1 h) (by decide)
inductive gH (t:List UInt8):List UInt8→Prop
 |mi (k:Nat):gH t (t.take k)
 |Aw (k j:Nat) (h:j<(t.take k).length):gH t ((t.take k).set j 63)
theorem agZ{ok:ah→Bool}(hk:kI ok)(hq:∀ r,ok r=true→∀ b∈r.text,b≠63)(nx:List ah→ah→Bool){l out:List ah}{s:Int}(hs:0≤s∧s<1000003)(size:Nat)
  (h:cW ok nx out l) {A:List UInt8} (hA:gH (bW s l) A) :
  ∃ l1 l2 A2,l=l1++l2∧A=bW s l1++A2∧fL (eb ok) nx out s size (dZ A)=(out++l1,size+(bW s l1).length):=by
 have er:∀ l1 l2 z,l=l1++l2→(∀ b∈z,b≠10)→fL (eb ok) nx out s size (dZ (bW s l1++z))=(out++l1,size+(bW s l1).length):=by
  intro l1 l2 z e hz;rw[tH hk nx z l1 out s size hs (cW.left (e▸h)),qQ hz,fL]
 cases hA with
 |mi k =>
  by_cases hC:(bW s l).drop k=[]
  ·have e:(bW s l).take k=bW s l:=by
    have:=zw1 k (bW s l);rw[hC,zx2] at this;exact this
   refine ⟨l,[],[],by simp,by rw[e];simp,?_⟩;have:=er l [] [] (by simp) (by simp);rw[zx2] at this;rw[e,this]
  ·obtain ⟨l1,l2,A2,q1,_,q3,q4,_⟩:=xS hk nx l out s _ _ hs h (zw1 k (bW s l)).symm hC;refine ⟨l1,l2,A2,q1,q3,?_⟩;rw[q3];exact er l1 l2 A2 q1 q4
 |Aw k j hj =>
  have hj':j<(bW s l).length:=by rw[zz6] at hj;omega
  have hjk:j<k:=by rw[zz6] at hj;omega
  obtain ⟨l1,l2,A2,q1,_,q3,q4,_⟩:=xS hk nx l out s _ _ hs h (zw1 j (bW s l)).symm (by rw[Ne,List.drop_eq_nil_iff];omega);have e:((bW s l).take k).set j 63=bW s l1++(A2++63::((bW s l).take k).drop (j+1)):=by
   rw[List.set_eq_take_append_cons_drop,if_pos hj,List.take_take,Nat.min_eq_left (Nat.le_of_lt hjk),q3,zz7]
  refine ⟨l1,l2,_,q1,e,?_⟩;rw[e,tH hk nx _ l1 out s size hs (cW.left (q1▸h))];generalize ((bW s l).take k).drop (j+1)=C;rcases Ev 10 C with hC | ⟨x,y,hx,rfl⟩
  ·rw[qQ,fL];intro z hz;rcases zy6.1 hz with hz | hz
   ·exact q4 z hz
   ·rcases zx7.1 hz with rfl | hz
    ·decide
    ·exact hC z hz
  ·rw[show A2++63::(x++10::y)=(A2++63::x)++10::y by simp,zd y (by
    intro z hz;rcases zy6.1 hz with hz | hz
    ·exact q4 z hz
    ·rcases zx7.1 hz with rfl | hz
     ·decide
     ·exact hx z hz),fL,aeA hk hq (wR l1 hs) (by simp)]
theorem cW.right{ok:ah→Bool}{nx:List ah→ah→Bool} : ∀ {a b out:List ah},cW ok nx out (a++b)→cW ok nx (out++a) b
 | [],_,_,h=>by simpa using h
 |r::a,b,out,h=>by
  have:=cW.right (a:=a) h.2.2
  rwa [zz7,List.singleton_append] at this
theorem ag2{ok:ah→Bool}(hk:kI ok)(hq:∀ r,ok r=true→∀ b∈r.text,b≠63)(nx:List ah→ah→Bool){l1 l2:List ah}(h:cW ok nx [] (l1++l2)){A:List UInt8}(hA:gH (bW (dK 1 l1) l2) A) :
  ∃ m m' A2,l2=m++m'∧bW 1 l1++A=bW 1 (l1++m)++A2∧fL (eb ok) nx [] 1 0 (dZ (bW 1 l1++A))=(l1++m,(bW 1 (l1++m)).length):=by
 have hw:=cW.right (out:=[]) h;rw[zy3] at hw;obtain ⟨m,m',A2,q1,q2,q3⟩:=agZ hk hq nx (wR l1 (by omega)) (0+(bW 1 l1).length) hw hA;refine ⟨m,m',A2,q1,by rw[q2,tP,zz7],?_⟩;rw[tH hk nx A l1 [] 1 0 (by omega) (cW.left h),zy3,q3,tP,zz1,zz4]
def gW(ok:ah→Bool)(nx:List ah→ah→Bool)(t:List UInt8):List ah×List UInt8:=((fL (eb ok) nx [] 1 0 (dZ t)).1,t.take (fL (eb ok) nx [] 1 0 (dZ t)).2)
def oF(ok:ah→Bool)(nx:List ah→ah→Bool)(a b:List UInt8):List ah×List UInt8 :=
 if (gW ok nx a).1.length<(gW ok nx b).1.length then gW ok nx b else gW ok nx a
theorem Jg(ok:ah→Bool)(nx:List ah→ah→Bool):gW ok nx []=([],[]):=by
 rw[gW,qQ (by simp),fL];rfl
theorem ad7{A:List UInt8}(h:gH [] A):A=[]:=by
 cases h with
 |mi k=>simp
 |Aw k j hj=>simp
theorem agX{ok:ah→Bool}(hk:kI ok)(hq:∀ r,ok r=true→∀ b∈r.text,b≠63)(nx:List ah→ah→Bool){l1 l2:List ah}(h:cW ok nx [] (l1++l2)){A:List UInt8}(hA:gH (bW (dK 1 l1) l2) A) :
  ∃ m m',l2=m++m'∧gW ok nx (bW 1 l1++A)=(l1++m,bW 1 (l1++m)):=by
 obtain ⟨m,m',A2,q1,q2,q3⟩:=ag2 hk hq nx h hA;refine ⟨m,m',q1,?_⟩;rw[gW,q3,q2,zu8]
theorem agW{ok:ah→Bool}(hk:kI ok)(nx:List ah→ah→Bool){l:List ah}(h:cW ok nx [] l):gW ok nx (bW 1 l)=(l,bW 1 l):=by
 have:=agY hk nx h (z:=[]) (by simp);rw[zx2] at this;rw[gW,this,zv5]
theorem afB{ok:ah→Bool}(hk:kI ok)(hq:∀ r,ok r=true→∀ b∈r.text,b≠63)(nx:List ah→ah→Bool){l1 l2:List ah}(h:cW ok nx [] (l1++l2)){A:List UInt8}(hA:gH (bW (dK 1 l1) l2) A)
  {a b:List UInt8} (hab:(a=bW 1 l1++A∧(b=bW 1 l1∨b=[]))∨(a=[]∧b=bW 1 l1)) :
  ∃ m m',l2=m++m'∧oF ok nx a b=(l1++m,bW 1 (l1++m)):=by
 have hd:=agW hk nx (cW.left h);rcases hab with ⟨rfl,hb⟩ | ⟨rfl,rfl⟩
 ·obtain ⟨m,m',q1,q2⟩:=agX hk hq nx h hA;refine ⟨m,m',q1,?_⟩;have hle:¬ (gW ok nx (bW 1 l1++A)).1.length<(gW ok nx b).1.length:=by
   rw[q2];rcases hb with rfl | rfl
   ·rw[hd];simp
   ·rw[Jg];simp
  rw[oF,if_neg hle,q2]
 ·refine ⟨[],l2,rfl,?_⟩;rw[oF,Jg,hd,zx2];cases l1 with
  |nil=>rfl
  |cons r l=>rfl
structure iM (firm:Nat) (w:List ah) (iV iW iy iQ:List UInt8):Prop where
 eE:firm≤w.length
 iV:iV=bW 1 (w.take firm)
 iW:iW=bW (dK 1 (w.take firm)) (w.drop firm)
 iy:iy=bW 1 (w.take firm)
 iQ:iQ=[]
theorem iM.zero:iM 0 [] [] [] [] []:=⟨zy1 _,rfl,rfl,rfl,rfl⟩
theorem iM.all(w:List ah):iM w.length w (bW 1 w) [] (bW 1 w) [] :=
 ⟨zy1 _,by rw[zv5],by rw[List.drop_length];rfl,by rw[zv5],rfl⟩
theorem iM.cd{firm:Nat}{w:List ah}{iV iW iy iQ:List UInt8}(h:iM firm w iV iW iy iQ):iV++iW=bW 1 w:=by
 rw[h.iV,h.iW,←tP,zw1]
theorem iM.copy{firm:Nat}{w:List ah}{iV iW iy iQ:List UInt8}(h:iM firm w iV iW iy iQ):iy++iQ=bW 1 (w.take firm):=by
 rw[h.iy,h.iQ,zx2]
theorem iM.wY{firm:Nat}{w:List ah}{iV iW iy iQ:List UInt8}(h:iM firm w iV iW iy iQ)(x:ah):iM firm (w++[x]) iV (iW++db (dK 1 w) x) iy iQ:=by
 have e1:(w++[x]).take firm=w.take firm:=zw4 h.eE;have e2:(w++[x]).drop firm=w.drop firm++[x]:=List.drop_append_of_le_length h.eE;refine ⟨by rw[zz1];have:=h.eE;omega,by rw[e1];exact h.iV,?_,by rw[e1];exact h.iy,h.iQ⟩;rw[e1,e2,(rO _ _ _).1,←AI,zw1,←h.iW]
theorem iM.AE{ok:ah→Bool}(hk:kI ok)(hq:∀ r,ok r=true→∀ b∈r.text,b≠63)(nx:List ah→ah→Bool){firm:Nat}{w:List ah}{iV iW iy iQ:List UInt8}(h:iM firm w iV iW iy iQ)(hw:cW ok nx [] w)
  {A B:List UInt8} (hA:gH iW A) (hB:gH iQ B) {a b:List UInt8} (hab:(a=iV++A∧(b=iy++B∨b=[]))∨(a=[]∧b=iy++B)) :
  ∃ n,firm≤n∧n≤w.length∧oF ok nx a b=(w.take n,bW 1 (w.take n)):=by
 have hB0:B=[]:=ad7 (h.iQ▸hB);have e:w.take firm++w.drop firm=w:=zw1 firm w;rw[h.iW] at hA;rw[h.iV,h.iy,hB0,zx2] at hab;obtain ⟨m,m',q1,q2⟩:=afB hk hq nx (by rw[e];exact hw) hA hab;have hl:=congrArg List.length q1;rw[zv3,zz1] at hl;have hle:=h.eE;refine ⟨firm+m.length,by omega,by omega,?_⟩;have et:w.take (firm+m.length)=w.take firm++m:=by
  rw[List.take_add,q1,zu8]
 rw[q2,et]
def bR(l:List ah)(m:Int):Nat:=l.countP fun r=>decide (r.aI=m)
def dY(a b:ah):Bool:=decide (a.aI<b.aI∨(a.aI=b.aI∧a.no<b.no))
def jS(l:List ah)(r:ah):Bool:=match l.getLast? with
 |none=>decide ((r.aI=-1∧r.no=1)∨(-1<r.aI∧r.no=0))
 |some a=>decide ((r.aI=a.aI∧r.no=a.no+1)∨(a.aI<r.aI∧r.no=0))
def nS(l:List ah)(r:ah):Bool:=(match l.getLast? with
 |none=>true
 |some a=>dY a r)&&decide ((bR l r.aI:Int)=r.no)
def fW(aS:List ah→ah→Bool):List ah→List ah→Bool
 |_,[]=>true
 |out,r::l=>aS out r&&fW aS (out++[r]) l
def qc(l:List ah):Prop:=match l.getLast? with
 |none=>True
 |some a=>(bR l a.aI:Int)=a.no+1∧∀ m,a.aI<m→bR l m=0
theorem oh(l:List ah)(r:ah)(m:Int):bR (l++[r]) m=bR l m+if r.aI=m then 1 else 0:=by
 rw[bR,List.countP_append,←bR,List.countP_cons,List.countP_nil];simp
theorem Jz{l:List ah}(h:qc l){r:ah}(hr:0≤r.aI∧0≤r.no):jS l r=nS l r∧(jS l r=true→qc (l++[r])):=by
 rw[qc] at h;have hl:(l++[r]).getLast?=some r:=by rw[List.getLast?_append];rfl
 rw[qc,hl,jS,nS];cases e:l.getLast? with
 |none =>
  have hnil:l=[]:=List.getLast?_eq_none_iff.1 e;subst hnil;have c0:∀ m,bR [] m=0:=fun _=>rfl;have c1:=c0 r.aI;simp only[zu6];refine ⟨?_,?_⟩
  ·rw[Bool.eq_iff_iff,decide_eq_true_iff,decide_eq_true_iff];constructor
   ·intro h;rcases h with h | h <;>omega
   ·intro h;right;omega
  ·intro h;rw[decide_eq_true_eq] at h;refine ⟨by rw[oh,if_pos rfl];omega,fun m hm =>?_⟩;rw[oh,if_neg (by omega),c0]
 |some a =>
  rw[e] at h;obtain ⟨h1,h2⟩:=h;simp only;refine ⟨?_,?_⟩
  ·rw[dY,Bool.eq_iff_iff,zz0,decide_eq_true_eq,decide_eq_true_eq,decide_eq_true_eq];rcases Int.lt_trichotomy a.aI r.aI with c | c | c
   ·have:=h2 r.aI c;constructor
    ·intro k;exact ⟨.inl c,by omega⟩
    ·intro k;right;omega
   ·rw[←c];constructor
    ·intro k;exact ⟨.inr ⟨rfl,by omega⟩,by omega⟩
    ·intro k;left;omega
   ·constructor
    ·intro k;omega
    ·intro k;omega
  ·intro k;rw[decide_eq_true_eq] at k;rw[oh,if_pos rfl];refine ⟨?_,fun m hm =>?_⟩
   ·rcases k with k | k
    ·rw[k.1];omega
    ·have:=h2 r.aI k.1;omega
   ·rw[oh,if_neg (by omega),h2 m (by omega)]
theorem BG:∀ (l out:List ah),qc out→(∀ r∈l,0≤r.aI∧0≤r.no)→fW jS out l=fW nS out l
 | [],_,_,_=>rfl
 |r::l,out,h,hr=>by
  obtain ⟨e,k⟩:=Jz h (hr r (by simp));simp only[fW,←e];cases hs:jS out r with
  |false=>rfl
  |true=>rw[BG l (out++[r]) (k hs) fun x hx=>hr x (by simp[hx])]
theorem BW{l:List ah}(hr:∀ r∈l,0≤r.aI∧0≤r.no):fW jS [] l=fW nS [] l:=BG l [] trivial hr
theorem BZ:∀ (l out:List ah),qc out→(∀ r∈l,0≤r.aI∧0≤r.no)→fW jS out l=true→out.Pairwise (fun a b=>dY a b=true)→(out++l).Pairwise (fun a b=>dY a b=true)
 | [],out,_,_,_,h=>by simpa using h
 |r::l,out,h,hr,hb,hp=>by
  simp only[fW,zz0] at hb;obtain ⟨e,k⟩:=Jz h (hr r (by simp));have:=BZ l (out++[r]) (k hb.1) (fun x hx=>hr x (by simp[hx])) hb.2 (by
   rw[List.pairwise_append];refine ⟨hp,by simp,fun a ha b hb' =>?_⟩;rw[zy7.1 hb'];have hs:=hb.1;rw[e,nS,zz0] at hs;have hne:out≠[]:=fun k=>by rw[k] at ha;cases ha
   have hlast:=List.getLast?_eq_some_getLast hne;rw[hlast] at hs;have h1:=hs.1;have hcat:=List.dropLast_concat_getLast hne;rw[←hcat] at ha hp;rcases zy6.1 ha with ha | ha
   ·have h2:=(List.pairwise_append.1 hp).2.2 a ha _ (zy7.2 rfl);simp only[dY,decide_eq_true_eq] at h1 h2 ⊢;omega
   ·rw[zy7.1 ha];exact h1)
  rwa [zz7,List.singleton_append] at this
def dQ(out:List ah)(r:ah):Bool:=decide (out.length<60)&&decide ((bR out r.aI:Int)=r.no)
def mW(l:List ah)(r:ah):Nat:=l.countP fun q=>decide (q.aI=r.aI∧q.no<r.no)
structure ir (l:List ah):Prop where
 lt:∀ r∈l,0≤r.no∧r.no<bR l r.aI
 bw:∀ r∈l,(mW l r:Int)=r.no
theorem ir.nil:ir []:=⟨by simp,by simp⟩
theorem ir.Jo{l:List ah}(h:ir l){r:ah}(hn:(bR l r.aI:Int)=r.no):ir (l++[r]):=by
 have ha:∀ q,mW (l++[r]) q=mW l q+if r.aI=q.aI∧r.no<q.no then 1 else 0:=fun q=>by
  rw[mW,List.countP_append,←mW,List.countP_cons,List.countP_nil];simp
 refine ⟨fun q hq =>?_,fun q hq =>?_⟩
 ·rw[oh];rcases zy6.1 hq with hq | hq
  ·have:=h.lt q hq;split <;>omega
  ·rw[zy7.1 hq,if_pos rfl];omega
 ·rw[ha];rcases zy6.1 hq with hq | hq
  ·rw[if_neg,Nat.add_zero]
   ·exact h.bw q hq
   ·rintro ⟨k1,k2⟩;have:=(h.lt q hq).2;rw[←k1] at this;omega
  ·rw[zy7.1 hq,if_neg (by omega),Nat.add_zero,←hn,mW,bR]
   congr 1
   refine List.countP_congr fun x hx =>?_;rw[decide_eq_true_eq,decide_eq_true_eq];constructor
   ·exact fun k=>k.1
   ·intro k;refine ⟨k,?_⟩;have:=(h.lt x hx).2;rw[k] at this;omega
theorem cW.vS{ok:ah→Bool} : ∀ {l out:List ah},ir out→cW ok dQ out l→ir (out++l)
 | [],out,h,_=>by simpa using h
 |r::l,out,h,hw=>by
  have hn:=hw.2.1;simp only[dQ,zz0,decide_eq_true_eq] at hn;have:=cW.vS (h.Jo hn.2) hw.2.2
  rwa [zz7,List.singleton_append] at this
theorem cW.len{ok:ah→Bool} : ∀ {l out:List ah},out.length≤60→cW ok dQ out l→out.length+l.length≤60
 | [],out,h,_=>by simpa using h
 |r::l,out,h,hw=>by
  have hn:=hw.2.1;simp only[dQ,zz0,decide_eq_true_eq] at hn;have:=cW.len (out:=out++[r]) (by simp;omega) hw.2.2;simp only[zz1,zx5,zv1] at this ⊢;omega
theorem BY:∀ (b a l:List ah),l=a++b→l.Pairwise (fun x y=>dY x y=true)→ir l→fW nS a b=true
 | [],_,_,_,_,_=>rfl
 |r::b,a,l,e,hs,hn=>by
  subst e;have ih:=BY b (a++[r]) (a++r::b) (by simp) hs hn;have hp:=List.pairwise_append.1 hs;have hb:=List.pairwise_cons.1 hp.2.1;have hat:=hn.bw r (by simp);have hc:mW (a++r::b) r=bR a r.aI:=by
   rw[mW,List.countP_append,List.countP_cons,bR];have e1:a.countP (fun q=>decide (q.aI=r.aI∧q.no<r.no))=a.countP (fun q=>decide (q.aI=r.aI)):=by
    refine List.countP_congr fun x hx =>?_;rw[decide_eq_true_eq,decide_eq_true_eq];have:=hp.2.2 x hx r (by simp);simp only[dY,decide_eq_true_eq] at this;constructor
    ·exact fun k=>k.1
    ·intro k;exact ⟨k,by omega⟩
   have e2:b.countP (fun q=>decide (q.aI=r.aI∧q.no<r.no))=0:=by
    refine List.countP_eq_zero.2 fun x hx =>?_;rw[decide_eq_true_eq];have:=hb.1 x hx;simp only[dY,decide_eq_true_eq] at this;omega
   rw[e1,e2];simp
  rw[fW,ih,Bool.and_true,nS,zz0,decide_eq_true_eq];refine ⟨?_,by rw[←hc];exact hat⟩;cases hl:a.getLast? with
  |none=>rfl
  |some x =>
   have hx:x∈a:=List.mem_of_getLast? hl;exact hp.2.2 x hx r (by simp)
theorem ir.afJ{l s:List ah}(h:ir l)(p:s.Perm l):ir s :=
 ⟨fun r hr=>by rw[bR,p.countP_eq];exact h.lt r (p.mem_iff.1 hr),fun r hr=>by rw[mW,p.countP_eq];exact h.bw r (p.mem_iff.1 hr)⟩
theorem cW.inj{ok:ah→Bool} : ∀ {l out:List ah},ir out→cW ok dQ out l→out.Pairwise (fun x y=>¬ (x.aI=y.aI∧x.no=y.no))→(out++l).Pairwise (fun x y=>¬ (x.aI=y.aI∧x.no=y.no))
 | [],out,_,_,hp=>by simpa using hp
 |r::l,out,h,hw,hp=>by
  have hn:=hw.2.1;simp only[dQ,zz0,decide_eq_true_eq] at hn;have:=cW.inj (h.Jo hn.2) hw.2.2 (by
   rw[List.pairwise_append];refine ⟨hp,by simp,fun x hx y hy k =>?_⟩;rw[zy7.1 hy] at k;have:=(h.lt x hx).2;rw[k.1] at this;omega)
  rwa [zz7,List.singleton_append] at this
theorem ahe{ok:ah→Bool}{l s:List ah}(hw:cW ok dQ [] l)(p:s.Perm l)(hs:s.Pairwise (fun x y=>dY x y=true)):fW nS [] s=true∧s.length≤60:=by
 have hn:=cW.vS ir.nil hw;have hl:=cW.len (zv6 _) hw;rw[zy3] at hn;simp only[zv1,zz4] at hl;exact ⟨BY s [] s rfl hs (hn.afJ p),by rw[p.length_eq];exact hl⟩
def jc(x r:ah):Bool:=decide (r.aI=x.aI∧r.no=x.no)
def oa(ok:ah→Bool)(w s:List ah)(x:ah)(e1 e2 e3 e4:Int):Bool×Int :=
 if x∈w then (false,0) else if ok x=false then (false,e1) else if s.any (jc x)=true then (false,e2)
 else if (bR s x.aI:Int)<x.no then (false,e3) else if s.length=60 then (false,e4) else (true,0)
def lj(ok:ah→Bool)(w:List ah)(x:ah)(e1 e2 e3 e4:Int):Bool×Int :=
 if ok x=false then (false,e1) else match w.find? (jc x) with
  |some r=>if r=x then (false,0) else (false,e2)
  |none=>if x.no>(bR w x.aI:Int) then (false,e3) else if w.length=60 then (false,e4) else (true,0)
theorem cW.ok{ok:ah→Bool}{nx:List ah→ah→Bool} : ∀ {l out:List ah},cW ok nx out l→∀ r∈l,ok r=true
 | [],_,_,r,h=>by cases h
 |_::_,_,hw,r,h=>by
  rcases zx7.1 h with rfl | h
  ·exact hw.1
  ·exact cW.ok hw.2.2 r h
theorem GV{l:List ah}(h:l.Pairwise (fun x y=>¬ (x.aI=y.aI∧x.no=y.no))){a b:ah}(ha:a∈l)(hb:b∈l)(e:a.aI=b.aI∧a.no=b.no):a=b:=by
 obtain ⟨i,hi,rfl⟩:=List.getElem_of_mem ha;obtain ⟨j,hj,rfl⟩:=List.getElem_of_mem hb;rcases Nat.lt_trichotomy i j with c | c | c
 ·exact absurd e (List.pairwise_iff_getElem.1 h i j hi hj c)
 ·subst c;rfl
 ·exact absurd ⟨e.1.symm,e.2.symm⟩ (List.pairwise_iff_getElem.1 h j i hj hi c)
theorem K1{ok:ah→Bool}{w s:List ah}(hw:cW ok dQ [] w)(p:s.Perm w)(x:ah)(e1 e2 e3 e4:Int):oa ok w s x e1 e2 e3 e4=lj ok w x e1 e2 e3 e4:=by
 have hp:=cW.inj ir.nil hw List.Pairwise.nil;rw[zy3] at hp;have hany:s.any (jc x)=w.any (jc x):=by
  rw[Bool.eq_iff_iff,List.any_eq_true,List.any_eq_true];constructor
  ·rintro ⟨r,h1,h2⟩;exact ⟨r,p.mem_iff.1 h1,h2⟩
  ·rintro ⟨r,h1,h2⟩;exact ⟨r,p.mem_iff.2 h1,h2⟩
 have hcnt:bR s x.aI=bR w x.aI:=by rw[bR,p.countP_eq];rfl
 rw[oa,lj,hany,hcnt,p.length_eq];by_cases hx:x∈w
 ·have ho:=cW.ok hw x hx;rw[if_pos hx,ho,if_neg (by simp)];cases hf:w.find? (jc x) with
  |none=>exact absurd (List.find?_eq_none.1 hf x hx) (by simp[jc])
  |some r =>
   have h1:=List.find?_some hf;simp only[jc,decide_eq_true_eq] at h1;have:=GV hp (List.mem_of_find?_eq_some hf) hx h1;simp only[this,if_true]
 ·rw[if_neg hx];by_cases ho:ok x=false
  ·rw[if_pos ho,if_pos ho]
  ·rw[if_neg ho,if_neg ho];cases hf:w.find? (jc x) with
   |none =>
    have:w.any (jc x)=false:=by
     rw[List.any_eq_false];exact List.find?_eq_none.1 hf
    rw[this,if_neg (by simp)]
   |some r =>
    have hr:=List.mem_of_find?_eq_some hf;have:w.any (jc x)=true:=List.any_eq_true.2 ⟨r,hr,List.find?_some hf⟩;rw[this,if_pos rfl];have hne:r≠x:=fun k=>hx (k▸hr);simp only[if_neg hne]
theorem cW.EG{ok:ah→Bool} : ∀ {l out:List ah},(∀ m (k:Nat),k<bR out m→∃ r∈out,r.aI=m∧r.no=k)→cW ok dQ out l→∀ m (k:Nat),k<bR (out++l) m→∃ r∈out++l,r.aI=m∧r.no=k
 | [],out,h,_=>by simpa using h
 |x::l,out,h,hw=>by
  have hn:=hw.2.1;simp only[dQ,zz0,decide_eq_true_eq] at hn;have:=cW.EG (out:=out++[x]) (by
   intro m k hk;rw[oh] at hk;by_cases c:k<bR out m
   ·obtain ⟨r,h1,h2⟩:=h m k c;exact ⟨r,List.mem_append_left _ h1,h2⟩
   ·by_cases e:x.aI=m
    ·rw[if_pos e] at hk;refine ⟨x,by simp,e,?_⟩;rw[←hn.2,e];omega
    ·rw[if_neg e] at hk;omega) hw.2.2
  rwa [zz7,List.singleton_append] at this
theorem LA{a b:ah}(h:dY a b=true)(k:dY b a=true):False:=by
 simp only[dY,decide_eq_true_eq] at h k;omega
theorem BS{a b c:ah}(h:dY a b=true)(k:dY b c=true):dY a c=true:=by
 simp only[dY,decide_eq_true_eq] at h k ⊢;omega
theorem Jx:∀ {a b:List ah},a.Pairwise (fun x y=>dY x y=true)→b.Pairwise (fun x y=>dY x y=true)→a.Perm b→a=b
 | [],b,_,_,p=>(List.nil_perm.1 p).symm
 |x::a,[],_,_,p=>absurd (List.perm_nil.1 p) (by simp)
 |x::a,y::b,ha,hb,p=>by
  obtain ⟨h1,h2⟩:=List.pairwise_cons.1 ha;obtain ⟨k1,k2⟩:=List.pairwise_cons.1 hb;by_cases e:x=y
  ·subst e;rw[Jx h2 k2 ((List.perm_cons x).1 p)]
  ·have hx:x∈b:=by
    rcases zx7.1 (p.mem_iff.1 (zw9 (a:=x) (l:=a))) with h | h
    ·exact absurd h e
    ·exact h
   have hy:y∈a:=by
    rcases zx7.1 (p.mem_iff.2 (zw9 (a:=y) (l:=b))) with h | h
    ·exact absurd h.symm e
    ·exact h
   exact (LA (h1 y hy) (k1 x hx)).elim
def gV(l:List ah)(r:ah):List ah:=l.takeWhile (fun q=>dY q r)++r::l.dropWhile (fun q=>dY q r)
theorem zS(l:List ah)(r:ah):(gV l r).Perm (r::l):=by
 have:=List.takeWhile_append_dropWhile (p:=fun q=>dY q r) (l:=l);refine List.perm_middle.trans ?_;rw[this]
theorem af3{l:List ah}{r:ah}(h:l.Pairwise (fun x y=>dY x y=true))(hr:∀ q∈l,¬ (q.aI=r.aI∧q.no=r.no)):(gV l r).Pairwise (fun x y=>dY x y=true):=by
 induction l with
 |nil=>simp[gV]
 |cons q l ih =>
  obtain ⟨h1,h2⟩:=List.pairwise_cons.1 h;have ih:=ih h2 fun x hx=>hr x (by simp[hx]);by_cases c:dY q r=true
  ·have e:gV (q::l) r=q::gV l r:=by simp[gV,c]
   rw[e,List.pairwise_cons];refine ⟨fun x hx =>?_,ih⟩;rcases zx7.1 ((zS l r).mem_iff.1 hx) with rfl | hx
   ·exact c
   ·exact h1 x hx
  ·have e:gV (q::l) r=r::q::l:=by simp[gV,c]
   have hq:=hr q (by simp);have hrq:dY r q=true:=by
    simp only[dY,decide_eq_true_eq] at c ⊢;omega
   rw[e,List.pairwise_cons];refine ⟨fun x hx =>?_,h⟩;rcases zx7.1 hx with rfl | hx
   ·exact hrq
   ·exact BS hrq (h1 x hx)
def cC(l:List ah):List ah:=l.foldl gV []
theorem Jq:∀ (l out:List ah),(out++l).Pairwise (fun x y=>¬ (x.aI=y.aI∧x.no=y.no))→∀ s:List ah,s.Perm out→s.Pairwise (fun x y=>dY x y=true) →
  (l.foldl gV s).Perm (out++l)∧(l.foldl gV s).Pairwise (fun x y=>dY x y=true)
 | [],out,_,s,p,hs=>by simpa using ⟨p,hs⟩
 |r::l,out,hp,s,p,hs=>by
  have hq:∀ q∈s,¬ (q.aI=r.aI∧q.no=r.no):=fun q hq=>(List.pairwise_append.1 hp).2.2 q (p.mem_iff.1 hq) r (by simp);have e:out++r::l=(out++[r])++l:=by simp
  rw[e] at hp ⊢;rw[List.foldl_cons];refine Jq l (out++[r]) hp (gV s r) ?_ (af3 hs hq);exact (zS s r).trans ((List.Perm.cons r p).trans (List.perm_append_singleton r out).symm)
theorem tJ{l:List ah}(hp:l.Pairwise (fun x y=>¬ (x.aI=y.aI∧x.no=y.no))):(cC l).Perm l∧(cC l).Pairwise (fun x y=>dY x y=true):=by
 have:=Jq l [] (by simpa using hp) [] (List.Perm.refl _) List.Pairwise.nil
 rwa [zy3] at this
theorem ahd{l s:List ah}(hp:l.Pairwise (fun x y=>¬ (x.aI=y.aI∧x.no=y.no)))(p:s.Perm l)(hs:s.Pairwise (fun x y=>dY x y=true)):s=cC l :=
 Jx hs (tJ hp).2 (p.trans (tJ hp).1.symm)
theorem jE{lo hi n:Int} : dm lo hi n=true↔lo≤n∧n≤hi:=by simp[dm]
theorem zA{x:Item} : j4 x=true↔(0≤x.aI∧x.aI≤5)∧0≤x.no∧x.no≤9999:=by simp[j4,jE]
theorem ny{r:ah}(h:bj r=true):ij r=true:=by
 simp only[bj,zz0] at h;exact h.1
theorem nw{r:ah}(h:ij r=true):(0≤r.aI∧r.aI≤5)∧(0≤r.no∧r.no≤9999)∧(0≤r.kind∧r.kind≤40)∧(0≤r.eP∧r.eP≤100000)∧(0≤r.known∧r.known≤100000)∧gT r.text=true:=by
 simp only[ij,zA,jE,zz0] at h;exact ⟨h.1.1,h.1.2,h.2.1,h.2.2.1,h.2.2.2.1,h.2.2.2.2⟩
theorem afp{r:ah}(h:bj r=true):(0≤r.gb∧r.gb≤5)∧(0≤r.gp∧r.gp≤9999):=by
 simp only[bj,zz0] at h;obtain ⟨_,h⟩:=h;split at h
 ·simp only[rf,zA,zz0] at h;exact h.2.2.1
 ·simp only[decide_eq_true_eq,ah.ic,Item.mk.injEq] at h;omega
theorem th{r:ah}(h:bj r=true):∀ n∈eK r,0≤n∧n<100000000:=by
 obtain ⟨a1,a2,a3,a4,a5,_⟩:=nw (ny h);obtain ⟨a6,a7⟩:=afp h;intro n hn;simp only[eK,zx7,List.not_mem_nil,or_false] at hn;rcases hn with rfl | rfl | rfl | rfl | rfl | rfl | rfl <;>omega
theorem afw{t:List UInt8}(h:gT t=true):t.length≤160:=by
 simp only[gT,zz0,decide_eq_true_eq] at h;exact h.1
theorem vZ{r:ah}(h:bj r=true):r.text.length≤160:=afw (nw (ny h)).2.2.2.2.2
theorem GC{t:List UInt8}{c:UInt8}(h:gT t=true)(hc:ig c=false):∀ b∈t,b≠c:=by
 simp only[gT,zz0,zx1] at h;intro b hb e;rw[e] at hb;rw[h.2 c hb] at hc;cases hc
theorem afv:kI bj:=⟨fun _ h=>th h,fun _ h=>GC (nw (ny h)).2.2.2.2.2 (by decide)⟩
theorem afq:∀ r,bj r=true→∀ b∈r.text,b≠63:=fun _ h=>GC (nw (ny h)).2.2.2.2.2 (by decide)
theorem ah1(r:ah):aP Tryz.prog 34 [enc r] (enc (sn r)):=by
 refine aP.bM Tryz.func34 M7 OJ Ql (t7 rfl) (fun hwf W0 bI E1 =>?_);simp only[CP,HZ,bC];clear hwf;have f1:=Bo r.bw;have f2:=oT r.kind 0 40;have f3:=oT r.eP 0 100000;have f4:=oT r.known 0 100000;have f5:=KI r.text;have f6:=Bo r.ic;have no:bj r=false→sn r=80:=fun h=>by simp[sn,h]
 have ye:bj r=true→sn r=0:=fun h=>by simp[sn,h]
 cases q1:j4 r.bw
 ·rw[q1] at f1;rw[no (by simp only[bj,ij,q1,Bool.false_and])];have R:=y6 @q1 (y6 @bA aw)
  repeat' ((first |(with_reducible refine .guard (fun hb =>?_) (fun hb =>?_) <;>try simp only[hb])|refine ab.aA (by decide +kernel) rfl fun K hK =>?_|refine .flat _ (f1) rfl ?_|refine .flat _ (f2) rfl ?_|refine .flat _ (f3) rfl ?_|refine .flat _ (f4) rfl ?_|refine .flat _ (f5) rfl ?_|(refine .av [0,1,2,30,33,65,69] hK ?_;clear hK K)|(with_reducible refine .done (hK _ ?_);clear hK K)|refine ab.of rfl ?_|(with_reducible refine ar.az (fun h =>?_) (fun h =>?_) <;>try simp only[h])) <;>try simp only[aB,R,simprocAttr])
  all_goals clear R
  all_goals rfl
 rw[q1] at f1;cases q2:dm 0 40 r.kind
 ·rw[q2] at f2;rw[no (by simp only[bj,ij,q1,q2,Bool.false_and,Bool.and_false])];have R:=y6 @bA aw
  repeat' ((first |(with_reducible refine .guard (fun hb =>?_) (fun hb =>?_) <;>try simp only[hb])|refine ab.aA (by decide +kernel) rfl fun K hK =>?_|refine .flat _ (f1) rfl ?_|refine .flat _ (f2) rfl ?_|refine .flat _ (f3) rfl ?_|refine .flat _ (f4) rfl ?_|refine .flat _ (f5) rfl ?_|(refine .av [0,1,2,30,33,65,69] hK ?_;clear hK K)|(with_reducible refine .done (hK _ ?_);clear hK K)|refine ab.of rfl ?_|(with_reducible refine ar.az (fun h =>?_) (fun h =>?_) <;>try simp only[h])) <;>try simp only[aB,R,simprocAttr])
  all_goals clear R
  all_goals rfl
 rw[q2] at f2;cases q3:dm 0 100000 r.eP
 ·rw[q3] at f3;rw[no (by simp only[bj,ij,q1,q2,q3,Bool.false_and,Bool.and_false])];have R:=y6 @bA aw
  repeat' ((first |(with_reducible refine .guard (fun hb =>?_) (fun hb =>?_) <;>try simp only[hb])|refine ab.aA (by decide +kernel) rfl fun K hK =>?_|refine .flat _ (f1) rfl ?_|refine .flat _ (f2) rfl ?_|refine .flat _ (f3) rfl ?_|refine .flat _ (f4) rfl ?_|refine .flat _ (f5) rfl ?_|(refine .av [0,1,2,30,33,65,69] hK ?_;clear hK K)|(with_reducible refine .done (hK _ ?_);clear hK K)|refine ab.of rfl ?_|(with_reducible refine ar.az (fun h =>?_) (fun h =>?_) <;>try simp only[h])) <;>try simp only[aB,R,simprocAttr])
  all_goals clear R
  all_goals rfl
 rw[q3] at f3;cases q4:dm 0 100000 r.known
 ·rw[q4] at f4;rw[no (by simp only[bj,ij,q1,q2,q3,q4,Bool.false_and,Bool.and_false])];have R:=y6 @bA aw
  repeat' ((first |(with_reducible refine .guard (fun hb =>?_) (fun hb =>?_) <;>try simp only[hb])|refine ab.aA (by decide +kernel) rfl fun K hK =>?_|refine .flat _ (f1) rfl ?_|refine .flat _ (f2) rfl ?_|refine .flat _ (f3) rfl ?_|refine .flat _ (f4) rfl ?_|refine .flat _ (f5) rfl ?_|(refine .av [0,1,2,30,33,65,69] hK ?_;clear hK K)|(with_reducible refine .done (hK _ ?_);clear hK K)|refine ab.of rfl ?_|(with_reducible refine ar.az (fun h =>?_) (fun h =>?_) <;>try simp only[h])) <;>try simp only[aB,R,simprocAttr])
  all_goals clear R
  all_goals rfl
 rw[q4] at f4;cases q5:gT r.text
 ·rw[q5] at f5;rw[no (by simp only[bj,ij,q1,q2,q3,q4,q5,Bool.false_and,Bool.and_false])];have R:=y6 @bA aw
  repeat' ((first |(with_reducible refine .guard (fun hb =>?_) (fun hb =>?_) <;>try simp only[hb])|refine ab.aA (by decide +kernel) rfl fun K hK =>?_|refine .flat _ (f1) rfl ?_|refine .flat _ (f2) rfl ?_|refine .flat _ (f3) rfl ?_|refine .flat _ (f4) rfl ?_|refine .flat _ (f5) rfl ?_|(refine .av [0,1,2,30,33,65,69] hK ?_;clear hK K)|(with_reducible refine .done (hK _ ?_);clear hK K)|refine ab.of rfl ?_|(with_reducible refine ar.az (fun h =>?_) (fun h =>?_) <;>try simp only[h])) <;>try simp only[aB,R,simprocAttr])
  all_goals clear R
  all_goals rfl
 rw[q5] at f5;have hH:ij r=true:=by simp only[ij,q1,q2,q3,q4,q5,Bool.and_self]
 cases k:(r.kind==0)
 ·cases z:decide (r.ic=⟨0,0⟩)
  ·rw[no (by simp only[bj,hH,zu6];rw[if_neg (by simpa using k)];exact z)];have R:=y6 @k (y6 @z (y6 @su (y6 @bA aw)))
   repeat' ((first |(with_reducible refine .guard (fun hb =>?_) (fun hb =>?_) <;>try simp only[hb])|refine ab.aA (by decide +kernel) rfl fun K hK =>?_|refine .flat _ (f1) rfl ?_|refine .flat _ (f2) rfl ?_|refine .flat _ (f3) rfl ?_|refine .flat _ (f4) rfl ?_|refine .flat _ (f5) rfl ?_|(refine .av [0,1,2,30,33,65,69] hK ?_;clear hK K)|(with_reducible refine .done (hK _ ?_);clear hK K)|refine ab.of rfl ?_|(with_reducible refine ar.az (fun h =>?_) (fun h =>?_) <;>try simp only[h])) <;>try simp only[aB,R,simprocAttr])
   all_goals clear R
   all_goals rfl
  ·rw[ye (by simp only[bj,hH,zu6];rw[if_neg (by simpa using k)];exact z)];have R:=y6 @k (y6 @z (y6 @su (y6 @bA aw)))
   repeat' ((first |(with_reducible refine .guard (fun hb =>?_) (fun hb =>?_) <;>try simp only[hb])|refine ab.aA (by decide +kernel) rfl fun K hK =>?_|refine .flat _ (f1) rfl ?_|refine .flat _ (f2) rfl ?_|refine .flat _ (f3) rfl ?_|refine .flat _ (f4) rfl ?_|refine .flat _ (f5) rfl ?_|(refine .av [0,1,2,30,33,65,69] hK ?_;clear hK K)|(with_reducible refine .done (hK _ ?_);clear hK K)|refine ab.of rfl ?_|(with_reducible refine ar.az (fun h =>?_) (fun h =>?_) <;>try simp only[h])) <;>try simp only[aB,R,simprocAttr])
   all_goals clear R
   all_goals rfl
 have hK:bj r=rf r:=by simp only[bj,hH,zu6];rw[if_pos (by simpa using k)]
 simp only[rf] at hK;cases w1:(r.eP==0)
 ·have w1':(r.eP != 0)=true:=by simp[bne,w1]
  rw[no (by rw[hK,w1];rfl)];have R:=y6 @k (y6 @w1' (y6 @jV (y6 @j8 (y6 @bA aw))))
  repeat' ((first |(with_reducible refine .guard (fun hb =>?_) (fun hb =>?_) <;>try simp only[hb])|refine ab.aA (by decide +kernel) rfl fun K hK =>?_|refine .flat _ (f1) rfl ?_|refine .flat _ (f2) rfl ?_|refine .flat _ (f3) rfl ?_|refine .flat _ (f4) rfl ?_|refine .flat _ (f5) rfl ?_|refine .flat _ (f6) rfl ?_|(refine .av [0,1,2,30,33,65,69] hK ?_;clear hK K)|(with_reducible refine .done (hK _ ?_);clear hK K)|refine ab.of rfl ?_|(with_reducible refine ar.az (fun h =>?_) (fun h =>?_) <;>try simp only[h])) <;>try simp only[aB,R,simprocAttr])
  all_goals clear R
  all_goals rfl
 have w1':(r.eP != 0)=false:=by simp[bne,w1]
 cases w2:decide (r.text=[])
 ·rw[no (by rw[hK,w1,w2];rfl)];have R:=y6 @k (y6 @w1' (y6 @w2 (y6 @jV (y6 @j8 (y6 @bA aw)))))
  repeat' ((first |(with_reducible refine .guard (fun hb =>?_) (fun hb =>?_) <;>try simp only[hb])|refine ab.aA (by decide +kernel) rfl fun K hK =>?_|refine .flat _ (f1) rfl ?_|refine .flat _ (f2) rfl ?_|refine .flat _ (f3) rfl ?_|refine .flat _ (f4) rfl ?_|refine .flat _ (f5) rfl ?_|refine .flat _ (f6) rfl ?_|(refine .av [0,1,2,30,33,65,69] hK ?_;clear hK K)|(with_reducible refine .done (hK _ ?_);clear hK K)|refine ab.of rfl ?_|(with_reducible refine ar.az (fun h =>?_) (fun h =>?_) <;>try simp only[h])) <;>try simp only[aB,R,simprocAttr])
  all_goals clear R
  all_goals rfl
 cases w3:j4 r.ic
 ·rw[w3] at f6;rw[no (by rw[hK,w1,w2,w3];rfl)];have R:=y6 @k (y6 @w1' (y6 @w2 (y6 @jV (y6 @j8 (y6 @bA aw)))))
  repeat' ((first |(with_reducible refine .guard (fun hb =>?_) (fun hb =>?_) <;>try simp only[hb])|refine ab.aA (by decide +kernel) rfl fun K hK =>?_|refine .flat _ (f1) rfl ?_|refine .flat _ (f2) rfl ?_|refine .flat _ (f3) rfl ?_|refine .flat _ (f4) rfl ?_|refine .flat _ (f5) rfl ?_|refine .flat _ (f6) rfl ?_|(refine .av [0,1,2,30,33,65,69] hK ?_;clear hK K)|(with_reducible refine .done (hK _ ?_);clear hK K)|refine ab.of rfl ?_|(with_reducible refine ar.az (fun h =>?_) (fun h =>?_) <;>try simp only[h])) <;>try simp only[aB,R,simprocAttr])
  all_goals clear R
  all_goals rfl
 rw[w3] at f6;cases w4:(r.gb==r.aI)
 ·have w4':(r.gb != r.aI)=true:=by simp[bne,w4]
  rw[no (by rw[hK,w1,w2,w3,w4];rfl)];have R:=y6 @k (y6 @w1' (y6 @w2 (y6 @w4' (y6 @jV (y6 @j8 (y6 @bA aw))))))
  repeat' ((first |(with_reducible refine .guard (fun hb =>?_) (fun hb =>?_) <;>try simp only[hb])|refine ab.aA (by decide +kernel) rfl fun K hK =>?_|refine .flat _ (f1) rfl ?_|refine .flat _ (f2) rfl ?_|refine .flat _ (f3) rfl ?_|refine .flat _ (f4) rfl ?_|refine .flat _ (f5) rfl ?_|refine .flat _ (f6) rfl ?_|(refine .av [0,1,2,30,33,65,69] hK ?_;clear hK K)|(with_reducible refine .done (hK _ ?_);clear hK K)|refine ab.of rfl ?_|(with_reducible refine ar.az (fun h =>?_) (fun h =>?_) <;>try simp only[h])) <;>try simp only[aB,R,simprocAttr])
  all_goals clear R
  all_goals rfl
 have w4':(r.gb != r.aI)=false:=by simp[bne,w4]
 cases w5:decide (r.gp<r.no)
 ·have w5':decide (r.gp≥r.no)=true:=by rw[decide_eq_false_iff_not] at w5;exact decide_eq_true (by omega)
  rw[no (by rw[hK,w1,w2,w3,w4,w5];rfl)];have R:=y6 @k (y6 @w1' (y6 @w2 (y6 @w4' (y6 @w5' (y6 @jV (y6 @j8 (y6 @bA aw)))))))
  repeat' ((first |(with_reducible refine .guard (fun hb =>?_) (fun hb =>?_) <;>try simp only[hb])|refine ab.aA (by decide +kernel) rfl fun K hK =>?_|refine .flat _ (f1) rfl ?_|refine .flat _ (f2) rfl ?_|refine .flat _ (f3) rfl ?_|refine .flat _ (f4) rfl ?_|refine .flat _ (f5) rfl ?_|refine .flat _ (f6) rfl ?_|(refine .av [0,1,2,30,33,65,69] hK ?_;clear hK K)|(with_reducible refine .done (hK _ ?_);clear hK K)|refine ab.of rfl ?_|(with_reducible refine ar.az (fun h =>?_) (fun h =>?_) <;>try simp only[h])) <;>try simp only[aB,R,simprocAttr])
  all_goals clear R
  all_goals rfl
 ·have w5':decide (r.gp≥r.no)=false:=by rw[decide_eq_true_eq] at w5;exact decide_eq_false (by omega)
  rw[ye (by rw[hK,w1,w2,w3,w4,w5];rfl)];have R:=y6 @k (y6 @w1' (y6 @w2 (y6 @w4' (y6 @w5' (y6 @jV (y6 @j8 (y6 @bA aw)))))))
  repeat' ((first |(with_reducible refine .guard (fun hb =>?_) (fun hb =>?_) <;>try simp only[hb])|refine ab.aA (by decide +kernel) rfl fun K hK =>?_|refine .flat _ (f1) rfl ?_|refine .flat _ (f2) rfl ?_|refine .flat _ (f3) rfl ?_|refine .flat _ (f4) rfl ?_|refine .flat _ (f5) rfl ?_|refine .flat _ (f6) rfl ?_|(refine .av [0,1,2,30,33,65,69] hK ?_;clear hK K)|(with_reducible refine .done (hK _ ?_);clear hK K)|refine ab.of rfl ?_|(with_reducible refine ar.az (fun h =>?_) (fun h =>?_) <;>try simp only[h])) <;>try simp only[aB,R,simprocAttr])
  all_goals clear R
  all_goals rfl
theorem ahC{n:Int}(h:0≤n∧n<256):IntKind.u8.wrap n=n:=by
 simp only[IntKind.wrap,IntKind.bits,IntKind.signed];simp;omega
theorem fK(a b:List UInt8)(h:a.length+b.length≤9223372036854775807):b8 .add (enc (aH.of a)) (enc (aH.of b))=some (enc (aH.of (a++b))):=by
 rw[agS _ _ (by rw[aH.eJ,aH.eJ];exact h)];rfl
def mj(m:Nat):UInt8:=UInt8.ofNat (48+m%10)
theorem adv{m:Nat}(h:10≤m):Lib.itoa (m:Int)=Lib.itoa ((m / 10:Nat):Int)++[mj m]:=by
 rw[Lib.itoa_nonneg,Lib.itoa_nonneg,uM (by omega)];rfl
theorem adw{m:Nat}(h:m<10):Lib.itoa (m:Int)=[mj m]:=by
 rw[Lib.itoa_nonneg,Lib.decDigits_one (by omega),mj,Nat.mod_eq_of_lt h]
def xj(t:Nat×List UInt8):af:=aC [(0,.int .i64 (t.1:Int)),(3,enc (aH.of (mj t.1::t.2)))] []
theorem A6(m:Nat)(hm:m≤9223372036854775807):aP Tryz.prog 134 [enc (m:Int)] (enc (aH.of (Lib.itoa (m:Int)))):=by
 refine aP.bM Tryz.func134 Mx Oa PQ (t7 rfl) (fun hwf W0 bI E1 =>?_);simp only[Cn,Ht,bC];clear hwf;have hd:∀ k:Nat,k≤9223372036854775807→IntKind.i64.wrap (48+(k:Int).tmod 10)=48+(k:Int).tmod 10∧IntKind.u8.wrap (48+(k:Int).tmod 10)=48+(k:Int).tmod 10∧aH.of [UInt8.ofNat (48+(k:Int).tmod 10).toNat]=aH.of [mj k]:=fun k hk=>by
  have e:((k:Int)).tmod 10=((k%10:Nat):Int):=rfl;rw[e];refine ⟨eX _ (by omega) (by omega),ahC (by omega),?_⟩;rw[mj,show ((48:Int)+((k%10:Nat):Int)).toNat=48+k%10 by omega]
 obtain ⟨h1,h2,h3⟩:=hd m hm;have R:=y6 @h1 (y6 @h2 (y6 @h3 (y6 @bA aw)))
 repeat' ((first |refine ab.aA (by decide +kernel) rfl fun K hK =>?_|(refine .av [0,2,3,11] hK ?_;clear hK K)|(with_reducible refine .done (hK _ ?_);clear hK K)|refine ab.of rfl ?_|(with_reducible refine ar.az (fun h =>?_) (fun h =>?_) <;>try simp only[h])) <;>try simp only[aB,R,simprocAttr])
 all_goals clear R
 refine ab.loop xj (fun t=>t.1≤9223372036854775807∧Lib.itoa (m:Int)=Lib.itoa (t.1:Int)++t.2) (fun t=>t.1) (m,[]) ⟨hm,by simp⟩ ?_ ?_
 ·simp only[xj];refine bt.cF ?_ ?_ ?_ ?_ <;>simp[bT,bZ,bU,bB,bJ,I.only,bg]
 rintro ⟨k,t⟩ ⟨hk,hin⟩;simp only at hk hin;simp only[xj];by_cases hlt:k<10
 ·have hlc:decide ((k:Int)≥10)=false:=decide_eq_false (by omega);rw[adw hlt] at hin;rw[hin];have R:=y6 @hlc (y6 @bA aw)
  repeat' ((first |refine ab.aA (by decide +kernel) rfl fun K hK =>?_|(refine .av [0,2,3,11] hK ?_;clear hK K)|(with_reducible refine .done (hK _ ?_);clear hK K)|refine ab.of rfl ?_|(with_reducible refine ar.az (fun h =>?_) (fun h =>?_) <;>try simp only[h])) <;>try simp only[aB,R,simprocAttr])
  all_goals clear R
  all_goals rfl
 ·have hlc:decide ((k:Int)≥10)=true:=decide_eq_true (by omega);have hq:IntKind.i64.wrap ((k:Int).tdiv 10)=((k / 10:Nat):Int):=by
   have e:((k:Int)).tdiv 10=((k / 10:Nat):Int):=rfl;rw[e];exact eX _ (by omega) (by omega)
  obtain ⟨g1,g2,g3⟩:=hd (k / 10) (by omega);rw[adv (m:=k) (by omega),zz7,List.singleton_append] at hin;have hlen:(mj k::t).length≤100:=by
   have h4:=congrArg List.length hin;rw[zz1] at h4;have h5:=Lib.itoa_length_le (m:Int) (by omega) (by omega);omega
  have hadd:=fK [mj (k / 10)] (mj k::t) (by simp only[List.length_singleton];omega);have R:=y6 @hlc (y6 @hq (y6 @g1 (y6 @g2 (y6 @g3 (y6 @hadd (y6 @bA aw))))))
  repeat' ((first |refine ab.aA (by decide +kernel) rfl fun K hK =>?_|(refine .av [0,2,3,11] hK ?_;clear hK K)|(with_reducible refine .done (hK _ ?_);clear hK K)|refine ab.of rfl ?_|(with_reducible refine ar.az (fun h =>?_) (fun h =>?_) <;>try simp only[h])) <;>try simp only[aB,R,simprocAttr])
  all_goals clear R
  refine ⟨(k / 10,mj k::t),⟨by simp only;omega,hin⟩,by simp only;omega,?_⟩;clear hin hd hadd hlen;refine bt.cF ?_ ?_ ?_ ?_ <;>simp[bT,bZ,bU,bB,bJ,I.only,bg]
theorem oR{n:Int}(h:0≤n∧n<100000000):aP Tryz.prog 134 [.int .i64 n] (enc (aH.of (Lib.itoa n)))∧(Lib.itoa n).length≤8:=by
 obtain ⟨m,rfl⟩:=zy2 h.1;exact ⟨A6 m (by omega),sQ (k:=7) (by omega)⟩
theorem Ke(r:ah)(hs:r.text.length≤1000000000000)(hn:∀ n∈eK r,0≤n∧n<100000000):aP Tryz.prog 133 [enc r] (enc (aH.of (da r))):=by
 obtain ⟨c1,l1⟩:=oR (hn r.aI (by simp[eK]));obtain ⟨c2,l2⟩:=oR (hn r.no (by simp[eK]));obtain ⟨c3,l3⟩:=oR (hn r.kind (by simp[eK]));obtain ⟨c4,l4⟩:=oR (hn r.eP (by simp[eK]));obtain ⟨c5,l5⟩:=oR (hn r.known (by simp[eK]));obtain ⟨L9,l6⟩:=oR (hn r.gb (by simp[eK]));obtain ⟨Ma,l7⟩:=oR (hn r.gp (by simp[eK]));have hb:da r=Lib.itoa r.aI++[32]++Lib.itoa r.no++[32]++Lib.itoa r.kind++[32]++Lib.itoa r.eP++[32]++Lib.itoa r.known++[32]++Lib.itoa r.gb++[32]++Lib.itoa r.gp++[32]++r.text:=by
  simp[da,dV,eK]
 rw[hb];generalize Lib.itoa r.aI=x1 at *;generalize Lib.itoa r.no=x2 at *;generalize Lib.itoa r.kind=x3 at *;generalize Lib.itoa r.eP=x4 at *;generalize Lib.itoa r.known=x5 at *;generalize Lib.itoa r.gb=x6 at *;generalize Lib.itoa r.gp=x7 at *;have ls:([32]:List UInt8).length=1:=rfl;have a1:=fK x1 [32] (by omega);have a2:=fK (x1++[32]) x2 (by simp only[zz1,ls];omega);have a3:=fK (x1++[32]++x2) [32] (by simp only[zz1,ls];omega);have a4:=fK (x1++[32]++x2++[32]) x3 (by simp only[zz1,ls];omega);have a5:=fK (x1++[32]++x2++[32]++x3) [32] (by simp only[zz1,ls];omega);have a6:=fK (x1++[32]++x2++[32]++x3++[32]) x4 (by simp only[zz1,ls];omega);have a7:=fK (x1++[32]++x2++[32]++x3++[32]++x4) [32] (by simp only[zz1,ls];omega);have a8:=fK (x1++[32]++x2++[32]++x3++[32]++x4++[32]) x5 (by simp only[zz1,ls];omega);have a9:=fK (x1++[32]++x2++[32]++x3++[32]++x4++[32]++x5) [32] (by simp only[zz1,ls];omega);have b1:=fK (x1++[32]++x2++[32]++x3++[32]++x4++[32]++x5++[32]) x6 (by simp only[zz1,ls];omega);have b2:=fK (x1++[32]++x2++[32]++x3++[32]++x4++[32]++x5++[32]++x6) [32] (by simp only[zz1,ls];omega);have b3:=fK (x1++[32]++x2++[32]++x3++[32]++x4++[32]++x5++[32]++x6++[32]) x7 (by simp only[zz1,ls];omega);have b4:=fK (x1++[32]++x2++[32]++x3++[32]++x4++[32]++x5++[32]++x6++[32]++x7) [32] (by simp only[zz1,ls];omega);have b5:=fK (x1++[32]++x2++[32]++x3++[32]++x4++[32]++x5++[32]++x6++[32]++x7++[32]) r.text (by simp only[zz1,ls];omega);refine aP.bM Tryz.func133 Mw N9 PO (t7 rfl) (fun hwf W0 bI E1 =>?_);simp only[Cm,Hs,bC];clear hwf hb hn;have R:=y6 @pg (y6 @a1 (y6 @a2 (y6 @a3 (y6 @a4 (y6 @a5 (y6 @a6 (y6 @a7 (y6 @a8 (y6 @a9 (y6 @b1 (y6 @b2 (y6 @b3 (y6 @b4 (y6 @b5 aw))))))))))))))
 repeat' ((first |refine ab.aA (by decide +kernel) rfl fun K hK =>?_|refine .flat _ (c1) rfl ?_|refine .flat _ (c2) rfl ?_|refine .flat _ (c3) rfl ?_|refine .flat _ (c4) rfl ?_|refine .flat _ (c5) rfl ?_|refine .flat _ (L9) rfl ?_|refine .flat _ (Ma) rfl ?_|(refine .av [0,1,2,3] hK ?_;clear hK K)|(with_reducible refine .done (hK _ ?_);clear hK K)|refine ab.of rfl ?_|(with_reducible refine ar.az (fun h =>?_) (fun h =>?_) <;>try simp only[h])) <;>try simp only[aB,R,simprocAttr])
 all_goals clear R
 all_goals rfl
theorem JD(s:Int)(l:List UInt8)(c:UInt8):dE s (l++[c])=(257*dE s l+c.toNat+1)%1000003:=by simp[dE]
theorem JA{s:Int}{c:UInt8}(h:0≤s∧s<1000003):IntKind.i64.wrap (257*s)=257*s∧IntKind.i64.wrap (c.toNat:Int)=c.toNat∧IntKind.i64.wrap (257*s+c.toNat)=257*s+c.toNat∧IntKind.i64.wrap (257*s+c.toNat+1)=257*s+c.toNat+1 ∧
  (257*s+(c.toNat:Int)+1).tmod 1000003=(257*s+c.toNat+1)%1000003:=by
 have hc:=c.toNat_lt;exact ⟨eX _ (by omega) (by omega),eX _ (by omega) (by omega),eX _ (by omega) (by omega),eX _ (by omega) (by omega),Int.tmod_eq_emod_of_nonneg (by omega)⟩
theorem xy{r:ah}{k:Nat}(ht:r.text.length≤k)(hn:∀ n∈eK r,0≤n∧n<100000000):(da r).length≤63+k:=by
 have h:∀ l:List Int,(∀ x∈l,0≤x∧x<100000000)→(dV l).length≤9*l.length:=by
  intro l
  induction l with
  |nil=>intro _;simp[dV]
  |cons x l ih =>
   intro h;have h1:=ih fun y hy=>h y (by simp[hy]);have h2:=sQ (k:=7) (n:=x) (by have:=h x (by simp);omega);simp only[dV] at h1;simp only[dV,List.flatMap_cons,zz1,zx5,zv1];omega
 have:=h _ hn;have h4:(eK r).length=7:=rfl;rw[da,zz1];omega
theorem rZ(s:Int)(hs:0≤s∧s<1000003)(r:ah)(hr:bj r=true):aP Tryz.prog 81 [enc s,enc r] (.tuple [enc (aH.of (db s r)),enc (dE s (da r))]):=by
 have ht:=vZ hr;have hn:=th hr;have hbl:=xy ht hn;have hF:=Kc r (by omega);have hsum:=fun l=>lW hs l;simp only[db];generalize hb:da r=b at *;have hsb:=Ak b;refine aP.bM Tryz.func81 Nu O1 QE (t7 rfl) (fun hwf W0 bI E1 =>?_);simp only[C5,Ik,bC,zz4];clear hwf;have R:=y6 @hsb (y6 @bA (y6 @fM aw))
 repeat' ((first |refine aY.fC rfl fun m =>?_|refine ab.aA (by decide +kernel) rfl fun K hK =>?_|refine .flat _ (hF) rfl ?_|(refine .av [0,1,3,4,5,6,8,12,13,14,15] hK ?_;clear hK K)|(with_reducible refine .done (hK _ ?_);clear hK K)|refine ab.of rfl ?_|(with_reducible refine ar.az (fun h =>?_) (fun h =>?_) <;>try simp only[h])) <;>try simp only[aB,R,simprocAttr])
 all_goals clear R
 refine ab.loop (fun i:Nat=>aC [(0,.int .i64 (dE s (b.take i))),(3,.ptr 3 []),(6,enc (aH.of b)),(12,enc b),(13,.int .i64 b.length),(14,.int .i64 i)] [(3,.box (enc r))]) (fun i=>i≤b.length) (fun i=>b.length-i) 0 (zv6 _) ?_ ?_
 ·refine bt.mr [12] 12 (x:=.view 12 [] 1 0 b.length) (y:=enc b) rfl (Ek rfl) ?_ ?_ ?_ ?_ ?_ <;>simp[dN,bB,bT,bZ,bU,ay,hU,bJ,aq,al.only,I.only,bg]
  all_goals rfl
 intro i hi;have hst:=hsum (b.take i);by_cases hlt:i<b.length
 ·have hlc:=ga hlt;have he:=fun A=>gB (A:=A) 1 hlt rfl;have hw:=eO (i:=i) (by omega);have hsn:=JD s (b.take i) b[i];rw[←zu0 hlt] at hsn;generalize b[i]=c at *;generalize dE s (b.take i)=z at *;obtain ⟨g1,g2,g3,g4,g5⟩:=JA (c:=c) hst;have R:=y6 @hlc (y6 @he (y6 @hw (y6 @g1 (y6 @g2 (y6 @g3 (y6 @g4 (y6 @g5 (y6 @tG (y6 @bA aw)))))))))
  repeat' ((first |refine ab.aA (by decide +kernel) rfl fun K hK =>?_|(refine .av [0,1,3,4,5,6,8,12,13,14,15] hK ?_;clear hK K)|(with_reducible refine .done (hK _ ?_);clear hK K)|refine ab.of rfl ?_|(with_reducible refine ar.az (fun h =>?_) (fun h =>?_) <;>try simp only[h])) <;>try simp only[aB,R,simprocAttr])
  all_goals clear R
  refine ⟨i+1,by omega,by omega,?_⟩;rw[hsn];refine bt.cF ?_ ?_ ?_ ?_ <;>simp[bT,bZ,bU,bB,ay,bJ,dz,I.only,al.only,bg]
  all_goals rfl
 ·have hlc:=gM hlt;have hge:i=b.length:=by omega
  subst hge;rw[zv5] at hst ⊢;generalize dE s b=z at *;obtain ⟨q,rfl⟩:=zy2 hst.1;have hz:=Kd (q:Int);have hzl:=sQ (k:=7) (n:=(q:Int)) (by omega);rw[yY] at hz;have a1:=fK (Lib.itoa (q:Int)) [32] (by simp;omega);have a2:=fK (Lib.itoa (q:Int)++[32]) b (by simp;omega);have a3:=fK (Lib.itoa (q:Int)++[32]++b) [10] (by simp;omega);have e:dV [(q:Int)]=Lib.itoa (q:Int)++[32]:=by simp[dV]
  rw[e];have R:=y6 @hlc (y6 @pg (y6 @sv (y6 @a1 (y6 @a2 (y6 @a3 aw)))))
  repeat' ((first |refine ab.aA (by decide +kernel) rfl fun K hK =>?_|refine .flat _ (hz) rfl ?_|(refine .av [0,1,3,4,5,6,8,12,13,14,15] hK ?_;clear hK K)|(with_reducible refine .done (hK _ ?_);clear hK K)|refine ab.of rfl ?_|(with_reducible refine ar.az (fun h =>?_) (fun h =>?_) <;>try simp only[h])) <;>try simp only[aB,R,simprocAttr])
  all_goals clear R
  all_goals rfl
theorem KH(s:Int)(hs:0≤s∧s<1000003)(r:ah)(hr:bj r=true):aP Tryz.prog 83 [enc s,enc r] (.tuple [enc (aH.of (db s r)),enc (dE s (da r))]):=by
 have ht:=vZ hr;have hn:=th hr;have hbl:=xy ht hn;have hF:=Ke r (by omega) hn;have hsum:=fun l=>lW hs l;simp only[db];generalize hb:da r=b at *;have hl:=rF b;refine aP.bM Tryz.func83 Nw O3 QG (t7 rfl) (fun hwf W0 bI E1 =>?_);simp only[C7,Im,bC,zz4];clear hwf;have R:=y6 @bA aw
 repeat' ((first |refine ab.aA (by decide +kernel) rfl fun K hK =>?_|refine .flat _ (hF) rfl ?_|(refine .av [0,1,3,4,5,6,7,13] hK ?_;clear hK K)|(with_reducible refine .done (hK _ ?_);clear hK K)|refine ab.of rfl ?_|(with_reducible refine ar.az (fun h =>?_) (fun h =>?_) <;>try simp only[h])) <;>try simp only[aB,R,simprocAttr])
 all_goals clear R
 refine ab.loop (fun i:Nat=>aC [(0,.int .i64 (dE s (b.take i))),(3,.ptr 3 []),(6,enc (aH.of b)),(7,.int .i64 i)] [(3,.box (enc r))]) (fun i=>i≤b.length) (fun i=>b.length-i) 0 (zv6 _) ?_ ?_
 ·refine bt.cF ?_ ?_ ?_ ?_ <;>simp[bT,bZ,bU,bB,ay,bJ,dz,I.only,al.only,bg]
  all_goals rfl
 intro i hi;have hst:=hsum (b.take i);by_cases hlt:i<b.length
 ·have hlc:=ga hlt;have he:=Je b hlt;have hw:=eO (i:=i) (by omega);have hsn:=JD s (b.take i) b[i];rw[←zu0 hlt] at hsn;generalize b[i]=c at *;generalize dE s (b.take i)=z at *;obtain ⟨g1,g2,g3,g4,g5⟩:=JA (c:=c) hst;have R:=y6 @hl (y6 @hlc (y6 @he (y6 @hw (y6 @g1 (y6 @g2 (y6 @g3 (y6 @g4 (y6 @g5 (y6 @bA aw)))))))))
  repeat' ((first |refine ab.aA (by decide +kernel) rfl fun K hK =>?_|(refine .av [0,1,3,4,5,6,7,13] hK ?_;clear hK K)|(with_reducible refine .done (hK _ ?_);clear hK K)|refine ab.of rfl ?_|(with_reducible refine ar.az (fun h =>?_) (fun h =>?_) <;>try simp only[h])) <;>try simp only[aB,R,simprocAttr])
  all_goals clear R
  refine ⟨i+1,by omega,by omega,?_⟩;rw[hsn];refine bt.cF ?_ ?_ ?_ ?_ <;>simp[bT,bZ,bU,bB,ay,bJ,dz,I.only,al.only,bg]
  all_goals rfl
 ·have hlc:=gM hlt;have hge:i=b.length:=by omega
  subst hge;rw[zv5] at hst ⊢;generalize dE s b=z at *;obtain ⟨q,rfl⟩:=zy2 hst.1;have hz:=A6 q (by omega);have hzl:=sQ (k:=7) (n:=(q:Int)) (by omega);have a1:=fK (Lib.itoa (q:Int)) [32] (by simp;omega);have a2:=fK (Lib.itoa (q:Int)++[32]) b (by simp;omega);have a3:=fK (Lib.itoa (q:Int)++[32]++b) [10] (by simp;omega);have e:dV [(q:Int)]=Lib.itoa (q:Int)++[32]:=by simp[dV]
  rw[e];have R:=y6 @hl (y6 @hlc (y6 @pg (y6 @sv (y6 @a1 (y6 @a2 (y6 @a3 aw))))))
  repeat' ((first |refine ab.aA (by decide +kernel) rfl fun K hK =>?_|refine .flat _ (hz) rfl ?_|(refine .av [0,1,3,4,5,6,7,13] hK ?_;clear hK K)|(with_reducible refine .done (hK _ ?_);clear hK K)|refine ab.of rfl ?_|(with_reducible refine ar.az (fun h =>?_) (fun h =>?_) <;>try simp only[h])) <;>try simp only[aB,R,simprocAttr])
  all_goals clear R
  all_goals rfl
def my(s:Int)(r:ah):List UInt8×Int×Int:=if dm 0 1000002 s=false then ([],0,1) else if bj r=false then ([],0,80) else (db s r,dE s (da r),0)
theorem ad9{s:Int}{r:ah}(h:dm 0 1000002 s=false):my s r=([],0,1):=by rw[my,if_pos h]
theorem FY{s:Int}{r:ah}(h:dm 0 1000002 s=true)(h2:bj r=false):my s r=([],0,80):=by rw[my,h,if_neg (by decide),if_pos h2]
theorem FZ{s:Int}{r:ah}(h:dm 0 1000002 s=true)(h2:bj r=true):my s r=(db s r,dE s (da r),0):=by rw[my,h,h2,if_neg (by decide),if_neg (by decide)]
theorem Bg(s:Int)(r:ah):aP Tryz.prog 29 [enc s,enc r] (.tuple [enc (aH.of (my s r).1),enc (my s r).2.1,enc (my s r).2.2]):=by
 refine aP.bM Tryz.func29 M5 OH Qj (t7 rfl) (fun hwf W0 bI E1 =>?_);simp only[CN,HX,bC,zz4];clear hwf;have f1:=Bn s;have f2:=qe r;cases q1:dm 0 1000002 s
 ·rw[q1] at f1;rw[ad9 q1];have R:=aw
  repeat' ((first |refine ab.aA (by decide +kernel) rfl fun K hK =>?_|refine .flat _ (f1) rfl ?_|(refine .av [0,1,3,4,5,6,7,8,9,13] hK ?_;clear hK K)|(with_reducible refine .done (hK _ ?_);clear hK K)|refine ab.of rfl ?_|(with_reducible refine ar.az (fun h =>?_) (fun h =>?_) <;>try simp only[h])) <;>try simp only[aB,R,simprocAttr])
  all_goals clear R
  all_goals rfl
 cases q2:bj r
 ·rw[q1] at f1;rw[q2] at f2;rw[FY q1 q2];have R:=aw
  repeat' ((first |refine ab.aA (by decide +kernel) rfl fun K hK =>?_|refine .flat _ (f1) rfl ?_|refine .flat _ (f2) rfl ?_|(refine .av [0,1,3,4,5,6,7,8,9,13] hK ?_;clear hK K)|(with_reducible refine .done (hK _ ?_);clear hK K)|refine ab.of rfl ?_|(with_reducible refine ar.az (fun h =>?_) (fun h =>?_) <;>try simp only[h])) <;>try simp only[aB,R,simprocAttr])
  all_goals clear R
  all_goals rfl
 have f3:=rZ s (by have:=jE.1 q1;omega) r q2;rw[q1] at f1;rw[q2] at f2;rw[FZ q1 q2];have R:=aw
 repeat' ((first |refine ab.aA (by decide +kernel) rfl fun K hK =>?_|refine .flat _ (f1) rfl ?_|refine .flat _ (f2) rfl ?_|refine .lead _ (f3) ?_|(refine .av [0,1,3,4,5,6,7,8,9,13] hK ?_;clear hK K)|(with_reducible refine .done (hK _ ?_);clear hK K)|refine ab.of rfl ?_|(with_reducible refine ar.az (fun h =>?_) (fun h =>?_) <;>try simp only[h])) <;>try simp only[aB,R,simprocAttr])
 all_goals clear R
 all_goals rfl
end Go.Proofs.YtoffnnjbplgnaaaGreatDoor
