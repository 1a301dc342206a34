/-
  A part of the proof that the law MarchLooks returns true for every input; three tables of Go's library start as the text lays them (the card ties them); conditions: none beyond the statement's own. (part 5 of 7)
-/
import Derived.Shelf.Sort.Plain
import Derived.Shelf.Slices.In.SortNone
import Derived.Shelf.Strconv.Itoa3
import Derived.Lib.ItoaLen
import Derived.Test.YthbdbocionnfgaaGreatDoorNdd
set_option linter.unusedSimpArgs false
set_option linter.unusedVariables false
set_option maxHeartbeats 16000000
set_option maxRecDepth 100000
namespace Go.Proofs.YthbdbocionnfgaaGreatDoor
open Go Go.Abs
open Go.Abs.Enc (enc)
theorem FY{ts:List (Nat×I)}{os0:List (Nat×aq)}{s:aG}(hno:∀ m,2000≤m→aj os0 m=none):au ts (dq s++os0)=au ts (os0++dq s):=by
 simp only[au,ai.mk.injEq,true_and]
 funext n
 rw[fE,fE];cases J:aj (dq s) n with
 |none=>simp only;cases aj os0 n <;>rfl
 |some y=>rw[hno n (xW (s:=s) (by simp[aw,J])).1]
theorem aQ.YV{K:ai→Prop}{p:bA}{avs:List I}{a1 a2:Option (List I)}{dst:Option Nat}{rest:List aI}{ts:List (Nat×I)}{os0:List (Nat×aq)}(ho:c7 p=none)(hav:avs=[enc p])
  (h:aQ Tryz.prog dv false K (aB rest ((au ts os0).aS dst (.tuple [.nilp,.int .i64 91])))):aQ Tryz.prog dv false K (.call 69 avs a1 a2 dst rest (au ts os0)):=by
 subst hav;refine .bP false [] [] [enc p] _ rfl (ym p) ⟨fun m x hx=>by simp[aj] at hx,fun m m' hm=>by simp[aw,aj] at hm⟩ ⟨.inl ⟨(kS _ _).symm,cA _ _,eg _⟩,trivial⟩ ?_ ?_
 ·intro r os' hp;unfold mT at hp;rw[ho] at hp;obtain ⟨rfl,rfl⟩:=hp;exact ⟨fun m y hy=>by simp[aj] at hy,fun m m' hm=>by simp[aw,aj] at hm,fun m hm=>hm,fun m hm=>by simp[aw,aj] at hm,rfl,fun h=>by cases h⟩
 ·intro r os' hp;unfold mT at hp;rw[ho] at hp;obtain ⟨rfl,rfl⟩:=hp;exact h
theorem aQ.tB{K:ai→Prop}{p:bA}{s:aG}{avs:List I}{a1 a2:Option (List I)}{dst:Option Nat}{rest:List aI}{ts:List (Nat×I)}{os0:List (Nat×aq)}(ho:c7 p=some s)(hav:avs=[enc p])(hno:∀ m,2000≤m→aj os0 m=none)
  (h:aQ Tryz.prog dv false K (aB rest ((au ts (os0++dq s)).aS dst (.tuple [.ptr 2000 [],.int .i64 0])))):aQ Tryz.prog dv false K (.call 69 avs a1 a2 dst rest (au ts os0)):=by
 subst hav;obtain ⟨hk,_,ah,ar,_⟩:=iN ho;refine .bP false [] [] [enc p] _ rfl (ym p) ⟨fun m x hx=>by simp[aj] at hx,fun m m' hm=>by simp[aw,aj] at hm⟩ ⟨.inl ⟨(kS _ _).symm,cA _ _,eg _⟩,trivial⟩ ?_ ?_
 ·intro r os' hp;unfold mT at hp;rw[ho] at hp;obtain ⟨rfl,rfl⟩:=hp;refine ⟨fun m y hy=>⟨(lA hk hy).1,(lA hk hy).2,fun h=>by cases h⟩,fun m m' _ _ h=>h,fun m hm=>by simp[aw,aj] at hm,fun m hm _ =>?_,?_,fun h=>by cases h⟩
  ·have:=xW hm;exact ⟨hno m this.1,by simp only[bH];omega⟩
  ·have:=(dL (iE s.all.length) (n:=2000)).2 (.inl (by omega));simp[I.only,I.cv,this]
 ·intro r os' hp;unfold mT at hp;rw[ho] at hp;obtain ⟨rfl,rfl⟩:=hp;rw[ma,FY hno];exact h
theorem aQ.FZ{K:ai→Prop}{s s2:aG}{b:Bool}{x:aU}{avs:List I}{a1 a2:Option (List I)}{dst:Option Nat}{rest:List aI}{ts:List (Nat×I)}{ow:List (Nat×aq)}(hk:cD s)(hlen:s.all.length≤300)(hav:avs=[.ptr 2000 [],enc x])(how:∀ m,2000≤m→aj ow m=none)(hst:ee s x=(s2,b))
  (h:aQ Tryz.prog dv false K (aB rest ((au ts (ow++dq s2)).aS dst (.bool b)))):aQ Tryz.prog dv false K (.call 81 avs a1 a2 dst rest (au ts (ow++dq s))):=by
 refine aQ.rW hk hlen hav how hst ?_;have hso:=rS hk x;rw[hst] at hso;obtain ⟨k1,k2,k3,k4⟩:=hso;have e:au ts (dq s2++(ow++dq s))=au ts (ow++dq s2):=by
  rw[←FY how];simp only[au,ai.mk.injEq,true_and]
  funext n
  rw[fE (dq s2) (ow++dq s),fE (dq s2) ow,fE ow (dq s)];cases J:aj (dq s2) n with
  |some y=>rfl
  |none =>
   simp only;have:aj (dq s) n=none:=by
    cases U:aj (dq s) n with
    |none=>rfl
    |some y =>
     exfalso
     have hin:aw (dq s) n=true:=by simp[aw,U]
     have:aw (dq s2) n=true:=by
      rcases (dL (iE _)).1 hin with h5 | ⟨i,hi,rfl⟩
      ·exact (dL (iE _)).2 (.inl h5)
      ·exact (dL (iE _)).2 (.inr ⟨i,Nat.lt_of_lt_of_le hi k3,rfl⟩)
     simp[aw,J] at this
   rw[this];cases aj ow n <;>rfl
 rw[e];exact h
theorem yf(p:bA)(r:ea):aZ Tryz.prog 35 [enc p,enc r] (.tuple [enc (qD p r).1,enc (qD p r).2]):=by
 refine aZ.b5 Tryz.func35 IW J0 Ll (u8 rfl) (fun hwf W0 bG E1 =>?_);simp only[zq,Ei,bI,zz1];clear hwf;simp only[qD];have how:∀ (a b c:aq) m,2000≤m→aj [(4,a),(3,b),(2,c)] m=none:=fun a b c m hm=>by simp only[aj];rw[if_neg (by omega),if_neg (by omega),if_neg (by omega)]
 have how2:∀ (a b c d e:aq) m,2000≤m→aj [(8,a),(8,b),(4,c),(3,d),(2,e)] m=none:=fun a b c d e m hm=>by simp only[aj];rw[if_neg (by omega),if_neg (by omega),if_neg (by omega),if_neg (by omega),if_neg (by omega)]
 cases ho:c7 p with
 |none =>
  have R:=y6 @cg (y6 @bm (y6 @bU (y6 @bz (y6 @bu aC))))
  repeat' ((first |(with_reducible refine .guard (fun hb =>?_) (fun hb =>?_) <;>try simp only[hb])|refine ae.aE (by decide +kernel) rfl fun K hK =>?_|refine aQ.YV ho rfl ?_|(refine .av [0,1,2,3,4,5,6,7,8,14,19,44] hK ?_;clear hK K)|(with_reducible refine .done (hK _ ?_);clear hK K)|refine ae.of rfl ?_|(with_reducible refine ay.aD (fun h =>?_) (fun h =>?_) <;>try simp only[h])) <;>try simp only[aF,R,simprocAttr])
  all_goals clear R
  rfl
 |some s =>
  obtain ⟨hk,hme,ah,hjl,_⟩:=iN ho
  dsimp only
  have hR:=GS r;have n8:aj (dq s) 8=none:=eF (.inl (by omega)) fun i _=>by simp only[bF];omega
  rcases q1:tz r
  ·rw[q1] at hR;simp only[true_or,if_true];have R:=y6 @n8 (y6 @cg (y6 @bm (y6 @bU (y6 @bz (y6 @bu aC)))))
   repeat' ((first |(with_reducible refine .guard (fun hb =>?_) (fun hb =>?_) <;>try simp only[hb])|refine ae.aE (by decide +kernel) rfl fun K hK =>?_|refine aQ.tB ho rfl (how _ _ _) ?_|refine .flat _ (hR) rfl ?_|(refine .av [0,1,2,3,4,5,6,7,8,14,19,44] hK ?_;clear hK K)|(with_reducible refine .done (hK _ ?_);clear hK K)|refine ae.of rfl ?_|(with_reducible refine ay.aD (fun h =>?_) (fun h =>?_) <;>try simp only[h])) <;>try simp only[aF,R,zz5,simprocAttr])
   all_goals clear R
   rfl
  rw[q1] at hR;rcases q2:(r.to != p.az)
  case true =>
   have e:r.to≠p.az:=by simpa using q2
   simp only[Bool.true_eq_false,false_or,if_pos e];have R:=y6 @n8 (y6 @q2 (y6 @cg (y6 @bm (y6 @bU (y6 @bz (y6 @bu aC))))))
   repeat' ((first |(with_reducible refine .guard (fun hb =>?_) (fun hb =>?_) <;>try simp only[hb])|refine ae.aE (by decide +kernel) rfl fun K hK =>?_|refine aQ.tB ho rfl (how _ _ _) ?_|refine .flat _ (hR) rfl ?_|(refine .av [0,1,2,3,4,5,6,7,8,14,19,44] hK ?_;clear hK K)|(with_reducible refine .done (hK _ ?_);clear hK K)|refine ae.of rfl ?_|(with_reducible refine ay.aD (fun h =>?_) (fun h =>?_) <;>try simp only[h])) <;>try simp only[aF,R,zz5,simprocAttr])
   all_goals clear R
   rfl
  have e:¬ r.to≠p.az:=by simpa using q2
  simp only[Bool.true_eq_false,false_or,if_neg e];have hKd:=G7 r.kind;have hst:∀ A rest b,dk A (some 4) 8 [] b (enc (lV r)) rest (some (.agg [.int .i64 0,.int .i64 0,.int .i64 0,.int .i64 0]))=aB rest (A.aT 8 (.box (enc (lV r)))):=fun A rest b=>dK (eg _) (by rw[e7];rfl) (eC _);have hbl:(dO [.int .i64 0,.int .i64 0,.int .i64 0,.int .i64 0] [(0,.int .i64 (qN r.kind)),(1,.int .i64 r.aH),(2,.int .i64 r.bR),(3,.int .i64 r.no)]).map I.agg=some (enc (lV r)):=uT _ _ _ _;cases ht:gj s (lV r) with
  |none =>
   have ab:ee s (lV r)=(s,false):=by simp[ee,ht]
   have R:=y6 @n8 (y6 @q2 (y6 @hst (y6 @hbl (y6 @cg (y6 @bm (y6 @bU (y6 @bz (y6 @bu aC))))))))
   repeat' ((first |(with_reducible refine .guard (fun hb =>?_) (fun hb =>?_) <;>try simp only[hb])|refine ae.aE (by decide +kernel) rfl fun K hK =>?_|refine aQ.tB ho rfl (how _ _ _) ?_|refine .flat _ (hR) rfl ?_|refine .flat _ (hKd) rfl ?_|refine aQ.FZ (ow:=[(8,_),(8,_),(4,_),(3,_),(2,_)]) hk (by omega) rfl (how2 _ _ _ _ _) ab ?_|refine .lead _ (yj p (by omega)) ?_|(refine .av [0,1,2,3,4,5,6,7,8,14,19,44] hK ?_;clear hK K)|(with_reducible refine .done (hK _ ?_);clear hK K)|refine ae.of rfl ?_|(with_reducible refine ay.aD (fun h =>?_) (fun h =>?_) <;>try simp only[h])) <;>try simp only[aF,R,zz5,simprocAttr])
   all_goals clear R
  |some s2 =>
   have ab:ee s (lV r)=(s2,true):=by simp[ee,ht]
   have hW:=uz p (lV r) hjl;have R:=y6 @n8 (y6 @q2 (y6 @hst (y6 @hbl (y6 @cg (y6 @bm (y6 @bU (y6 @bz (y6 @bu aC))))))))
   repeat' ((first |(with_reducible refine .guard (fun hb =>?_) (fun hb =>?_) <;>try simp only[hb])|refine ae.aE (by decide +kernel) rfl fun K hK =>?_|refine aQ.tB ho rfl (how _ _ _) ?_|refine .flat _ (hR) rfl ?_|refine .flat _ (hKd) rfl ?_|refine aQ.FZ (ow:=[(8,_),(8,_),(4,_),(3,_),(2,_)]) hk (by omega) rfl (how2 _ _ _ _ _) ab ?_|refine .lead _ (hW) ?_|(refine .av [0,1,2,3,4,5,6,7,8,14,19,44] hK ?_;clear hK K)|(with_reducible refine .done (hK _ ?_);clear hK K)|refine ae.of rfl ?_|(with_reducible refine ay.aD (fun h =>?_) (fun h =>?_) <;>try simp only[h])) <;>try simp only[aF,R,zz5,simprocAttr])
   all_goals clear R
end Go.Proofs.YthbdbocionnfgaaGreatDoor
namespace Go.Proofs.YthbdbocionnfgaaGreatDoor
open Go Go.Abs Go.Shelf
open Go.Abs.Enc (enc)
def Xx:Go.Shelf.Ren:=⟨fun | 189=>89 | 125=>117 | 257=>116 | 128=>142 | 129=>143 | 294=>133 | 295=>134 | 296=>135 | 297=>136 | 298=>137 | 299=>138 | 216=>139 | 300=>140 | 301=>141 | 328=>153 | 329=>154 | 330=>155 | 331=>156 | 332=>157 | 215=>158 | 343=>169 | n=>n,fun | 28=>54 | 3=>3 | 46=>151 | 0=>0 | 51=>169 | 53=>171 | 4=>4 | 183=>161 | 182=>160 | 131=>166 | 5=>5 | 9=>9 | 218=>178 | 222=>182 | 228=>195 | 229=>196 | n=>n,fun | n=>n⟩
theorem Cv:Go.Proofs.Lays.n189 Tryz.prog Xx := {
 mixed:=by kernel_rfl
 f125:=Tryz.func117.trans (congrArg some (by kernel_rfl))
 f128:=Tryz.func142.trans (congrArg some (by kernel_rfl))
 f129:=Tryz.func143.trans (congrArg some (by kernel_rfl))
 f189:=Tryz.func89.trans (congrArg some (by kernel_rfl))
 f215:=Tryz.func158.trans (congrArg some (by kernel_rfl))
 f216:=Tryz.func139.trans (congrArg some (by kernel_rfl))
 f257:=Tryz.func116.trans (congrArg some (by kernel_rfl))
 f294:=Tryz.func133.trans (congrArg some (by kernel_rfl))
 f295:=Tryz.func134.trans (congrArg some (by kernel_rfl))
 f296:=Tryz.func135.trans (congrArg some (by kernel_rfl))
 f297:=Tryz.func136.trans (congrArg some (by kernel_rfl))
 f298:=Tryz.func137.trans (congrArg some (by kernel_rfl))
 f299:=Tryz.func138.trans (congrArg some (by kernel_rfl))
 f300:=Tryz.func140.trans (congrArg some (by kernel_rfl))
 f301:=Tryz.func141.trans (congrArg some (by kernel_rfl))
 f328:=Tryz.func153.trans (congrArg some (by kernel_rfl))
 f329:=Tryz.func154.trans (congrArg some (by kernel_rfl))
 f330:=Tryz.func155.trans (congrArg some (by kernel_rfl))
 f331:=Tryz.func156.trans (congrArg some (by kernel_rfl))
 f332:=Tryz.func157.trans (congrArg some (by kernel_rfl))
 f343:=Tryz.func169.trans (congrArg some (by kernel_rfl))
 t0:=Tryz.underlying0
 a0:=Tryz.isAgg0
 z0:=Tryz.sizeOf0
 v0:=Tryz.zeroValue0
 t3:=Tryz.underlying3
 a3:=Tryz.isAgg3
 z3:=Tryz.sizeOf3
 v3:=Tryz.zeroValue3
 t4:=Tryz.underlying4
 a4:=Tryz.isAgg4
 z4:=Tryz.sizeOf4
 v4:=Tryz.zeroValue4
 t5:=Tryz.underlying5
 a5:=Tryz.isAgg5
 z5:=Tryz.sizeOf5
 v5:=Tryz.zeroValue5
 t9:=Tryz.underlying9
 a9:=Tryz.isAgg9
 z9:=Tryz.sizeOf9
 v9:=Tryz.zeroValue9
 t28:=Tryz.underlying54
 a28:=Tryz.isAgg54
 z28:=Tryz.sizeOf54
 v28:=Tryz.zeroValue54
 t46:=Tryz.underlying151
 a46:=Tryz.isAgg151
 z46:=Tryz.sizeOf151
 v46:=Tryz.zeroValue151
 t51:=Tryz.underlying169
 a51:=Tryz.isAgg169
 z51:=Tryz.sizeOf169
 v51:=Tryz.zeroValue169
 t53:=Tryz.underlying171
 a53:=Tryz.isAgg171
 z53:=Tryz.sizeOf171
 v53:=Tryz.zeroValue171
 t131:=Tryz.underlying166
 a131:=Tryz.isAgg166
 z131:=Tryz.sizeOf166
 v131:=Tryz.zeroValue166
 t182:=Tryz.underlying160
 a182:=Tryz.isAgg160
 z182:=Tryz.sizeOf160
 v182:=Tryz.zeroValue160
 t183:=Tryz.underlying161
 a183:=Tryz.isAgg161
 z183:=Tryz.sizeOf161
 v183:=Tryz.zeroValue161
 t218:=Tryz.underlying178
 a218:=Tryz.isAgg178
 z218:=Tryz.sizeOf178
 v218:=Tryz.zeroValue178
 t222:=Tryz.underlying182
 a222:=Tryz.isAgg182
 z222:=Tryz.sizeOf182
 v222:=Tryz.zeroValue182
 t228:=Tryz.underlying195
 a228:=Tryz.isAgg195
 z228:=Tryz.sizeOf195
 v228:=Tryz.zeroValue195
 t229:=Tryz.underlying196
 a229:=Tryz.isAgg196
 z229:=Tryz.sizeOf196
 v229:=Tryz.zeroValue196 }
def j4(k:Nat)(ws:List Int):List (Nat×aq):=[(k,.box (.agg (ws.map enc)))]
theorem CM(p:Nat→Bool)(l:List Int):(I.agg (l.map enc)).only p=true:=by simp only[I.only];exact fR p l
def ZT(ws:List Int):cC:=fun r os'=>r=.tuple []∧os'=j4 1000000 ws
def cj(xs:List Int):List Int:=xs.mergeSort fun x y=>decide (x≤y)
theorem EZ{w:World}{D:aP}{E:a8} : ∀ {xs:List Int} {cs:List Value},aN w D E (xs.map enc) cs→cs=xs.map (Value.int .i64)∧∀ x∈xs,IntKind.i64.min≤x∧x≤IntKind.i64.max
 | [],cs,h=>by
  simp only[zx4,aN] at h;subst h;exact ⟨rfl,by simp⟩
 |x::xs,cs,h=>by
  simp only[zz3,aN] at h;obtain ⟨c1,c2,rfl,J,U⟩:=h;obtain ⟨rfl,ah⟩:=EZ U;have h1':c1=[.int .i64 x]∧IntKind.i64.min≤x∧x≤IntKind.i64.max:=J;obtain ⟨rfl,ar⟩:=h1';refine ⟨rfl,fun y hy =>?_⟩;rcases zv1.1 hy with rfl | hy
  ·exact ar
  ·exact ah y hy
theorem rz{w:World}{D:aP}{E:a8} : ∀ {xs:List Int},(∀ x∈xs,IntKind.i64.min≤x∧x≤IntKind.i64.max)→aN w D E (xs.map enc) (xs.map (Value.int .i64))
 | [],_=>rfl
 |x::xs,h=>⟨[.int .i64 x],xs.map (Value.int .i64),rfl,⟨rfl,h x (by simp)⟩,rz fun y hy=>h y (by simp[hy])⟩
theorem rP(xs:List Int):(I.agg (xs.map enc)).aX=.eE (List.replicate xs.length .one):=by
 show cR.eE (I.cQ _)=_
 congr 1
 induction xs with
 |nil=>rfl
 |cons x xs ih=>simp only[zz3,I.cQ,ih,zw1,List.replicate_succ];rfl
theorem Zk{xs ys q:List Int}(ao:ys.length=xs.length){cs:Array Value}(hc:cs.toList=(xs++q).map (Value.int .i64)):(Sort.putCells (Value.int .i64) 0 ys.toArray cs).toList=(ys++q).map (Value.int .i64):=by
 apply List.ext_getElem?;intro k;have J:cs[k]?=((xs++q).map (Value.int .i64))[k]?:=by rw[←hc,zx8]
 rw[zx8,Sort.putCells,Array.getElem?_mapIdx,J];simp only[zy9,List.size_toArray,zw2,true_and,zz1,Nat.sub_zero];by_cases hk:k<ys.length
 ·simp only[hk,if_true];rw[zy4 (by omega),zy4 hk,zy3 (by omega),zy3 hk];simp[hk]
 ·simp only[hk,if_false];rw[zw4 (by omega),zw4 (by omega),ao];cases (q[k-xs.length]?) <;>rfl
open Go.Sort Go.RowKit in
theorem Ha(xs q:List Int)(hn:xs.length≤1000):cP Tryz.prog 89 [.view 1000000 [] 1 0 xs.length] (j4 1000000 (xs++q)) (ZT (cj xs++q)):=by
 refine ⟨Aw,fun w D E vs _ hD hO hv =>?_⟩;have ho:=hO.bP 1000000;simp only[j4,aj,if_true] at ho;obtain ⟨b,cs,T,aA,-,hb,hr,hnD⟩:=ho;have hEn:∀ n,n≠1000000→E n=none:=fun n hn=>by
  have:=hO.bP n;simpa only[j4,aj,if_neg hn,cY] using this
 simp only[aJ] at hv;obtain ⟨v,rest,cs',rfl,hp,hr',rfl⟩:=hv;obtain ⟨b',aX,off,l,hE',hoff,hpart,rfl,hl1,hl2,hl3⟩:=hr';rw[aA] at hE';simp only[v6,bN.aL.injEq] at hE';obtain ⟨rfl,rfl⟩:=hE';have hoff':off=0:=by
  have:(some 0:Option Nat)=some off:=by rw[←hoff];rw[rP];rfl
  injection this with this;exact this.symm
 subst hoff';have hp':v=.slice (some ⟨b,0,none⟩) xs.length (l.length-0):=by
  have:[Value.slice (some ⟨b,0+0*1,none⟩) xs.length (l.length-0)]=[v]:=hp;simpa using this.symm
 subst hp';obtain ⟨hcs,hrg⟩:=EZ hr;have hbs:b<w.heap.size:=(zy1.1 hb).1;have hH:Holds (Value.int .i64) w b 0 xs.toArray:=fun j hj=>by
  simp only[List.size_toArray] at hj;constructor
  ·simp only[World.cell?,hb,Option.isSome_none,zz2,if_false,zz1];rw[←zx8,hcs];rw[zy5,zy4 (by simpa using hj)];simp[hj]
  ·simp[World.frozen?,hb]
 have hlen:(cj xs).length=xs.length:=by simp[cj]
 refine (Any.slices_Sort_int Cv b 0 (l.length-0) xs w hH hbs (by omega)).mono ?_;rintro e w' ⟨rfl,n,os,rfl⟩;have hb1:(putRow (Value.int .i64) (Sort.ahead w n) b 0 (cj xs).toArray).heap[b]?=some (.cells (putCells (Value.int .i64) 0 (cj xs).toArray cs) T (0,0)):=by
  simp[putRow,mapBlock,Sort.ahead,Array.getElem?_modify,hb,onCells]
 have hother:∀ k,k<w.heap.size→k≠b→(grow (putRow (Value.int .i64) (Sort.ahead w n) b 0 (cj xs).toArray) os).heap[k]?=w.heap[k]?:=fun k hk hkb=>by
  rw[heap_grow_old _ _ (by simpa[Sort.ahead] using hk)];simp[putRow,mapBlock,Sort.ahead,Array.getElem?_modify,Ne.symm hkb]
 have hb2:(grow (putRow (Value.int .i64) (Sort.ahead w n) b 0 (cj xs).toArray) os).heap[b]?=some (.cells (putCells (Value.int .i64) 0 (cj xs).toArray cs) T (0,0)):=by
  rw[heap_grow_old _ _ (by simpa[Sort.ahead] using hbs)];exact hb1
 have hsz:w.heap.size≤(grow (putRow (Value.int .i64) (Sort.ahead w n) b 0 (cj xs).toArray) os).heap.size:=by simp[Sort.ahead]
 have hshow:(grow (putRow (Value.int .i64) (Sort.ahead w n) b 0 (xs.mergeSort fun x y=>decide (x≤y)).toArray) os)=(grow (putRow (Value.int .i64) (Sort.ahead w n) b 0 (cj xs).toArray) os):=rfl;rw[hshow];have hw1:(grow (putRow (Value.int .i64) (Sort.ahead w n) b 0 (cj xs).toArray) os).os=w.os:=rfl;have hw2:(grow (putRow (Value.int .i64) (Sort.ahead w n) b 0 (cj xs).toArray) os).tape=w.tape:=rfl;have hw3:(grow (putRow (Value.int .i64) (Sort.ahead w n) b 0 (cj xs).toArray) os).output=w.output:=rfl;revert hother hb2 hsz hw1 hw2 hw3;generalize grow (putRow (Value.int .i64) (Sort.ahead w n) b 0 (cj xs).toArray) os=w2;intro hother hb2 hsz hw1 hw2 hw3;have hmem:∀ x∈cj xs++q,IntKind.i64.min≤x∧x≤IntKind.i64.max:=fun x hx=>hrg x (by
  rcases zx7.1 hx with h | h
  ·exact List.mem_append_left _ (by simpa[cj] using h)
  ·exact List.mem_append_right _ h)
 refine ⟨.tuple #[],D,E,.tuple [],j4 1000000 (cj xs++q),rfl,⟨rfl,rfl⟩,⟨[],rfl,rfl⟩,⟨fun m =>?_,hO.cO⟩,⟨hw1,hw2,hw3,hsz,fun k hk =>?_⟩,fun _ _ h=>h,fun b0 o h=>Nat.lt_of_lt_of_le (hD b0 o h) hsz,fun _ _ h _ _=>h,fun m e h _=>⟨e,h,bN.le.refl e⟩,⟨fun b0 o u af hc =>?_,fun b0 es ck af hc =>?_⟩⟩
 ·by_cases hm:m=1000000
  ·subst hm;simp only[j4,aj,if_true];refine ⟨b,_,T,?_,.inr ⟨1000000,_,aA,rfl⟩,hb2,?_,hnD⟩
   ·rw[aA,rP,rP,zz7,zz7,hlen]
   ·show aN w2 D E _ _
    rw[Zk hlen hcs];exact rz hmem
  ·simp only[j4,aj,if_neg hm,cY];exact hEn m hm
 ·by_cases hk2:k<w.heap.size
  ·exact hother k hk2 fun e=>hk (.inr ⟨1000000,_,aA,by rw[e];rfl⟩)
  ·exact absurd (.inl (Nat.le_of_not_lt hk2)) hk
 ·have hne:b0≠b:=fun e=>hnD o (e▸af);simp only[World.cell?,hother b0 (hD b0 o af) hne] at hc ⊢;exact hc
 ·have hne:b0≠b:=fun e=>hnD 0 (e▸af);rw[hother b0 (hD b0 0 af) hne];exact hc
theorem Hb(v:I)(hv0:v=.nils 1∨v=enc ([]:List Int)):aZ Tryz.prog 89 [v] (.tuple []):=by
 refine ⟨Aw,fun w D vs _ hD hv =>?_⟩;simp only[aJ] at hv;obtain ⟨u,rest,cs',rfl,hp,hr',rfl⟩:=hv;have hu:∃ a cap,u=.slice a 0 cap:=by
  rcases hv0 with rfl | rfl
  ·have J:cs'=[.slice none 0 0]:=hr';have U:cs'=[u]:=hp;rw[J] at U;exact ⟨none,0,by simpa using U.symm⟩
  ·obtain ⟨a,cap,J,_⟩:=hr';have U:cs'=[u]:=hp;rw[J] at U;exact ⟨a,cap,by simpa using U.symm⟩
 obtain ⟨a,cap,rfl⟩:=hu;refine (Any.slices_Sort_int_none Cv a cap w).mono ?_;rintro e w' ⟨rfl,rfl⟩;exact ⟨.tuple #[],D,rfl,⟨[],rfl,rfl⟩,⟨rfl,rfl,rfl,zz4 _,fun _ _=>rfl⟩,hD,fun _ _ h _=>h⟩
end Go.Proofs.YthbdbocionnfgaaGreatDoor
namespace Go.Proofs.YthbdbocionnfgaaGreatDoor
open Go Go.Abs
open Go.Abs.Enc (enc)
theorem Bk(n:Nat)(ts:List (Nat×I)):∀ t,Abs.bZ (kh [n] ts) t=if (Abs.bZ ts t).only (fun j => ![n].contains j)=true then Abs.bZ ts t else .du:=by
 intro t;simp only[kh]
 induction ts with
 |nil=>simp[Abs.bZ]
 |cons q ts ih =>
  obtain ⟨k,v⟩:=q;simp only[zz3,Abs.bZ];split
  ·rfl
  ·exact ih
theorem ur{p q:Nat→Bool}(h:∀ n,p n=true→q n=true){y:aq}(hy:y.only p=true):y.only q=true:=by
 cases y with
 |box x=>exact iM h _ hy
 |bW T sz es=>exact ij h _ hy
 |dF o=>rfl
 |dC T xs=>rfl
 |bt ks vs=>simp only[aq.only,t8] at hy ⊢;exact ⟨ij h _ hy.1,ij h _ hy.2⟩
 |it ks vs l c=>simp only[aq.only,t8] at hy ⊢;exact ⟨ij h _ hy.1,ij h _ hy.2⟩
theorem w6{n k:Nat} : ∀ {ts:List (Nat×I)},(∀ q∈ts,pH n k q.2)→∀ t,pH n k (Abs.bZ ts t)
 | [],_,_=>.inr rfl
 |(a,v)::ts,h,t=>by
  simp only[Abs.bZ];split
  ·exact h (a,v) (by simp)
  ·exact w6 (fun q hq=>h q (by simp[hq])) t
theorem tA{p:Nat→Bool}{n k:Nat}(hp:p=fun j => ![n].contains j)(f:aq→aq)(hf:∀ y:aq,y.only p=true→f y=y):∀ {os:List (Nat×aq)},cF p (ec [n] os)→cF p (ec [n] (os.map fun q=>(q.1,f q.2)))
 | [],_=>trivial
 |(m,y)::os,h=>by
  simp only[zz3,ec,zw0] at h ⊢;split
  ·rename_i hm;rw[if_pos hm] at h;refine ⟨?_,tA (k:=k) hp f hf h.2⟩;rw[hf y h.1];exact h.1
  ·rename_i hm;rw[if_neg hm] at h;exact tA (k:=k) hp f hf h
theorem NA{ys q:List Int}{k:Nat}(hk:ys.length=k):kj 1 0 k (some ((ys++q).map enc))=some (enc ys):=by
 have h:(((ys++q).map (enc (α:=Int))).drop 0).take k=ys.map enc:=by
  rw[List.drop_zero,zy5,List.take_append_of_le_length (by simp[hk]),List.take_of_length_le (by simp[hk])]
 simp only[kj,h];rw[if_pos (iB ys),hs];rfl
theorem FW{n k:Nat} : ∀ y:aq,y.only (fun j => ![n].contains j)=true→jK (iY n k) y=y:=fun y hy=>by
 cases y <;>try rfl
 simp only[aq.only] at hy;simp only[jK,ug (iM (fun j hj=>by simpa using hj) _ hy)]
theorem FU{n:Nat} : ∀ y:aq,y.only (fun j => ![n].contains j)=true→jK (iX n) y=y:=fun y hy=>by
 cases y <;>try rfl
 simp only[aq.only] at hy;simp only[jK,FV (iM (fun j hj=>by simpa using hj) _ hy)]
theorem FT{ts ts':List (Nat×I)}(h:∀ q∈ts',Abs.bZ ts q.1=q.2):cz ts ts':=by
 induction ts' with
 |nil=>trivial
 |cons q ts' ih=>exact ⟨h q (by simp),ih fun q hq=>h q (by simp[hq])⟩
theorem ae.FM{W0:World}{bG:aP}{nn:Nat}{ow:Nat→Prop}{E1:a8}{Y:Value→List I→List (Nat×aq)→cC→Prop}{lq:Option Nat}{ba:Option (List Deferred)}{y:bp}{Q:Exit→ai→Prop}{ts:List (Nat×I)}{os:List (Nat×aq)}{a b d n:Nat}{xs:List Int}
  (af:Abs.bZ ts d=.own n xs.length) (hn:aj os n=some (.dC 3 xs)) (hlt:n<1000000) (ao:xs.length≤1000) (ht:∀ t,pH n xs.length (Abs.bZ ts t)) (ho:cF (fun j => ![n].contains j) (ec [n] os))
  (ts':List (Nat×I)) (J:∀ q∈ts',q.1≠a∧q.1≠b∧Abs.bZ ts q.1=q.2∧q.2.only (fun j=>j != n)=true)
  (hda:d≠a) (hdb:d≠b)
  (h:ae ⟨Tryz.prog,W0,bG,nn,ow,E1,Y,lq,ba⟩ y Q (au ((d,enc (cj xs))::ts') (ec [n] os))) :
  ae ⟨Tryz.prog,W0,bG,nn,ow,E1,Y,lq,ba⟩ (.seq (.cw none [⟨some a,.mv (.t d),none⟩,⟨some b,.call 89 [.t a],none⟩]) y) Q (au ts os):=by
 have hdrop:∀ m,aj (ec [n] os) m=if m=n then none else aj os m:=fun m=>by
  have:=nR [n] os m;simpa using this
 have ho':∀ m y,aj os m=some y→m≠n→y.only (fun j=>j != n)=true:=fun m y hy hm=>by
  have:=w8 ho m y (by rw[hdrop,if_neg hm];exact hy);exact ur (fun j hj=>by simpa using hj) this
 by_cases hx:xs=[]
 ·subst hx;refine ae.sub (bw.aaw hn (bw.refl _)) ?_;refine ae.seq (ae.cw (cl:=[]) (by rfl) fun K hK =>?_);have hd':Abs.bZ (ts.map fun q=>(q.1,iX n q.2)) d=.nils 1:=by
   rw[pA _ rfl,af];simp[iX]
  simp only[bq,simprocAttr,hd'];refine .flat _ (Hb _ (.inr rfl)) rfl ?_
  try simp only[bq,simprocAttr]
  refine .done (hK _ ?_);clear hK K;refine ae.sub ((bw.jh [n] d (x:=.nils 1) (y:=enc ([]:List Int)) ?_ (by rfl) ?_).trans (bw.slots ?_ fun m =>?_)) h
  ·simp only[Abs.bZ,hda,hdb,if_false];exact hd'
  ·exact tA (k:=0) rfl (jK (iX n)) FU ho
  ·refine ⟨by simp[Abs.bZ,cj],FT fun q hq =>?_⟩;obtain ⟨k1,k2,k3,k4⟩:=J q hq;have hqd:q.1≠d:=fun e=>by
    rw[e,af] at k3;rw[←k3] at k4;simp[I.only] at k4
   have h5:Abs.bZ (ts.map fun p=>(p.1,iX n p.2)) q.1=q.2:=by
    rw[pA _ rfl,k3,FV k4]
   simp only[Abs.bZ,Bk,k1,k2,hqd,if_false,h5];rw[if_pos (iM (fun j hj=>by simpa using hj) _ k4)]
  ·rw[hdrop,nR,tj];by_cases hm:m=n
   ·simp[hm]
   ·cases h6:aj os m with
    |none=>simp[hm]
    |some y =>
     have h7:jK (iX n) y=y:=FU _ (ur (fun j hj=>by simpa using hj) (ho' _ _ h6 hm));simp[hm,h7]
 ·refine ae.aav hn hx hlt ht (fun m y hy hm=>.inr (ho' m y hy hm)) fun q =>?_;refine ae.seq (ae.cw (cl:=[]) (by rfl) fun K hK =>?_);have hd':Abs.bZ (ts.map fun p=>(p.1,iY n xs.length p.2)) d=.view n [] 1 0 xs.length:=by
   rw[pA _ rfl,af];simp[iY]
  simp only[bq,simprocAttr,hd'];refine .bP false [(1000000,n)] (j4 1000000 (xs++List.replicate q 0)) [.view 1000000 [] 1 0 xs.length] _ rfl (Ha xs _ (by omega)) ?_ ?_ ?_ ?_
  ·refine ⟨fun m y hy =>?_,fun m m' h h' _=>by rw[gJ.1 h,gJ.1 h']⟩;simp only[j4,aj] at hy;split at hy
   ·rename_i hm;cases hy;subst hm;exact ⟨by simp only[bH,if_true,aj,aq.bh,I.bh,pP],CM _ _,rfl⟩
   ·cases hy
  ·exact ⟨.inl ⟨by simp[I.bh,bH],gJ.2 rfl,rfl⟩,trivial⟩
  ·rintro rr os2 ⟨rfl,rfl⟩;refine ⟨fun m y hy =>?_,fun m m' h h' _=>by rw[gJ.1 h,gJ.1 h'],fun m hm=>by rw[gJ.1 hm];exact gJ.2 rfl,fun m a b=>by rw[gJ.1 a] at b;simp[j4,aw,aj] at b,rfl,fun _=>rfl⟩;simp only[j4,aj] at hy;split at hy
   ·cases hy;exact ⟨CM _ _,rfl,fun h=>by cases h⟩
   ·cases hy
  ·rintro rr os2 ⟨rfl,rfl⟩
   try simp only[j4,dn,zz3,zx4,aq.bh,I.bh,pP,bH,reduceIte,zz5,zv3,I.dp,bq,simprocAttr]
   refine .done (hK _ ?_);clear hK K;refine ae.sub ((bw.jh [n] d (x:=.view n [] 1 0 xs.length) (y:=enc (cj xs)) ?_ ?_ ?_).trans (bw.slots ?_ fun m =>?_)) h
   ·simp only[Abs.bZ,hda,hdb,if_false];exact hd'
   ·have:aj (kY [n] ((n,aq.box (I.agg ((cj xs++List.replicate q 0).map enc)))::(n,aq.box (I.agg ((xs++List.replicate q 0).map enc)))::os.map fun p=>(p.1,jK (iY n xs.length) p.2))) n=some (.box (.agg ((cj xs++List.replicate q 0).map enc))):=by
     rw[py];simp[aj]
    try simp only[this,bq,simprocAttr]
    exact NA (by simp[cj])
   ·have:=tA (k:=0) rfl (jK (iY n xs.length)) FW ho;simpa[ec] using this
   ·refine ⟨by simp[Abs.bZ],FT fun q hq =>?_⟩;obtain ⟨k1,k2,k3,k4⟩:=J q hq;have hqd:q.1≠d:=fun e=>by
     rw[e,af] at k3;rw[←k3] at k4;simp[I.only] at k4
    have h5:Abs.bZ (ts.map fun p=>(p.1,iY n xs.length p.2)) q.1=q.2:=by
     rw[pA _ rfl,k3,ug k4]
    simp only[Abs.bZ,Bk,k1,k2,hqd,if_false,h5];rw[if_pos (iM (fun j hj=>by simpa using hj) _ k4)]
   ·rw[hdrop,nR];by_cases hm:m=n
    ·simp[hm]
    ·simp only[aj,if_neg hm,tj];cases h6:aj os m with
     |none=>simp[hm]
     |some y =>
      have h7:jK (iY n xs.length) y=y:=FW _ (ur (fun j hj=>by simpa using hj) (ho' _ _ h6 hm));simp[hm,h7]
def fS(ks:List Int)(av:List Nat):List Int:=av.map fun i=>ks.getD i 0
theorem Du(ks:List Int)(av:List Nat)(i:Nat):fS ks (av++[i])=fS ks av++[ks.getD i 0]:=by simp[fS]
theorem Dt(ks:List Int)(av:List Nat):(fS ks av).length=av.length:=by simp[fS]
theorem Ds{ks:List Int}{av:List Nat}(h:av.Perm (List.range ks.length)):(fS ks av).Perm ks:=by
 have e:(List.range ks.length).map (fun i=>ks.getD i 0)=ks:=by
  refine List.ext_getElem (by simp) fun i J U =>?_;simp[zz0,U]
 simp only[fS];have:=h.map fun i=>ks.getD i 0
 rwa [e] at this
theorem FL{xs ys:List Int}(h:xs.Perm ys):cj xs=cj ys:=by
 unfold cj;have hx:=List.pairwise_mergeSort (le:=fun x y:Int=>decide (x≤y)) (by intro a b c;simp;omega) (by intro a b;simp;omega) xs;have hy:=List.pairwise_mergeSort (le:=fun x y:Int=>decide (x≤y)) (by intro a b c;simp;omega) (by intro a b;simp;omega) ys;refine List.Perm.eq_of_pairwise (fun a b _ _ h k =>?_) hx hy ((List.mergeSort_perm _ _).trans (h.trans (List.mergeSort_perm _ _).symm));simp only[decide_eq_true_eq] at h k;omega
theorem Dd(p:Nat→Bool)(f:Nat→cZ):∀ l:List Nat,I.cv p (l.map fun i=>.ref (enc (f i)))=true
 | []=>rfl
 |i::l=>by simp[I.cv,I.only,cA,Dd p f l]
def yB(s:aG)(t:List Nat×List Nat×Option Nat):ai :=
 au [(3,.own 905 (fS s.bB t.1).length),(9,.dj 9)] [(9,.it (s.bB.map enc) (s.aR.map fun i=>.ref (enc (s.b9 i))) t.2.1 t.2.2),(905,.dC 3 (fS s.bB t.1))]
theorem yn(s:aG)(ao:s.aR.length≤1000):aZ Tryz.prog 85 [dB s] (enc (cj s.bB)):=by
 refine aZ.b5 Tryz.func85 Jt Kx LU (u8 rfl) (fun hwf W0 bG E1 =>?_);simp only[zZ,ER,bI];clear hwf;have hlen:s.bB.length=s.aR.length:=by simp[aG.bB]
 refine .fI (by decide +kernel) fun K hK =>?_;simp only[BP,bq,simprocAttr];refine .done (hK _ ?_);clear hK K;refine .fI (by decide +kernel) fun K hK =>?_;simp only[BQ,bq,simprocAttr];refine .done (hK _ ?_);clear hK K;refine ae.seq (ae.seq ?_);refine .j0 (by decide +kernel) fun K hK =>?_;simp only[BR,bq,simprocAttr]
 try simp only[eb,jG,bu,kZ,bq,simprocAttr]
 refine .done (hK _ ?_);clear hK K;try simp only[dY]
 refine ae.block (ae.loop (yB s) (fun t=>(t.1++t.2.1).Perm (List.range s.bB.length)) (fun t=>t.2.1.length) ([],List.range s.bB.length,none) (by simp) ?_ ?_)
 ·refine bw.yE 3 905 3 1 rfl rfl ?_;refine bw.slots ?_ (fun n =>?_)
  ·simp[cz,cu,fS]
  ·simp only[fS,zx4,dE,nS,zz8,hlen]
   (repeat' split) <;>simp_all
 rintro ⟨av,left,cur⟩ hC;simp only at hC;have hdl:av.length+left.length=s.bB.length:=by simpa using hC.length_eq
 have hpl:=Dt s.bB av;simp only[yB];by_cases hn:left=[]
 ·subst hn;refine .fI (by decide +kernel) fun K hK =>?_;simp only[wa,bq,simprocAttr]
  try simp only[kZ,wX,bq,simprocAttr]
  refine .done (hK _ ?_);clear hK K;refine ae.seq ?_;refine ae.iG ?_;simp only[ay,bq,simprocAttr];refine ⟨fun h =>?_,fun h =>?_⟩
  case refine_1=>cases h
  refine ae.exit ?_;try simp only[dY,jc,simprocAttr]
  have hdn:(fS s.bB av).Perm s.bB:=Ds (by simpa using hC);rw[←FL hdn];generalize fS s.bB av=xs at hpl;refine ae.FM (a:=18) (b:=19) (d:=3) (n:=905) (xs:=xs) rfl rfl (by decide) (by omega) (w6 (by simp[pH,I.only,I.cv])) (by simp only[ec,zw0,List.filter_nil,List.contains_cons];simp[cF,aq.only,fR,Dd,-List.map_map]) [] (by simp) (by decide) (by decide) ?_;have R:=aC
  repeat' ((first |refine ae.aE (by decide +kernel) rfl fun K hK =>?_|(refine .av [0,2,3,4,9,11] hK ?_;clear hK K)|(with_reducible refine .done (hK _ ?_);clear hK K)|refine ae.of rfl ?_|(with_reducible refine ay.aD (fun h =>?_) (fun h =>?_) <;>try simp only[h])) <;>try simp only[aF,R,simprocAttr])
  all_goals clear R
 ·refine .fI (by decide +kernel) fun K hK =>?_;simp only[wa,bq,simprocAttr]
  try simp only[kZ,bq,simprocAttr]
  refine aQ.gZ hn fun i hi =>?_;have hib:i<s.bB.length:=zw5.1 (hC.mem_iff.1 (by simp[hi]));have hib2:i<s.aR.length:=by omega
  obtain ⟨hm,hC2⟩:=wC hC hi;have hk1:(s.bB.map (enc (α:=Int)))[i]?=some (enc s.bB[i]):=by simp[hib]
  have hk2:(s.aR.map fun i=>I.ref (enc (s.b9 i)))[i]?=some (.ref (enc (s.b9 s.aR[i]))):=by simp[hib2]
  refine ⟨_,_,hk1,hk2,?_⟩;have hent:kT (s.bB.map enc) (s.aR.map fun i=>I.ref (enc (s.b9 i))) (some i)=some (.tuple [enc s.bB[i],.ref (enc (s.b9 s.aR[i]))]):=by
   simp only[kT,hk1,hk2]
  have hx:s.bB.getD i 0=s.bB[i]:=by simp[zz0,hib]
  have hsn:=Du s.bB av i;rw[hx] at hsn;have hbs:fg 1 (some [.int .i64 s.bB[i]])=some (enc [s.bB[i]]):=iy 1 s.bB[i] rfl;have hap:=fun (A:ai) d rest=>yH (A:=A) (d:=d) (e:=3) (bytes:=8) (n:=905) (l:=(fS s.bB av).length) (xs:=fS s.bB av) (y:=s.bB[i]) (rest:=rest) rfl (by simp[maxLen];omega) (by omega)
  try simp only[bq,simprocAttr]
  refine .done (hK _ ?_);clear hK K;refine ae.seq ?_;refine ae.iG ?_;simp only[ay,bq,simprocAttr];refine ⟨fun h =>?_,fun h =>?_⟩
  case refine_2=>cases h
  refine ae.skip ?_;try simp only[dY,simprocAttr]
  refine ae.block ?_;have R:=y6 @hent (y6 @hbs (y6 @hap aC))
  repeat' ((first |refine ae.aE (by decide +kernel) rfl fun K hK =>?_|(refine .av [0,2,3,4,9,11] hK ?_;clear hK K)|(with_reducible refine .done (hK _ ?_);clear hK K)|refine ae.of rfl ?_|(with_reducible refine ay.aD (fun h =>?_) (fun h =>?_) <;>try simp only[h])) <;>try simp only[aF,R,simprocAttr])
  all_goals clear R
  refine ⟨(av++[i],left.filter (· != i),some i),hC2,hm,?_⟩;simp only[hsn];refine bw.slots ?_ (fun n =>?_)
  ·simp[cz,cu]
  ·simp only[dE,nS];(repeat' split) <;>simp_all
def pj(p:bA):List Int×Int:=match c7 p with
 |none=>([],91)
 |some s=>(cj s.here,0)
theorem Fp:(∀ A d rest l,tS A d rest (jR l)=aB rest ((A.aT d (.it (l.map enc) (List.replicate l.length (.bool true)) (List.range (l.map (enc (α:=Int))).length) none)).put d (.dj d))):=fun _ _ _ _=>rfl
def yx(p:bA)(s:aG)(t:List Nat×List Nat×Option Nat):ai :=
 au [(6,.own 905 (fS s.here t.1).length),(20,.dj 20)] [(20,.it (s.here.map enc) (List.replicate s.here.length (.bool true)) t.2.1 t.2.2),(905,.dC 3 (fS s.here t.1)),(1,.box (enc p))]
theorem Fv:∀ {l:List aU} {s s':aG},fG s l=some s'→s'.here.length≤s.here.length+l.length
 | [],s,s',h=>by cases h;simp
 |x::l,s,s',h=>by
  simp only[fG] at h;cases hx:gj s x with
  |none=>rw[hx] at h;cases h
  |some s2 =>
   rw[hx] at h;have J:=Fv h;have ha:∀ b,(gy s.here b).length≤s.here.length+1:=fun b=>by unfold gy;split <;>simp
   have he:∀ b,(s.here.erase b).length≤s.here.length:=fun b=>by
    have:=List.length_erase_le (a:=b) (l:=s.here);exact this
   have U:s2.here.length≤s.here.length+1:=by
    simp only[gj] at hx;split at hx
    ·simp only[eJ] at hx
     (repeat' split at hx) <;>first
      |(cases hx;done)
      |(cases hx;exact ha _)
      |(cases hx;exact zw9 (he _) (Nat.le_succ _))
      |(cases hx;exact Nat.le_succ _)
    ·cases hx
   simp only[zw1];omega
theorem YW{p:bA}{s:aG}(h:c7 p=some s):s.here.length≤200:=by
 obtain ⟨_,_,_,ar,_,h6⟩:=iN h;have:=Fv h6;simp only[eP,List.length_nil] at this;omega
theorem GC(p:bA):aZ Tryz.prog 44 [enc p] (.tuple [enc (pj p).1,enc (pj p).2]):=by
 refine aZ.b5 Tryz.func44 I0 J4 Lp (u8 rfl) (fun hwf W0 bG E1 =>?_);simp only[zw,Em,bI];clear hwf;have hF:=np p;simp only[pj];cases ho:c7 p with
 |none =>
  rw[ho] at hF;simp only[iO] at hF;have R:=y6 @cg (y6 @bm (y6 @bU (y6 @bz (y6 @bu aC))))
  repeat' ((first |refine ae.aE (by decide +kernel) rfl fun K hK =>?_|refine .lead _ (hF) ?_|(refine .av [0,1,2,3,4,5,6,7,14,20,22] hK ?_;clear hK K)|(with_reducible refine .done (hK _ ?_);clear hK K)|refine ae.of rfl ?_|(with_reducible refine ay.aD (fun h =>?_) (fun h =>?_) <;>try simp only[h])) <;>try simp only[aF,R,simprocAttr])
  all_goals clear R
  rfl
 |some s =>
  have ao:=YW ho;rw[ho] at hF;simp only[iO] at hF;have R:=y6 @Fp (y6 @eb (y6 @cg (y6 @bm (y6 @bU (y6 @bz (y6 @bu aC))))))
  repeat' ((first |refine ae.aE (by decide +kernel) rfl fun K hK =>?_|refine .lead _ (hF) ?_|(refine .av [0,1,2,3,4,5,6,7,14,20,22] hK ?_;clear hK K)|(with_reducible refine .done (hK _ ?_);clear hK K)|refine ae.of rfl ?_|(with_reducible refine ay.aD (fun h =>?_) (fun h =>?_) <;>try simp only[h])) <;>try simp only[aF,R,simprocAttr])
  all_goals clear R
  refine ae.loop (yx p s) (fun t=>(t.1++t.2.1).Perm (List.range s.here.length)) (fun t=>t.2.1.length) ([],List.range s.here.length,none) (by simp) ?_ ?_
  ·refine bw.yE 6 905 3 1 rfl rfl ?_;refine bw.slots ?_ (fun n =>?_)
   ·simp[cz,cu,fS]
   ·simp only[fS,zx4,dE,nS,zz8]
    (repeat' split) <;>simp_all
  rintro ⟨av,left,cur⟩ hC;simp only at hC;have hdl:av.length+left.length=s.here.length:=by simpa using hC.length_eq
  have hpl:=Dt s.here av;simp only[yx];by_cases hn:left=[]
  ·subst hn;refine .fI (by decide +kernel) fun K hK =>?_;simp only[vX,bq,simprocAttr]
   try simp only[kZ,wX,bq,simprocAttr]
   refine .done (hK _ ?_);clear hK K;refine ae.seq ?_;refine ae.iG ?_;simp only[ay,bq,simprocAttr];refine ⟨fun h =>?_,fun h =>?_⟩
   case refine_1=>cases h
   refine ae.exit ?_;try simp only[dY,jc,simprocAttr]
   have hdn:(fS s.here av).Perm s.here:=Ds (by simpa using hC);rw[←FL hdn];generalize fS s.here av=xs at hpl;refine ae.FM (a:=29) (b:=30) (d:=6) (n:=905) (xs:=xs) rfl rfl (by decide) (by omega) (w6 (by simp[pH,I.only,I.cv])) (by simp only[ec,zw0,List.filter_nil,List.contains_cons];simp[cF,aq.only,fR,xb,cA,-List.map_map]) [] (by simp) (by decide) (by decide) ?_;have R:=aC
   repeat' ((first |refine ae.aE (by decide +kernel) rfl fun K hK =>?_|(refine .av [0,1,2,3,4,5,6,7,14,20,22] hK ?_;clear hK K)|(with_reducible refine .done (hK _ ?_);clear hK K)|refine ae.of rfl ?_|(with_reducible refine ay.aD (fun h =>?_) (fun h =>?_) <;>try simp only[h])) <;>try simp only[aF,R,simprocAttr])
   all_goals clear R
  ·refine .fI (by decide +kernel) fun K hK =>?_;simp only[vX,bq,simprocAttr]
   try simp only[kZ,bq,simprocAttr]
   refine aQ.gZ hn fun i hi =>?_;have hib:i<s.here.length:=zw5.1 (hC.mem_iff.1 (by simp[hi]));obtain ⟨hm,hC2⟩:=wC hC hi;have hk1:(s.here.map (enc (α:=Int)))[i]?=some (enc s.here[i]):=by simp[hib]
   have hk2:(List.replicate s.here.length (I.bool true))[i]?=some (.bool true):=by simp[hib]
   refine ⟨_,_,hk1,hk2,?_⟩;have hent:kT (s.here.map enc) (List.replicate s.here.length (.bool true)) (some i)=some (.tuple [enc s.here[i],.bool true]):=by
    simp only[kT,hk1,hk2]
   have hx:s.here.getD i 0=s.here[i]:=by simp[zz0,hib]
   have hsn:=Du s.here av i;rw[hx] at hsn;have hbs:fg 1 (some [.int .i64 s.here[i]])=some (enc [s.here[i]]):=iy 1 s.here[i] rfl;have hap:=fun (A:ai) d rest=>yH (A:=A) (d:=d) (e:=3) (bytes:=8) (n:=905) (l:=(fS s.here av).length) (xs:=fS s.here av) (y:=s.here[i]) (rest:=rest) rfl (by simp[maxLen];omega) (by omega)
   try simp only[bq,simprocAttr]
   refine .done (hK _ ?_);clear hK K;refine ae.seq ?_;refine ae.iG ?_;simp only[ay,bq,simprocAttr];refine ⟨fun h =>?_,fun h =>?_⟩
   case refine_2=>cases h
   refine ae.skip ?_;try simp only[dY,simprocAttr]
   refine ae.block ?_;have R:=y6 @hent (y6 @hbs (y6 @hap aC))
   repeat' ((first |refine ae.aE (by decide +kernel) rfl fun K hK =>?_|(refine .av [0,1,2,3,4,5,6,7,14,20,22] hK ?_;clear hK K)|(with_reducible refine .done (hK _ ?_);clear hK K)|refine ae.of rfl ?_|(with_reducible refine ay.aD (fun h =>?_) (fun h =>?_) <;>try simp only[h])) <;>try simp only[aF,R,simprocAttr])
   all_goals clear R
   refine ⟨(av++[i],left.filter (· != i),some i),hC2,hm,?_⟩;simp only[hsn];refine bw.slots ?_ (fun n =>?_)
   ·simp[cz,cu]
   ·simp only[dE,nS];(repeat' split) <;>simp_all
def mj(s:aG):List cZ:=(cj s.bB).map fun n=>s.b9 (n.toNat-1)
def oo(p:bA):List cZ×Int:=match c7 p with
 |none=>([],91)
 |some s=>(mj s,0)
theorem HS{s:aG}{n:Int}(h:n∈s.bB):∃ j,s.at n=some j∧n=(j:Int)+1∧j∈s.aR:=by
 obtain ⟨j,hj,rfl⟩:=zx1.1 h;have ab:(s.at ((j:Int)+1)).isSome=true:=by
  simp only[aG.at,List.find?_isSome];exact ⟨j,hj,by simp⟩
 obtain ⟨k,hk⟩:=zy8.1 ab;obtain ⟨J,U⟩:=js hk;exact ⟨k,hk,U,J⟩
theorem aaa{l:List Int}{n:Int} : n∈cj l↔n∈l:=by simp[cj]
theorem xG:∀ {l:List aU} {s s':aG},fG s l=some s'→s'.aR.length≤s.aR.length+l.length
 | [],s,s',h=>by cases h;simp
 |x::l,s,s',h=>by
  simp only[fG] at h;cases hx:gj s x with
  |none=>rw[hx] at h;cases h
  |some s2 =>
   rw[hx] at h;have J:=xG h;have he:∀ b,(s.aR.erase b).length≤s.aR.length:=fun b=>List.length_erase_le;have U:s2.aR.length≤s.aR.length+1:=by
    simp only[gj] at hx;split at hx
    ·simp only[eJ] at hx
     (repeat' split at hx) <;>first
      |(cases hx;done)
      |(cases hx;exact zw9 (he _) (Nat.le_succ _))
      |(cases hx;exact Nat.le_succ _)
      |(cases hx;simp)
    ·cases hx
   simp only[zw1];omega
theorem YX{p:bA}{s:aG}(h:c7 p=some s):s.aR.length≤200:=by
 obtain ⟨_,_,_,ar,_,h6⟩:=iN h;have:=xG h6;simp only[eP,List.length_nil] at this;omega
theorem CE(s:aG){i:Nat}(h:i<(cj s.bB).length):fi (.i .i64) .nilp (.int .i64 (cj s.bB)[i]) (s.bB.map enc) (s.aR.map fun i=>.ref (enc (s.b9 i)))=some (.ref (enc (s.b9 ((cj s.bB)[i].toNat-1))),true):=by
 have hm:(cj s.bB)[i]∈s.bB:=aaa.1 (List.getElem_mem h);obtain ⟨j,hj,e,_⟩:=HS hm;rw[wE (s:=s) (fun i=>.ref (enc (s.b9 i))),hj];have:(cj s.bB)[i].toNat-1=j:=by omega
 simp only[this]
theorem Ny{xs:List cZ} : ki xs.length (some (.bW 48 4 (xs.map enc)))=some (enc xs):=o7 4 rfl rfl
def uH(p:bA)(s:aG)(t:Nat×List cZ):ai :=
 au [(1,.ptr 1 []),(4,dB s),(6,.own 905 t.2.length),(18,enc (cj s.bB)),(19,.int .i64 (cj s.bB).length),(20,.int .i64 t.1)] [(905,.bW 48 4 (t.2.map enc)),(1,.box (enc p))]
theorem yh(p:bA):aZ Tryz.prog 46 [enc p] (.tuple [enc (oo p).1,enc (oo p).2]):=by
 refine aZ.b5 Tryz.func46 I2 J6 Lr (u8 rfl) (fun hwf W0 bG E1 =>?_);simp only[zy,Eo,bI];clear hwf;have hF:=np p;simp only[oo];cases ho:c7 p with
 |none =>
  rw[ho] at hF;simp only[iO] at hF;have R:=y6 @cg (y6 @bm (y6 @bU (y6 @bz (y6 @bu aC))))
  repeat' ((first |refine ae.aE (by decide +kernel) rfl fun K hK =>?_|refine .lead _ (hF) ?_|(refine .av [0,1,2,3,4,5,6,8,15,18,19,20,21] hK ?_;clear hK K)|(with_reducible refine .done (hK _ ?_);clear hK K)|refine ae.of rfl ?_|(with_reducible refine ay.aD (fun h =>?_) (fun h =>?_) <;>try simp only[h])) <;>try simp only[aF,R,simprocAttr])
  all_goals clear R
  rfl
 |some s =>
  have ao:=YX ho;have hN:=yn s (by omega);have hlen:(cj s.bB).length=s.aR.length:=by simp[cj,aG.bB]
  have hrl:(mj s).length=(cj s.bB).length:=by simp[mj]
  have hso:∀ p,(dB s).only p=true:=fun p=>kq p _ (oz s);rw[ho] at hF;simp only[iO] at hF;have R:=y6 @Fp (y6 @eb (y6 @cg (y6 @bm (y6 @bU (y6 @bz (y6 @bu aC))))))
  repeat' ((first |refine ae.aE (by decide +kernel) rfl fun K hK =>?_|refine .lead _ (hF) ?_|refine .lead _ (hN) ?_|(refine .av [0,1,2,3,4,5,6,8,15,18,19,20,21] hK ?_;clear hK K)|(with_reducible refine .done (hK _ ?_);clear hK K)|refine ae.of rfl ?_|(with_reducible refine ay.aD (fun h =>?_) (fun h =>?_) <;>try simp only[h])) <;>try simp only[aF,R,simprocAttr])
  all_goals clear R
  refine ae.loop (uH p s) (fun t=>t.1≤(cj s.bB).length∧t.2=(mj s).take t.1) (fun t=>(cj s.bB).length-t.1) (0,[]) ⟨zw2 _,rfl⟩ ?_ ?_
  ·refine bw.p9 6 905 48 4 4 rfl rfl ?_;simp only[uH];refine bw.dh ?_ ?_ ?_ ?_ <;>simp[*,cz,c6,cJ,cF,aw,cu,dE,I.only,I.cv,aq.only,cA]
  rintro ⟨i,xs⟩ ⟨hi,hxs⟩;simp only at hi hxs;have htl:xs.length=i:=by rw[hxs,zx3];omega
  simp only[uH];by_cases hlt:i<(cj s.bB).length
  ·have hc:=ga hlt;have he:=fun A=>eM (A:=A) 1 hlt rfl;have hw:=fJ (i:=i) (by omega);have hlk:=CE s hlt;obtain ⟨r,hr⟩:∃ r,r=s.b9 ((cj s.bB)[i].toNat-1):=⟨_,rfl⟩
   rw[←hr] at hlk;have hbs:fg 4 (some [enc r])=some (enc [r]):=iy 4 _ rfl;have hap:=fun (A:ai) d rest=>oN (A:=A) (d:=d) 48 4 32 905 (l:=xs.length) (es:=xs) (ys:=[r]) (rest:=rest) rfl rfl (by simp) (by simp[maxLen];omega) (by simp;omega);have htk:(mj s).take (i+1)=xs++[r]:=by
    have hik:i<(mj s).length:=by rw[hrl];exact hlt
    rw[zy0 hik,hxs,hr];simp[mj]
   have R:=y6 @hc (y6 @he (y6 @hw (y6 @hlk (y6 @hbs (y6 @hap (y6 @eb (y6 @cg (y6 @bm (y6 @bU (y6 @bz (y6 @bu aC)))))))))))
   repeat' ((first |refine ae.aE (by decide +kernel) rfl fun K hK =>?_|(refine .av [0,1,2,3,4,5,6,8,15,18,19,20,21] hK ?_;clear hK K)|(with_reducible refine .done (hK _ ?_);clear hK K)|refine ae.of rfl ?_|(with_reducible refine ay.aD (fun h =>?_) (fun h =>?_) <;>try simp only[h])) <;>try simp only[aF,R,simprocAttr])
   all_goals clear R
   refine ⟨(i+1,xs++[r]),⟨by simp only;omega,htk.symm⟩,by simp only;omega,?_⟩;simp only;clear hxs htk htl;refine bw.dh ?_ ?_ ?_ ?_ <;>simp[*,cz,c6,cJ,cF,aw,cu,dE,I.only,I.cv,aq.only,fR,nZ,cA]
  ·have hge:i=(cj s.bB).length:=by omega
   have hc:=gp hlt;have htk:xs=mj s:=by rw[hxs];exact List.take_of_length_le (by omega)
   rw[←htk];have R:=y6 @hc (y6 @Ny (y6 @eb (y6 @cg (y6 @bm (y6 @bU (y6 @bz (y6 @bu aC)))))))
   repeat' ((first |refine ae.aE (by decide +kernel) rfl fun K hK =>?_|(refine .av [0,1,2,3,4,5,6,8,15,18,19,20,21] hK ?_;clear hK K)|(with_reducible refine .done (hK _ ?_);clear hK K)|refine ae.of rfl ?_|(with_reducible refine ay.aD (fun h =>?_) (fun h =>?_) <;>try simp only[h])) <;>try simp only[aF,R,simprocAttr])
   all_goals clear R
def qP(s:aG)(w:jr):Int:=match s.bo.find? fun x=>decide (eL x=w) with
 |some x=>x.kind
 |none=>0
def jA(p:bA)(bR no:Int):Int×Int:=match c7 p with
 |none=>(0,91)
 |some s=>if cT 0 5 bR=false∨bR=p.az then (0,90) else if cT 1 200 no=false then (0,94) else (qP s ⟨bR,no⟩,0)
theorem XJ(s:aG)(a b:Int):∃ x:aU,x.kind=qP s ⟨a,b⟩∧∃ t,fi (.bg [.i .i64,.i .i64]) (.agg [.int .i64 0,.int .i64 0,.int .i64 0,.int .i64 0]) (.agg [.int .i64 a,.int .i64 b]) (s.dS.map enc) (s.bo.map enc)=some (enc x,t):=by
 have h:=wD sN eL (fun x:aU=>enc x) (.agg [.int .i64 0,.int .i64 0,.int .i64 0,.int .i64 0]) ⟨a,b⟩ s.bo;have e:(enc (⟨a,b⟩:jr):I)=.agg [.int .i64 a,.int .i64 b]:=rfl;rw[e] at h;have e2:(fun x:aU=>decide ((⟨a,b⟩:jr)=eL x))=fun x=>decide (eL x=⟨a,b⟩):=by
  funext x;rw[Bool.eq_iff_iff];simp[eq_comm]
 rw[e2] at h;simp only[qP];cases hf:s.bo.find? fun x=>decide (eL x=⟨a,b⟩) with
 |none=>rw[hf] at h;exact ⟨fh,rfl,false,h⟩
 |some x=>rw[hf] at h;exact ⟨x,rfl,true,h⟩
theorem NN(a b c d:Int):kl 0 0 none (some [.int .i64 a,.int .i64 b,.int .i64 c,.int .i64 d])=some (.int .i64 a):=rfl
theorem sE(a b:Int):(dO [.int .i64 0,.int .i64 0] [(0,.int .i64 a),(1,.int .i64 b)]).map I.agg=some (.agg [.int .i64 a,.int .i64 b]):=by simp[dO,I.bS,I.size]
theorem GG(p:bA)(bR no:Int):aZ Tryz.prog 48 [enc p,enc bR,enc no] (.tuple [enc (jA p bR no).1,enc (jA p bR no).2]):=by
 refine aZ.b5 Tryz.func48 I4 J8 Lt (u8 rfl) (fun hwf W0 bG E1 =>?_);simp only[zB,Er,bI,zz1,Nat.reduceAdd];clear hwf;have hF:=np p;simp only[jA];cases ho:c7 p with
 |none =>
  rw[ho] at hF;simp only[iO] at hF;have R:=y6 @cg (y6 @bm (y6 @bU (y6 @bz (y6 @bu aC))))
  repeat' ((first |(with_reducible refine .guard (fun hb =>?_) (fun hb =>?_) <;>try simp only[hb])|refine ae.aE (by decide +kernel) rfl fun K hK =>?_|refine .lead _ (hF) ?_|(refine .av [0,1,2,3,6,7,8,9,15,19,29] hK ?_;clear hK K)|(with_reducible refine .done (hK _ ?_);clear hK K)|refine ae.of rfl ?_|(with_reducible refine ay.aD (fun h =>?_) (fun h =>?_) <;>try simp only[h])) <;>try simp only[aF,R,simprocAttr])
  all_goals clear R
 |some s =>
  rw[ho] at hF;simp only[iO] at hF;have hT:=lF bR;have hO:=uC no;rcases q2:cT 0 5 bR
  ·rw[q2] at hT;simp only[true_or,if_true];have R:=y6 @eb (y6 @cg (y6 @bm (y6 @bU (y6 @bz (y6 @bu aC)))))
   repeat' ((first |(with_reducible refine .guard (fun hb =>?_) (fun hb =>?_) <;>try simp only[hb])|refine ae.aE (by decide +kernel) rfl fun K hK =>?_|refine .lead _ (hF) ?_|refine .flat _ (hT) rfl ?_|(refine .av [0,1,2,3,6,7,8,9,15,19,29] hK ?_;clear hK K)|(with_reducible refine .done (hK _ ?_);clear hK K)|refine ae.of rfl ?_|(with_reducible refine ay.aD (fun h =>?_) (fun h =>?_) <;>try simp only[h])) <;>try simp only[aF,R,simprocAttr])
   all_goals clear R
  rw[q2] at hT;rcases q3:(bR==p.az)
  case true =>
   have e:bR=p.az:=by simpa using q3
   simp only[Bool.true_eq_false,false_or,if_pos e];have R:=y6 @q3 (y6 @eb (y6 @cg (y6 @bm (y6 @bU (y6 @bz (y6 @bu aC))))))
   repeat' ((first |(with_reducible refine .guard (fun hb =>?_) (fun hb =>?_) <;>try simp only[hb])|refine ae.aE (by decide +kernel) rfl fun K hK =>?_|refine .lead _ (hF) ?_|refine .flat _ (hT) rfl ?_|(refine .av [0,1,2,3,6,7,8,9,15,19,29] hK ?_;clear hK K)|(with_reducible refine .done (hK _ ?_);clear hK K)|refine ae.of rfl ?_|(with_reducible refine ay.aD (fun h =>?_) (fun h =>?_) <;>try simp only[h])) <;>try simp only[aF,R,simprocAttr])
   all_goals clear R
  have e:¬ bR=p.az:=by simpa using q3
  simp only[Bool.true_eq_false,false_or,if_neg e];rcases q4:cT 1 200 no
  ·rw[q4] at hO;simp only[if_true];have R:=y6 @q3 (y6 @eb (y6 @cg (y6 @bm (y6 @bU (y6 @bz (y6 @bu aC))))))
   repeat' ((first |(with_reducible refine .guard (fun hb =>?_) (fun hb =>?_) <;>try simp only[hb])|refine ae.aE (by decide +kernel) rfl fun K hK =>?_|refine .lead _ (hF) ?_|refine .flat _ (hT) rfl ?_|refine .flat _ (hO) rfl ?_|(refine .av [0,1,2,3,6,7,8,9,15,19,29] hK ?_;clear hK K)|(with_reducible refine .done (hK _ ?_);clear hK K)|refine ae.of rfl ?_|(with_reducible refine ay.aD (fun h =>?_) (fun h =>?_) <;>try simp only[h])) <;>try simp only[aF,R,simprocAttr])
   all_goals clear R
  rw[q4] at hO;simp only[Bool.true_eq_false,if_false];obtain ⟨x,hx,t,hlk⟩:=XJ s bR no;rw[←hx];have R:=y6 @q3 (y6 @hlk (y6 @NN (y6 @sE (y6 @eb (y6 @cg (y6 @bm (y6 @bU (y6 @bz (y6 @bu aC)))))))))
  repeat' ((first |(with_reducible refine .guard (fun hb =>?_) (fun hb =>?_) <;>try simp only[hb])|refine ae.aE (by decide +kernel) rfl fun K hK =>?_|refine .lead _ (hF) ?_|refine .flat _ (hT) rfl ?_|refine .flat _ (hO) rfl ?_|(refine .av [0,1,2,3,6,7,8,9,15,19,29] hK ?_;clear hK K)|(with_reducible refine .done (hK _ ?_);clear hK K)|refine ae.of rfl ?_|(with_reducible refine ay.aD (fun h =>?_) (fun h =>?_) <;>try simp only[h])) <;>try simp only[aF,R,simprocAttr])
  all_goals clear R
instance:Enc aG where
 enc s:=dB s
 sz:=1
 aX:=.one
 gI:=false
 done s:=by simp only[dB,I.done,AS]
 size _:=rfl
 iq _:=rfl
 agg _:=rfl
theorem M4(s:aG):(enc s:I)=dB s:=rfl
def h1(l:List bA)(i:Nat):bA:=l.getD i default
theorem xe{l:List bA}{i:Nat}(h:i<l.length):l[i]=h1 l i:=by simp[h1,zz0,h]
def iD(l:List bA)(i:Nat):Bool:=(c7 (h1 l i)).isSome&&(i==0||decide ((h1 l (i-1)).az<(h1 l i).az))
def sv(l:List bA):Bool:=(List.range l.length).all (iD l)
def nm(l:List bA):List aG:=l.filterMap c7
def j8(l:List bA)(b:Int):List aG×Int:=if sv l then (if cT 1 9999 b then (nm l,0) else ([],1)) else ([],96)
theorem De{p:bA}(h:(c7 p).isSome=true):0≤p.az∧p.az≤5:=by
 obtain ⟨s,ab⟩:=zy8.1 h;have h5:=(iN ab).2.2.2.2.1;simp only[iL,cT,t8,decide_eq_true_eq] at h5;exact h5.1
theorem W9{l:List bA}{n:Nat}(h:∀ j,j<n→iD l j=true):∀ j,j<n→(j:Int)≤(h1 l j).az:=by
 intro j
 induction j with
 |zero =>
  intro hj;have aY:=h 0 hj;simp only[iD,t8] at aY;exact (De aY.1).1
 |succ j ih =>
  intro hj;have J:=ih (by omega);have U:=h (j+1) hj;simp only[iD,t8,Bool.or_eq_true,beq_iff_eq,decide_eq_true_eq] at U;rcases U.2 with ah | ah
  ·omega
  ·have:j+1-1=j:=rfl;rw[this] at ah;omega
theorem Ca{l:List bA}{n:Nat}(h:∀ j,j<n→iD l j=true):n≤6:=by
 rcases Nat.lt_or_ge 6 n with hn | hn
 ·have J:=W9 h 6 hn;have U:=h 6 hn;simp only[iD,t8] at U;have:=(De U.1).2;omega
 ·exact hn
theorem aan{l:List bA}{i:Nat}(h:i<l.length):nm (l.take (i+1))=nm (l.take i)++(match c7 (h1 l i) with | some s=>[s] | none=>[]):=by
 rw[zy0 h,xe h];simp only[nm,List.filterMap_append,List.filterMap_cons,List.filterMap_nil];cases c7 (h1 l i) <;>rfl
theorem FQ(l:List bA):(nm l).length≤l.length:=List.length_filterMap_le _ _
theorem Bo{xs:List aG} : ki xs.length (some (.bW 80 1 (xs.map enc)))=some (enc xs):=o7 1 rfl rfl
def uK(l:List bA)(b:Int)(t:Nat×List aG):ai :=
 au [(0,enc l),(1,.int .i64 b),(6,.own 905 t.2.length),(11,enc l),(12,.int .i64 l.length),(13,.int .i64 t.1)] [(905,.bW 80 1 (t.2.map enc))]
theorem G9(l:List bA)(b:Int):aZ Tryz.prog 83 [enc l,enc b] (.tuple [enc (j8 l b).1,enc (j8 l b).2]):=by
 refine aZ.b5 Tryz.func83 Js Kv LS (u8 rfl) (fun hwf W0 bG E1 =>?_);simp only[zY,EP,bI,zz1];have hlen:l.length≤maxLen:=((mA l).1 hwf.1).1;simp only[maxLen] at hlen;clear hwf;have R:=y6 @cg (y6 @bm (y6 @bU (y6 @bz (y6 @bu aC))))
 repeat' ((first |(with_reducible refine .guard (fun hb =>?_) (fun hb =>?_) <;>try simp only[hb])|refine ae.aE (by decide +kernel) rfl fun K hK =>?_|(refine .av [0,1,4,5,6,7,8,9,10,11,12,13,14,39,47] hK ?_;clear hK K)|(with_reducible refine .done (hK _ ?_);clear hK K)|refine ae.of rfl ?_|(with_reducible refine ay.aD (fun h =>?_) (fun h =>?_) <;>try simp only[h])) <;>try simp only[aF,R,simprocAttr])
 all_goals clear R
 refine ae.loop (uK l b) (fun t=>t.1≤l.length∧(∀ j,j<t.1→iD l j=true)∧t.2=nm (l.take t.1)) (fun t=>l.length-t.1) (0,[]) ⟨zw2 _,by simp,rfl⟩ ?_ ?_
 ·refine bw.p9 6 905 80 1 1 rfl rfl ?_;simp only[uK];refine bw.dh ?_ ?_ ?_ ?_ <;>simp[cz,c6,cJ,cF,aw,cu,dE,I.only,I.cv,aq.only,cA]
  all_goals rfl
 rintro ⟨i,xs⟩ ⟨hi,hg,hxs⟩;simp only at hi hg hxs;have hi6:=Ca hg;have hxl:xs.length≤i:=by
  rw[hxs];refine zw9 (FQ _) ?_;rw[zx3];omega
 simp only[uK];by_cases hlt:i<l.length
 ·have hc:=ga hlt;have he:=fun A=>eM (A:=A) 3 hlt rfl;rw[xe hlt] at he;have hw:=fJ (i:=i) (by omega);have hF:=np (h1 l i);have hbad:iD l i=false→j8 l b=([],96):=fun h=>by
   have:sv l=false:=by
    simp only[sv,List.all_eq_false];exact ⟨i,zw5.2 hlt,by simp[h]⟩
   simp[j8,this]
  cases ho:c7 (h1 l i) with
  |none =>
   rw[ho] at hF;simp only[iO] at hF;rw[hbad (by simp[iD,ho])];have R:=y6 @hc (y6 @he (y6 @cg (y6 @bm (y6 @bU (y6 @bz (y6 @bu aC))))))
   repeat' ((first |(with_reducible refine .guard (fun hb =>?_) (fun hb =>?_) <;>try simp only[hb])|refine ae.aE (by decide +kernel) rfl fun K hK =>?_|refine .lead _ (hF) ?_|(refine .av [0,1,4,5,6,7,8,9,10,11,12,13,14,39,47] hK ?_;clear hK K)|(with_reducible refine .done (hK _ ?_);clear hK K)|refine ae.of rfl ?_|(with_reducible refine ay.aD (fun h =>?_) (fun h =>?_) <;>try simp only[h])) <;>try simp only[aF,R,simprocAttr])
   all_goals clear R
   rfl
  |some s =>
   rw[ho] at hF;simp only[iO] at hF;have hbs:fg 1 (some [dB s])=some (enc [s]):=iy 1 s rfl;have hap:=fun (A:ai) d rest=>oN (A:=A) (d:=d) 80 1 8 905 (l:=xs.length) (es:=xs) (ys:=[s]) (rest:=rest) rfl rfl (by simp) (by simp[maxLen];omega) (by simp;omega);have hst:nm (l.take (i+1))=xs++[s]:=by rw[aan hlt,ho,hxs]
   have hso:∀ p,(dB s).only p=true:=fun p=>kq p _ (oz s);by_cases aY:i=0
   ·have hz:decide ((i:Int)>0)=false:=by simp;omega
    have hgi:iD l i=true:=by simp only[iD,ho];simp[aY]
    have R:=y6 @hc (y6 @he (y6 @hz (y6 @hw (y6 @hbs (y6 @hap (y6 @cg (y6 @eb (y6 @bm (y6 @bU (y6 @bz (y6 @bu aC)))))))))))
    repeat' ((first |(with_reducible refine .guard (fun hb =>?_) (fun hb =>?_) <;>try simp only[hb])|refine ae.aE (by decide +kernel) rfl fun K hK =>?_|refine .lead _ (hF) ?_|(refine .av [0,1,4,5,6,7,8,9,10,11,12,13,14,39,47] hK ?_;clear hK K)|(with_reducible refine .done (hK _ ?_);clear hK K)|refine ae.of rfl ?_|(with_reducible refine ay.aD (fun h =>?_) (fun h =>?_) <;>try simp only[h])) <;>try simp only[aF,R,simprocAttr])
    all_goals clear R
    refine ⟨(i+1,xs++[s]),⟨by simp only;omega,fun j hj =>?_,hst.symm⟩,by simp only;omega,?_⟩
    ·by_cases e:j=i
     ·rw[e];exact hgi
     ·exact hg j (by simp only at hj;omega)
    ·simp only;clear hxs hst;refine bw.dh ?_ ?_ ?_ ?_ <;>simp[*,cz,c6,cJ,cF,aw,cu,dE,I.only,I.cv,aq.only,fR,nZ,cA]
   ·have hz:decide ((i:Int)>0)=true:=by simp;omega
    have hw1:IntKind.i64.wrap ((i:Int)-1)=((i-1:Nat):Int):=by rw[mB _ (by omega) (by omega)];omega
    have he1:∀ A,jS A 3 ((i-1:Nat):Int) (enc l)=some (.ref (enc (h1 l (i-1)))):=fun A=>by
     have hlt1:i-1<l.length:=by omega
     have:=eM (A:=A) 3 hlt1 rfl;rw[xe hlt1] at this;exact this
    rcases q:decide ((h1 l (i-1)).az≥(h1 l i).az)
    ·have hgi:iD l i=true:=by
      have:(h1 l (i-1)).az<(h1 l i).az:=by have:=of_decide_eq_false q;omega
      simp[iD,ho,this]
     have R:=y6 @hc (y6 @he (y6 @hz (y6 @hw1 (y6 @he1 (y6 @q (y6 @hw (y6 @hbs (y6 @hap (y6 @cg (y6 @eb (y6 @bm (y6 @bU (y6 @bz (y6 @bu aC))))))))))))))
     repeat' ((first |(with_reducible refine .guard (fun hb =>?_) (fun hb =>?_) <;>try simp only[hb])|refine ae.aE (by decide +kernel) rfl fun K hK =>?_|refine .lead _ (hF) ?_|(refine .av [0,1,4,5,6,7,8,9,10,11,12,13,14,39,47] hK ?_;clear hK K)|(with_reducible refine .done (hK _ ?_);clear hK K)|refine ae.of rfl ?_|(with_reducible refine ay.aD (fun h =>?_) (fun h =>?_) <;>try simp only[h])) <;>try simp only[aF,R,simprocAttr])
     all_goals clear R
     refine ⟨(i+1,xs++[s]),⟨by simp only;omega,fun j hj =>?_,hst.symm⟩,by simp only;omega,?_⟩
     ·by_cases e:j=i
      ·rw[e];exact hgi
      ·exact hg j (by simp only at hj;omega)
     ·simp only;clear hxs hst;refine bw.dh ?_ ?_ ?_ ?_ <;>simp[*,cz,c6,cJ,cF,aw,cu,dE,I.only,I.cv,aq.only,fR,nZ,cA]
    ·have hgi:iD l i=false:=by
      have:¬ (h1 l (i-1)).az<(h1 l i).az:=by have:=of_decide_eq_true q;omega
      simp[iD,this,aY]
     rw[hbad hgi];have R:=y6 @hc (y6 @he (y6 @hz (y6 @hw1 (y6 @he1 (y6 @q (y6 @hw (y6 @hbs (y6 @hap (y6 @cg (y6 @eb (y6 @bm (y6 @bU (y6 @bz (y6 @bu aC))))))))))))))
     repeat' ((first |(with_reducible refine .guard (fun hb =>?_) (fun hb =>?_) <;>try simp only[hb])|refine ae.aE (by decide +kernel) rfl fun K hK =>?_|refine .lead _ (hF) ?_|(refine .av [0,1,4,5,6,7,8,9,10,11,12,13,14,39,47] hK ?_;clear hK K)|(with_reducible refine .done (hK _ ?_);clear hK K)|refine ae.of rfl ?_|(with_reducible refine ay.aD (fun h =>?_) (fun h =>?_) <;>try simp only[h])) <;>try simp only[aF,R,simprocAttr])
     all_goals clear R
     rfl
 ·have hge:i=l.length:=by omega
  have hc:=gp hlt;have hx2:xs=nm l:=by rw[hxs,hge,zv0]
  have hgood:sv l=true:=zx0.2 fun j hj=>hg j (by have:=zw5.1 hj;omega);have hB:=oI b;simp only[j8,hgood,if_true,←hx2];rw[hge];rw[hge] at hc;rcases q:cT 1 9999 b
  ·rw[q] at hB;have R:=y6 @hc (y6 @Bo (y6 @cg (y6 @bm (y6 @bU (y6 @bz (y6 @bu aC))))))
   repeat' ((first |(with_reducible refine .guard (fun hb =>?_) (fun hb =>?_) <;>try simp only[hb])|refine ae.aE (by decide +kernel) rfl fun K hK =>?_|refine .flat _ (hB) rfl ?_|(refine .av [0,1,4,5,6,7,8,9,10,11,12,13,14,39,47] hK ?_;clear hK K)|(with_reducible refine .done (hK _ ?_);clear hK K)|refine ae.of rfl ?_|(with_reducible refine ay.aD (fun h =>?_) (fun h =>?_) <;>try simp only[h])) <;>try simp only[aF,R,simprocAttr])
   all_goals clear R
   rfl
  ·rw[q] at hB;have R:=y6 @hc (y6 @Bo (y6 @cg (y6 @bm (y6 @bU (y6 @bz (y6 @bu aC))))))
   repeat' ((first |(with_reducible refine .guard (fun hb =>?_) (fun hb =>?_) <;>try simp only[hb])|refine ae.aE (by decide +kernel) rfl fun K hK =>?_|refine .flat _ (hB) rfl ?_|(refine .av [0,1,4,5,6,7,8,9,10,11,12,13,14,39,47] hK ?_;clear hK K)|(with_reducible refine .done (hK _ ?_);clear hK K)|refine ae.of rfl ?_|(with_reducible refine ay.aD (fun h =>?_) (fun h =>?_) <;>try simp only[h])) <;>try simp only[aF,R,simprocAttr])
   all_goals clear R
def uk(l:List bA)(b:Int):List Int×Int:=(((j8 l b).1.filter fun s=>decide (b∈s.here)).map (·.az),(j8 l b).2)
theorem Hw(l:List bA)(b:Int):(j8 l b).1.length≤6:=by
 simp only[j8];split
 ·rename_i hg;split
  ·have J:=Ca (l:=l) (n:=l.length) fun j hj=>zx0.1 hg j (zw5.2 hj);exact zw9 (FQ l) J
  ·simp
 ·simp
def pY(all:List aG)(b:Int):List Int:=(all.filter fun s=>decide (b∈s.here)).map (·.az)
theorem aaD(all:List aG)(b:Int){i:Nat}(h:i<all.length):pY (all.take (i+1)) b=pY (all.take i) b++if b∈all[i].here then [all[i].az] else []:=by
 rw[zy0 h];simp only[pY,List.filter_append,zy5,zw0,List.filter_nil,decide_eq_true_eq]
 congr 1
 split <;>rfl
def uG(all:List aG)(e b:Int)(t:Nat×List Int):ai :=
 au [(1,.int .i64 b),(7,.int .i64 e),(8,.own 905 t.2.length),(17,enc all),(18,.int .i64 all.length),(19,.int .i64 t.1)] [(905,.bW 3 1 (t.2.map enc))]
theorem Bm{xs:List Int} : ki xs.length (some (.bW 3 1 (xs.map enc)))=some (enc xs):=o7 1 rfl rfl
theorem GA(l:List bA)(b:Int):aZ Tryz.prog 37 [enc l,enc b] (.tuple [enc (uk l b).1,enc (uk l b).2]):=by
 refine aZ.b5 Tryz.func37 IX J1 Lm (u8 rfl) (fun hwf W0 bG E1 =>?_);simp only[zr,Ej,bI,zz1];clear hwf;have hF:=G9 l b;have hal:=Hw l b;simp only[uk];generalize (j8 l b).1=all at *;generalize (j8 l b).2=e at *;have R:=y6 @cg (y6 @bm (y6 @bU (y6 @bz (y6 @bu aC))))
 repeat' ((first |refine ae.aE (by decide +kernel) rfl fun K hK =>?_|refine .lead _ (hF) ?_|(refine .av [0,1,4,5,6,7,8,10,17,18,19,20,28] hK ?_;clear hK K)|(with_reducible refine .done (hK _ ?_);clear hK K)|refine ae.of rfl ?_|(with_reducible refine ay.aD (fun h =>?_) (fun h =>?_) <;>try simp only[h])) <;>try simp only[aF,R,simprocAttr])
 all_goals clear R
 refine ae.loop (uG all e b) (fun t=>t.1≤all.length∧t.2=pY (all.take t.1) b) (fun t=>all.length-t.1) (0,[]) ⟨zw2 _,rfl⟩ ?_ ?_
 ·refine bw.p9 8 905 3 1 1 rfl rfl ?_;simp only[uG];refine bw.dh ?_ ?_ ?_ ?_ <;>simp[cz,c6,cJ,cF,aw,cu,dE,I.only,I.cv,aq.only,cA]
  all_goals rfl
 rintro ⟨i,xs⟩ ⟨hi,hxs⟩;simp only at hi hxs;have hxl:xs.length≤i:=by
  rw[hxs,pY,zz8];refine zw9 (List.length_filter_le _ _) ?_;rw[zx3];omega
 simp only[uG];by_cases hlt:i<all.length
 ·have hc:=ga hlt;have he:=fun A=>eM (A:=A) 1 hlt rfl;have hw:=fJ (i:=i) (by omega);have hsn:=aaD all b hlt;rw[←hxs] at hsn;obtain ⟨s,ab⟩:∃ s,s=all[i]:=⟨_,rfl⟩
  rw[←ab] at he hsn;simp only[M4] at he;have hlk:=gu eQ b s.here;rw[eG] at hlk;have hbs:fg 1 (some [.int .i64 s.az])=some (enc [s.az]):=iy 1 s.az rfl;have hap:=fun (A:ai) d rest=>oN (A:=A) (d:=d) 3 1 8 905 (l:=xs.length) (es:=xs) (ys:=[s.az]) (rest:=rest) rfl rfl (by simp) (by simp[maxLen];omega) (by simp;omega);rcases q:decide (b∈s.here)
  ·have bM:b∉s.here:=of_decide_eq_false q;rw[if_neg bM,zv2] at hsn;have R:=y6 @hc (y6 @he (y6 @hw (y6 @hlk (y6 @q (y6 @eb (y6 @cg (y6 @bm (y6 @bU (y6 @bz (y6 @bu aC))))))))))
   repeat' ((first |refine ae.aE (by decide +kernel) rfl fun K hK =>?_|(refine .av [0,1,4,5,6,7,8,10,17,18,19,20,28] hK ?_;clear hK K)|(with_reducible refine .done (hK _ ?_);clear hK K)|refine ae.of rfl ?_|(with_reducible refine ay.aD (fun h =>?_) (fun h =>?_) <;>try simp only[h])) <;>try simp only[aF,R,simprocAttr])
   all_goals clear R
   refine ⟨(i+1,xs),⟨by simp only;omega,hsn.symm⟩,by simp only;omega,?_⟩;simp only;clear hxs hsn;refine bw.dh ?_ ?_ ?_ ?_ <;>simp[cz,c6,cJ,cF,aw,cu,dE,I.only,aq.only,fR,cA]
  ·have bM:b∈s.here:=of_decide_eq_true q;rw[if_pos bM] at hsn;have R:=y6 @hc (y6 @he (y6 @hw (y6 @hlk (y6 @q (y6 @hbs (y6 @hap (y6 @eb (y6 @cg (y6 @bm (y6 @bU (y6 @bz (y6 @bu aC))))))))))))
   repeat' ((first |refine ae.aE (by decide +kernel) rfl fun K hK =>?_|(refine .av [0,1,4,5,6,7,8,10,17,18,19,20,28] hK ?_;clear hK K)|(with_reducible refine .done (hK _ ?_);clear hK K)|refine ae.of rfl ?_|(with_reducible refine ay.aD (fun h =>?_) (fun h =>?_) <;>try simp only[h])) <;>try simp only[aF,R,simprocAttr])
   all_goals clear R
   refine ⟨(i+1,xs++[s.az]),⟨by simp only;omega,hsn.symm⟩,by simp only;omega,?_⟩;simp only;clear hxs hsn;refine bw.dh ?_ ?_ ?_ ?_ <;>simp[cz,c6,cJ,cF,aw,cu,dE,I.only,I.cv,aq.only,fR,nZ,cA,eG]
 ·have hge:i=all.length:=by omega
  have hc:=gp hlt;have hx2:xs=pY all b:=by rw[hxs,hge,zv0]
  rw[show ((all.filter fun s=>decide (b∈s.here)).map (·.az))=xs from hx2.symm];have R:=y6 @hc (y6 @Bm (y6 @cg (y6 @bm (y6 @bU (y6 @bz (y6 @bu aC))))))
  repeat' ((first |refine ae.aE (by decide +kernel) rfl fun K hK =>?_|(refine .av [0,1,4,5,6,7,8,10,17,18,19,20,28] hK ?_;clear hK K)|(with_reducible refine .done (hK _ ?_);clear hK K)|refine ae.of rfl ?_|(with_reducible refine ay.aD (fun h =>?_) (fun h =>?_) <;>try simp only[h])) <;>try simp only[aF,R,simprocAttr])
  all_goals clear R
structure gx where
 kind:Int
 bR:Int
 no:Int
 aH:Int
 deriving DecidableEq,Inhabited
instance:Enc gx where
 enc g:=.agg [.int .i64 g.kind,.int .i64 g.bR,.int .i64 g.no,.int .i64 g.aH]
 sz:=4
 aX:=.eE [.one,.one,.one,.one]
 gI:=true
 done g:=by simp only[I.done,I.fZ,Bool.and_self]
 size g:=by simp only[I.size,I.sizes]
 iq g:=by simp only[I.aX,I.cQ]
 agg _:=rfl
structure cm where
 az:Int
 here:List Int
 dA:Int
 bD:List cZ
 bo:List gx
 deriving Inhabited
def gD(a:Int)(h:I)(s:Int)(r e:I):I:=.agg [.int .i64 a,h,.int .i64 s,r,e]
instance:Enc cm where
 enc g:=gD g.az (enc g.here) g.dA (enc g.bD) (enc g.bo)
 sz:=5
 aX:=.eE [.one,.one,.one,.one,.one]
 gI:=true
 done g:=by simp only[gD,I.done,I.fZ,Enc.done,Bool.and_self]
 size g:=by simp only[gD,I.size,I.sizes,jQ,jy]
 iq g:=by simp only[gD,I.aX,I.cQ,eC,nF]
 agg _:=rfl
theorem cG:(∀ g:cm,(enc g).dH=some [.int .i64 g.az,enc g.here,.int .i64 g.dA,enc g.bD,enc g.bo])∧(∀ a h s r e,(gD a h s r e).dH=some [.int .i64 a,h,.int .i64 s,r,e])∧(∀ g:gx,(enc g).dH=some [.int .i64 g.kind,.int .i64 g.bR,.int .i64 g.no,.int .i64 g.aH]) ∧
  (∀ g:cm,b8 (some 5) (enc g)=true)∧(∀ g:gx,b8 (some 4) (enc g)=true)∧(∀ g:List Int,b8 none (enc g)=true)∧(∀ g:List cZ,b8 none (enc g)=true)∧(∀ g:List gx,b8 none (enc g)=true) ∧
  (∀ (a b:Int) (h:List Int) (r:List cZ) (e:List gx) v,db [.int .i64 a,enc h,.int .i64 b,enc r,enc e] 0 0 v=some v)∧(∀ (a b:Int) (h:List Int) (r:List cZ) (e:List gx) v,db [.int .i64 a,enc h,.int .i64 b,enc r,enc e] 1 1 v=some v)∧(∀ (a b:Int) (h:List Int) (r:List cZ) (e:List gx) v,db [.int .i64 a,enc h,.int .i64 b,enc r,enc e] 2 2 v=some v) ∧
  (∀ (a b:Int) (h:List Int) (r:List cZ) (e:List gx) v,db [.int .i64 a,enc h,.int .i64 b,enc r,enc e] 3 3 v=some v)∧(∀ (a b:Int) (h:List Int) (r:List cZ) (e:List gx) v,db [.int .i64 a,enc h,.int .i64 b,enc r,enc e] 4 4 v=some v) ∧
  (∀ A n b rest (q:cm) x y,dk A (some 5) n [] b (enc q) rest (some (.agg [.int .i64 x,.nils 1,.int .i64 y,.nils 4,.nils 4]))=aB rest (A.aT n (.box (enc q))))∧(∀ A n b rest (q r:cm),dk A (some 5) n [] b (enc q) rest (some (enc r))=aB rest (A.aT n (.box (enc q)))) ∧
  (∀ A n b rest (q:cZ) x y z w,dk A (some 4) n [] b (enc q) rest (some (.agg [.int .i64 x,.int .i64 y,.int .i64 z,.bool w]))=aB rest (A.aT n (.box (enc q))))∧(∀ A n b rest (q:gx) x y z w,dk A (some 4) n [] b (enc q) rest (some (.agg [.int .i64 x,.int .i64 y,.int .i64 z,.int .i64 w]))=aB rest (A.aT n (.box (enc q)))) ∧
  (∀ (A:ai) n (q:cm) (l k:List Int) rest,dk A none n [1] (enc q) (enc l) rest (some (enc k))=aB rest (A.aT n (.box (enc ({ q with here:=l } : cm)))))∧(∀ (A:ai) n (q:cm) (v u:Int) rest,dk A none n [2] (enc q) (.int .i64 v) rest (some (.int .i64 u))=aB rest (A.aT n (.box (enc ({ q with dA:=v } : cm))))) :=
 ⟨fun _=>rfl,fun _ _ _ _ _=>rfl,fun _=>rfl,fun _=>by rw[e7];rfl,fun _=>by rw[e7];rfl,fun _=>by simp[kg,ke],fun _=>by simp[kg,ke],fun _=>by simp[kg,ke],
  fun _ _ _ _ _ _=>iK (by simp) rfl,fun _ _ _ _ _ _=>iK (by simp) rfl,fun _ _ _ _ _ _=>iK (by simp) (by simp[I.sizes,I.size,jQ,jy]),fun _ _ _ _ _ _=>iK (by simp) (by simp[I.sizes,I.size,jQ,jy]),fun _ _ _ _ _ _=>iK (by simp) (by simp[I.sizes,I.size,jQ,jy]),
  fun A n b rest q x y=>dK (eg _) (by rw[e7];rfl) (eC _),fun A n b rest q r=>dK (eg _) (by rw[e7];rfl) ((eC _).trans (eC _).symm),fun A n b rest q x y z w=>dK (eg _) (by rw[e7];rfl) (eC _),fun A n b rest q x y z w=>dK (eg _) (by rw[e7];rfl) (eC _),
  fun A n q l k rest=>dK (eg _) (by simp[kg,ke]) rfl,fun A n q v u rest=>dK rfl rfl rfl⟩
theorem G4(l:List Int)(n:Int):aZ Tryz.prog 78 [enc l,enc n] (enc (decide (n∈l))):=by
 refine aZ.b5 Tryz.func78 Jn Kr LN (u8 rfl) (fun hwf W0 bG E1 =>?_);simp only[zU,EL,bI,zz1];have hlen:l.length≤maxLen:=((mA l).1 hwf.1).1;simp only[maxLen] at hlen;clear hwf;have R:=y6 @bm aC
 repeat' ((first |refine ae.aE (by decide +kernel) rfl fun K hK =>?_|(refine .av [0,1,4,6,7,8,9,10,15] hK ?_;clear hK K)|(with_reducible refine .done (hK _ ?_);clear hK K)|refine ae.of rfl ?_|(with_reducible refine ay.aD (fun h =>?_) (fun h =>?_) <;>try simp only[h])) <;>try simp only[aF,R,simprocAttr])
 all_goals clear R
 refine ae.loop (fun i:Nat=>au [(1,.int .i64 n),(7,enc l),(8,.int .i64 l.length),(9,.int .i64 i)] []) (fun i=>i≤l.length∧n∉l.take i) (fun i=>l.length-i) 0 ⟨zw2 _,by simp⟩ ?_ (fun i hi =>?_)
 ·refine bw.dh ?_ ?_ ?_ ?_ <;>simp[cz,c6,cJ,cF,cu,I.only,cA]
 obtain ⟨hi1,hi2⟩:=hi;by_cases hlt:i<l.length
 ·have hc:=ga hlt;have he:=fun A=>eM (A:=A) 1 hlt rfl;have hw:=fJ (i:=i) (by omega);rcases hp:(l[i]==n)
  ·have R:=y6 @hc (y6 @he (y6 @hp (y6 @hw aC)))
   repeat' ((first |refine ae.aE (by decide +kernel) rfl fun K hK =>?_|(refine .av [0,1,4,6,7,8,9,10,15] hK ?_;clear hK K)|(with_reducible refine .done (hK _ ?_);clear hK K)|refine ae.of rfl ?_|(with_reducible refine ay.aD (fun h =>?_) (fun h =>?_) <;>try simp only[h])) <;>try simp only[aF,R,simprocAttr])
   all_goals clear R
   refine ⟨i+1,⟨by omega,?_⟩,by omega,?_⟩
   ·rw[zy0 hlt];have:¬ l[i]=n:=by simpa using hp
    simp only[zx7,zx5];exact fun h=>h.elim hi2 fun e=>this e.symm
   ·refine bw.dh ?_ ?_ ?_ ?_ <;>simp[cz,c6,cJ,cF,cu,I.only,cA]
  ·have hm:n∈l:=by
    have:l[i]=n:=by simpa using hp
    rw[←this];exact List.getElem_mem hlt
   have R:=y6 @hc (y6 @he (y6 @hp aC))
   repeat' ((first |refine ae.aE (by decide +kernel) rfl fun K hK =>?_|(refine .av [0,1,4,6,7,8,9,10,15] hK ?_;clear hK K)|(with_reducible refine .done (hK _ ?_);clear hK K)|refine ae.of rfl ?_|(with_reducible refine ay.aD (fun h =>?_) (fun h =>?_) <;>try simp only[h])) <;>try simp only[aF,R,simprocAttr])
   all_goals clear R
   simp[hm]
 ·have hc:=gp hlt;have hge:i=l.length:=by omega
  have R:=y6 @hc aC
  repeat' ((first |refine ae.aE (by decide +kernel) rfl fun K hK =>?_|(refine .av [0,1,4,6,7,8,9,10,15] hK ?_;clear hK K)|(with_reducible refine .done (hK _ ?_);clear hK K)|refine ae.of rfl ?_|(with_reducible refine ay.aD (fun h =>?_) (fun h =>?_) <;>try simp only[h])) <;>try simp only[aF,R,simprocAttr])
  all_goals clear R
  rw[hge,zv0] at hi2;simp[hi2]
def iv(s:cm)(b:Int):Bool:=s.bD.any fun r=>decide (r.aH=b)
theorem uw(s:cm)(b:Int)(hlen:s.bD.length≤1000):aZ Tryz.prog 108 [enc s,enc b] (enc (iv s b)):=by
 refine aZ.b5 Tryz.func108 IC JI KU (u8 rfl) (fun hwf W0 bG E1 =>?_);simp only[y8,DM,bI,zz1];clear hwf;have R:=y6 @cG (y6 @bm aC)
 repeat' ((first |refine ae.aE (by decide +kernel) rfl fun K hK =>?_|(refine .av [0,1,2,4,6,8,9,10,11,17] hK ?_;clear hK K)|(with_reducible refine .done (hK _ ?_);clear hK K)|refine ae.of rfl ?_|(with_reducible refine ay.aD (fun h =>?_) (fun h =>?_) <;>try simp only[h])) <;>try simp only[aF,R,simprocAttr])
 all_goals clear R
 refine ae.loop (fun i:Nat=>au [(1,.int .i64 b),(2,.ptr 2 []),(8,enc s.bD),(9,.int .i64 s.bD.length),(10,.int .i64 i)] [(2,.box (enc s))]) (fun i=>i≤s.bD.length∧((s.bD.take i).any fun r=>decide (r.aH=b))=false) (fun i=>s.bD.length-i) 0 ⟨zw2 _,by simp⟩ ?_ (fun i hi =>?_)
 ·refine bw.dh ?_ ?_ ?_ ?_ <;>simp[cz,c6,cJ,cF,aw,cu,dE,I.only,aq.only,cA]
 obtain ⟨hi1,hi2⟩:=hi;by_cases hlt:i<s.bD.length
 ·have hc:=ga hlt;have he:=fun A=>eM (A:=A) 4 hlt rfl;have hw:=fJ (i:=i) (by omega);rcases hp:((s.bD[i]).aH==b)
  ·have R:=y6 @hc (y6 @he (y6 @hp (y6 @hw (y6 @cG aC))))
   repeat' ((first |refine ae.aE (by decide +kernel) rfl fun K hK =>?_|(refine .av [0,1,2,4,6,8,9,10,11,17] hK ?_;clear hK K)|(with_reducible refine .done (hK _ ?_);clear hK K)|refine ae.of rfl ?_|(with_reducible refine ay.aD (fun h =>?_) (fun h =>?_) <;>try simp only[h])) <;>try simp only[aF,R,simprocAttr])
   all_goals clear R
   refine ⟨i+1,⟨by omega,?_⟩,by omega,?_⟩
   ·rw[zy0 hlt,List.any_append,hi2];have:¬ (s.bD[i]).aH=b:=by simpa using hp
    simp[this]
   ·refine bw.dh ?_ ?_ ?_ ?_ <;>simp[cz,c6,cJ,cF,aw,cu,dE,I.only,aq.only,cA]
  ·have hm:iv s b=true:=by
    have:(s.bD[i]).aH=b:=by simpa using hp
    simp only[iv,List.any_eq_true];exact ⟨s.bD[i],List.getElem_mem hlt,by simp[this]⟩
   rw[hm];have R:=y6 @hc (y6 @he (y6 @hp (y6 @cG aC)))
   repeat' ((first |refine ae.aE (by decide +kernel) rfl fun K hK =>?_|(refine .av [0,1,2,4,6,8,9,10,11,17] hK ?_;clear hK K)|(with_reducible refine .done (hK _ ?_);clear hK K)|refine ae.of rfl ?_|(with_reducible refine ay.aD (fun h =>?_) (fun h =>?_) <;>try simp only[h])) <;>try simp only[aF,R,simprocAttr])
   all_goals clear R
 ·have hc:=gp hlt;have hge:i=s.bD.length:=by omega
  rw[hge,zv0] at hi2;rw[show iv s b=false from hi2];have R:=y6 @hc (y6 @cG aC)
  repeat' ((first |refine ae.aE (by decide +kernel) rfl fun K hK =>?_|(refine .av [0,1,2,4,6,8,9,10,11,17] hK ?_;clear hK K)|(with_reducible refine .done (hK _ ?_);clear hK K)|refine ae.of rfl ?_|(with_reducible refine ay.aD (fun h =>?_) (fun h =>?_) <;>try simp only[h])) <;>try simp only[aF,R,simprocAttr])
  all_goals clear R
def jF(s:cm)(no:Int):Option Nat:=s.bD.findIdx? fun r=>decide (r.no=no)
def kv(s:cm)(no:Int):Int:=match jF s no with
 |some i=>(i:Int)
 |none=>-1
theorem G5(s:cm)(no:Int)(hlen:s.bD.length≤1000):aZ Tryz.prog 79 [enc s,enc no] (enc (kv s no)):=by
 refine aZ.b5 Tryz.func79 Jo Ks LO (u8 rfl) (fun hwf W0 bG E1 =>?_);simp only[zV,EM,bI,zz1];clear hwf;have R:=y6 @cG (y6 @bm aC)
 repeat' ((first |refine ae.aE (by decide +kernel) rfl fun K hK =>?_|(refine .av [0,1,2,4,5,6,8,9,10,11,18] hK ?_;clear hK K)|(with_reducible refine .done (hK _ ?_);clear hK K)|refine ae.of rfl ?_|(with_reducible refine ay.aD (fun h =>?_) (fun h =>?_) <;>try simp only[h])) <;>try simp only[aF,R,simprocAttr])
 all_goals clear R
 refine ae.loop (fun i:Nat=>au [(1,.int .i64 no),(2,.ptr 2 []),(8,enc s.bD),(9,.int .i64 s.bD.length),(10,.int .i64 i)] [(2,.box (enc s))]) (fun i=>i≤s.bD.length∧∀ k,k<i→∀ h:k<s.bD.length,(s.bD[k]).no≠no) (fun i=>s.bD.length-i) 0 ⟨zw2 _,fun k h=>by omega⟩ ?_ (fun i hi =>?_)
 ·refine bw.dh ?_ ?_ ?_ ?_ <;>simp[cz,c6,cJ,cF,aw,cu,dE,I.only,aq.only,cA]
 obtain ⟨hi1,hi2⟩:=hi;by_cases hlt:i<s.bD.length
 ·have hc:=ga hlt;have he:=fun A=>eM (A:=A) 4 hlt rfl;have hw:=fJ (i:=i) (by omega);rcases hp:((s.bD[i]).no==no)
  ·have R:=y6 @hc (y6 @he (y6 @hp (y6 @hw (y6 @cG aC))))
   repeat' ((first |refine ae.aE (by decide +kernel) rfl fun K hK =>?_|(refine .av [0,1,2,4,5,6,8,9,10,11,18] hK ?_;clear hK K)|(with_reducible refine .done (hK _ ?_);clear hK K)|refine ae.of rfl ?_|(with_reducible refine ay.aD (fun h =>?_) (fun h =>?_) <;>try simp only[h])) <;>try simp only[aF,R,simprocAttr])
   all_goals clear R
   refine ⟨i+1,⟨by omega,fun k hk h =>?_⟩,by omega,?_⟩
   ·by_cases e:k=i
    ·subst e;simpa using hp
    ·exact hi2 k (by omega) h
   ·refine bw.dh ?_ ?_ ?_ ?_ <;>simp[cz,c6,cJ,cF,aw,cu,dE,I.only,aq.only,cA]
  ·have hm:jF s no=some i:=by
    refine List.findIdx?_eq_some_iff_getElem.2 ⟨hlt,by simpa using hp,fun j hj =>?_⟩;simpa using hi2 j hj (by omega)
   rw[show kv s no=(i:Int) by simp[kv,hm]];have R:=y6 @hc (y6 @he (y6 @hp (y6 @cG aC)))
   repeat' ((first |refine ae.aE (by decide +kernel) rfl fun K hK =>?_|(refine .av [0,1,2,4,5,6,8,9,10,11,18] hK ?_;clear hK K)|(with_reducible refine .done (hK _ ?_);clear hK K)|refine ae.of rfl ?_|(with_reducible refine ay.aD (fun h =>?_) (fun h =>?_) <;>try simp only[h])) <;>try simp only[aF,R,simprocAttr])
   all_goals clear R
 ·have hc:=gp hlt;have hm:jF s no=none:=by
   refine List.findIdx?_eq_none_iff.2 fun x hx =>?_;obtain ⟨k,hk,rfl⟩:=List.mem_iff_getElem.1 hx;simpa using hi2 k (by omega) hk
  rw[show kv s no=-1 by simp[kv,hm]];have R:=y6 @hc (y6 @cG aC)
  repeat' ((first |refine ae.aE (by decide +kernel) rfl fun K hK =>?_|(refine .av [0,1,2,4,5,6,8,9,10,11,18] hK ?_;clear hK K)|(with_reducible refine .done (hK _ ?_);clear hK K)|refine ae.of rfl ?_|(with_reducible refine ay.aD (fun h =>?_) (fun h =>?_) <;>try simp only[h])) <;>try simp only[aF,R,simprocAttr])
  all_goals clear R
def gW(s:cm)(bR no:Int):Int:=match s.bo.find? fun x=>decide (x.bR=bR∧x.no=no) with
 |some x=>x.kind
 |none=>0
theorem uB(s:cm)(bR no:Int)(hlen:s.bo.length≤1000):aZ Tryz.prog 88 [enc s,enc bR,enc no] (enc (gW s bR no)):=by
 refine aZ.b5 Tryz.func88 Ju Ky LV (u8 rfl) (fun hwf W0 bG E1 =>?_);simp only[z7,ES,bI,zz1,Nat.reduceAdd];clear hwf;have R:=y6 @cG (y6 @bm aC)
 repeat' ((first |(with_reducible refine .guard (fun hb =>?_) (fun hb =>?_) <;>try simp only[hb])|refine ae.aE (by decide +kernel) rfl fun K hK =>?_|(refine .av [0,1,2,3,6,8,10,11,12,13,25] hK ?_;clear hK K)|(with_reducible refine .done (hK _ ?_);clear hK K)|refine ae.of rfl ?_|(with_reducible refine ay.aD (fun h =>?_) (fun h =>?_) <;>try simp only[h])) <;>try simp only[aF,R,simprocAttr])
 all_goals clear R
 refine ae.loop (fun i:Nat=>au [(1,.int .i64 bR),(2,.int .i64 no),(3,.ptr 3 []),(10,enc s.bo),(11,.int .i64 s.bo.length),(12,.int .i64 i)] [(3,.box (enc s))]) (fun i=>i≤s.bo.length∧((s.bo.take i).find? fun x=>decide (x.bR=bR∧x.no=no))=none) (fun i=>s.bo.length-i) 0 ⟨zw2 _,by simp⟩ ?_ (fun i hi =>?_)
 ·refine bw.dh ?_ ?_ ?_ ?_ <;>simp[cz,c6,cJ,cF,aw,cu,dE,I.only,aq.only,cA]
 obtain ⟨hi1,hi2⟩:=hi;by_cases hlt:i<s.bo.length
 ·have hc:=ga hlt;have he:=fun A=>eM (A:=A) 4 hlt rfl;have hw:=fJ (i:=i) (by omega);have hst:(s.bo.take (i+1)).find? (fun x=>decide (x.bR=bR∧x.no=no))=if (s.bo[i]).bR=bR∧(s.bo[i]).no=no then some s.bo[i] else none:=by
   rw[zy0 hlt,List.find?_append,hi2];simp only[Option.none_or,List.find?_cons,List.find?_nil];by_cases h:(s.bo[i]).bR=bR∧(s.bo[i]).no=no
   ·simp[h]
   ·rw[decide_eq_false h,if_neg h]
  rcases hp:((s.bo[i]).bR==bR)
  ·have J:¬ (s.bo[i]).bR=bR:=by simpa using hp
   rw[if_neg (fun h=>J h.1)] at hst;have R:=y6 @hc (y6 @he (y6 @hp (y6 @hw (y6 @cG aC))))
   repeat' ((first |(with_reducible refine .guard (fun hb =>?_) (fun hb =>?_) <;>try simp only[hb])|refine ae.aE (by decide +kernel) rfl fun K hK =>?_|(refine .av [0,1,2,3,6,8,10,11,12,13,25] hK ?_;clear hK K)|(with_reducible refine .done (hK _ ?_);clear hK K)|refine ae.of rfl ?_|(with_reducible refine ay.aD (fun h =>?_) (fun h =>?_) <;>try simp only[h])) <;>try simp only[aF,R,simprocAttr])
   all_goals clear R
   refine ⟨i+1,⟨by omega,hst⟩,by omega,?_⟩;refine bw.dh ?_ ?_ ?_ ?_ <;>simp[cz,c6,cJ,cF,aw,cu,dE,I.only,aq.only,cA]
  ·have J:(s.bo[i]).bR=bR:=by simpa using hp
   rcases hp2:((s.bo[i]).no==no)
   ·have U:¬ (s.bo[i]).no=no:=by simpa using hp2
    rw[if_neg (fun h=>U h.2)] at hst;have R:=y6 @hc (y6 @he (y6 @hp (y6 @hp2 (y6 @hw (y6 @cG aC)))))
    repeat' ((first |(with_reducible refine .guard (fun hb =>?_) (fun hb =>?_) <;>try simp only[hb])|refine ae.aE (by decide +kernel) rfl fun K hK =>?_|(refine .av [0,1,2,3,6,8,10,11,12,13,25] hK ?_;clear hK K)|(with_reducible refine .done (hK _ ?_);clear hK K)|refine ae.of rfl ?_|(with_reducible refine ay.aD (fun h =>?_) (fun h =>?_) <;>try simp only[h])) <;>try simp only[aF,R,simprocAttr])
    all_goals clear R
    refine ⟨i+1,⟨by omega,hst⟩,by omega,?_⟩;refine bw.dh ?_ ?_ ?_ ?_ <;>simp[cz,c6,cJ,cF,aw,cu,dE,I.only,aq.only,cA]
   ·have U:(s.bo[i]).no=no:=by simpa using hp2
    rw[if_pos ⟨J,U⟩] at hst;have hk:gW s bR no=(s.bo[i]).kind:=by
     have:s.bo.find? (fun x=>decide (x.bR=bR∧x.no=no))=some s.bo[i]:=by
      have e:=congrArg (List.find? fun x=>decide (x.bR=bR∧x.no=no)) (List.take_append_drop (i+1) s.bo);rw[List.find?_append,hst,Option.some_or] at e;exact e.symm
     simp only[gW,this]
    rw[hk];have R:=y6 @hc (y6 @he (y6 @hp (y6 @hp2 (y6 @cG aC))))
    repeat' ((first |(with_reducible refine .guard (fun hb =>?_) (fun hb =>?_) <;>try simp only[hb])|refine ae.aE (by decide +kernel) rfl fun K hK =>?_|(refine .av [0,1,2,3,6,8,10,11,12,13,25] hK ?_;clear hK K)|(with_reducible refine .done (hK _ ?_);clear hK K)|refine ae.of rfl ?_|(with_reducible refine ay.aD (fun h =>?_) (fun h =>?_) <;>try simp only[h])) <;>try simp only[aF,R,simprocAttr])
    all_goals clear R
 ·have hc:=gp hlt;have hge:i=s.bo.length:=by omega
  rw[hge,zv0] at hi2;rw[show gW s bR no=0 by simp only[gW,hi2]];have R:=y6 @hc (y6 @cG aC)
  repeat' ((first |(with_reducible refine .guard (fun hb =>?_) (fun hb =>?_) <;>try simp only[hb])|refine ae.aE (by decide +kernel) rfl fun K hK =>?_|(refine .av [0,1,2,3,6,8,10,11,12,13,25] hK ?_;clear hK K)|(with_reducible refine .done (hK _ ?_);clear hK K)|refine ae.of rfl ?_|(with_reducible refine ay.aD (fun h =>?_) (fun h =>?_) <;>try simp only[h])) <;>try simp only[aF,R,simprocAttr])
  all_goals clear R
def gX(l:List Int)(n:Int):List Int:=l.filter fun x=>x != n
def uF(l:List Int)(n:Int)(t:Nat×List Int):ai:=au [(1,.int .i64 n),(5,.own 905 t.2.length),(8,enc l),(9,.int .i64 l.length),(10,.int .i64 t.1)] [(905,.bW 3 1 (t.2.map enc))]
theorem x6(l:List Int)(n:Int)(hlen:l.length≤1000):aZ Tryz.prog 110 [enc l,enc n] (enc (gX l n)):=by
 refine aZ.b5 Tryz.func110 IE JK KW (u8 rfl) (fun hwf W0 bG E1 =>?_);simp only[za,DO,bI,zz1];clear hwf;have R:=y6 @bm aC
 repeat' ((first |refine ae.aE (by decide +kernel) rfl fun K hK =>?_|(refine .av [0,1,4,5,7,8,9,10,11,16] hK ?_;clear hK K)|(with_reducible refine .done (hK _ ?_);clear hK K)|refine ae.of rfl ?_|(with_reducible refine ay.aD (fun h =>?_) (fun h =>?_) <;>try simp only[h])) <;>try simp only[aF,R,simprocAttr])
 all_goals clear R
 refine ae.loop (uF l n) (fun t=>t.1≤l.length∧t.2=gX (l.take t.1) n) (fun t=>l.length-t.1) (0,[]) ⟨zw2 _,rfl⟩ ?_ ?_
 ·refine bw.p9 5 905 3 1 1 rfl rfl ?_;simp only[uF];refine bw.dh ?_ ?_ ?_ ?_ <;>simp[cz,c6,cJ,cF,aw,cu,dE,I.only,I.cv,aq.only,cA]
 rintro ⟨i,xs⟩ ⟨hi,hxs⟩;simp only at hi hxs;have hxl:xs.length≤i:=by
  rw[hxs,gX];refine zw9 (List.length_filter_le _ _) ?_;rw[zx3];omega
 simp only[uF];by_cases hlt:i<l.length
 ·have hc:=ga hlt;have he:=fun A=>eM (A:=A) 1 hlt rfl;have hw:=fJ (i:=i) (by omega);have hsn:gX (l.take (i+1)) n=xs++if l[i] != n then [l[i]] else []:=by
   rw[zy0 hlt,gX,List.filter_append,hxs];simp only[gX,zw0,List.filter_nil]
  obtain ⟨y,hy⟩:∃ y,y=l[i]:=⟨_,rfl⟩
  rw[←hy] at he hsn;have hbs:fg 1 (some [.int .i64 y])=some (enc [y]):=iy 1 y rfl;have hap:=fun (A:ai) d rest=>oN (A:=A) (d:=d) 3 1 8 905 (l:=xs.length) (es:=xs) (ys:=[y]) (rest:=rest) rfl rfl (by simp) (by simp[maxLen];omega) (by simp;omega);rcases q:(y != n)
  ·rw[q,if_neg (by decide),zv2] at hsn;have R:=y6 @hc (y6 @he (y6 @hw (y6 @q (y6 @bm aC))))
   repeat' ((first |refine ae.aE (by decide +kernel) rfl fun K hK =>?_|(refine .av [0,1,4,5,7,8,9,10,11,16] hK ?_;clear hK K)|(with_reducible refine .done (hK _ ?_);clear hK K)|refine ae.of rfl ?_|(with_reducible refine ay.aD (fun h =>?_) (fun h =>?_) <;>try simp only[h])) <;>try simp only[aF,R,simprocAttr])
   all_goals clear R
   refine ⟨(i+1,xs),⟨by simp only;omega,hsn.symm⟩,by simp only;omega,?_⟩;simp only;clear hxs hsn;refine bw.dh ?_ ?_ ?_ ?_ <;>simp[cz,c6,cJ,cF,aw,cu,dE,I.only,aq.only,fR,cA]
  ·rw[q,if_pos rfl] at hsn;have R:=y6 @hc (y6 @he (y6 @hw (y6 @q (y6 @hbs (y6 @hap (y6 @bm aC))))))
   repeat' ((first |refine ae.aE (by decide +kernel) rfl fun K hK =>?_|(refine .av [0,1,4,5,7,8,9,10,11,16] hK ?_;clear hK K)|(with_reducible refine .done (hK _ ?_);clear hK K)|refine ae.of rfl ?_|(with_reducible refine ay.aD (fun h =>?_) (fun h =>?_) <;>try simp only[h])) <;>try simp only[aF,R,simprocAttr])
   all_goals clear R
   refine ⟨(i+1,xs++[y]),⟨by simp only;omega,hsn.symm⟩,by simp only;omega,?_⟩;simp only;clear hxs hsn;refine bw.dh ?_ ?_ ?_ ?_ <;>simp[cz,c6,cJ,cF,aw,cu,dE,I.only,I.cv,aq.only,fR,nZ,cA,eG]
 ·have hge:i=l.length:=by omega
  have hc:=gp hlt;have hx2:xs=gX l n:=by rw[hxs,hge,zv0]
  rw[←hx2];have R:=y6 @hc (y6 @Bm (y6 @bm aC))
  repeat' ((first |refine ae.aE (by decide +kernel) rfl fun K hK =>?_|(refine .av [0,1,4,5,7,8,9,10,11,16] hK ?_;clear hK K)|(with_reducible refine .done (hK _ ?_);clear hK K)|refine ae.of rfl ?_|(with_reducible refine ay.aD (fun h =>?_) (fun h =>?_) <;>try simp only[h])) <;>try simp only[aF,R,simprocAttr])
  all_goals clear R
section
variable {α:Type} [Enc α] {P:Program} {ab:List FuncId} {Y:Value→List I→List (Nat×aq)→cC→Prop} {K:ai→Prop} {rest:List aI} {d e esz bytes:Nat}
def kF(esz:Nat)(v:I)(os:List (Nat×aq))(l:List α)(S:List Nat):Prop:=(l=[]∧v=.c0 esz)∨∃ n q,n∈S∧v=.view n [] esz 0 l.length∧aj os n=some (.box (.agg ((l++q).map enc)))
theorem HL{A:ai}{q:Nat}(z:I){l:List α}(hsz:Enc.sz α=esz)(ao:l≠[])(hf:A.o d=none)(hb:l.length*bytes≤140737488355328)(hml:l.length≤maxLen) :
  ∃ p:Nat→Prop,fK A (some d) e esz bytes z (enc l) rest (.c0 q)=.any p fun m=>aB rest ((A.aT d (.box (.agg (l.map enc++List.replicate m z)))).aS (some d) (.view d [] esz 0 l.length)):=by
 have hne:l.map (enc (α:=α))≠[]:=by simpa using ao
 have J:eH A esz (.c0 q)=some []:=rfl;refine ⟨fun m=>l.length+m≤maxLen,?_⟩;simp only[fK,J,nh A esz l hsz,eY,if_neg hne,fX,hf,List.length_nil,zz1,zz8,if_pos (y6 hb hml),zv3]
theorem HK{A:ai}(z:I)(hsz:Enc.sz α=esz){n l:Nat}{xs ys:List α}(hy:ys≠[])(ho:A.o n=some (.box (.agg (xs.map enc))))(ao:l≤xs.length)(hr:xs.length<l+ys.length)(hf:A.o d=none)(hb:(l+ys.length)*bytes≤140737488355328)(hml:l+ys.length≤maxLen) :
  ∃ p:Nat→Prop,fK A (some d) e esz bytes z (enc ys) rest (.view n [] esz 0 l)=.any p fun m=>aB rest ((A.aT d (.box (.agg ((xs.take l).map enc++(ys.map enc++List.replicate m z))))).aS (some d) (.view d [] esz 0 (l+ys.length))):=by
 have J:=tV (A:=A) (esz:=esz) (lo:=0) (k:=l) ho (by omega);have U:(I.agg (xs.map (enc (α:=α)))).at []=some (.agg (xs.map enc)):=rfl;have ar:(xs.take l).length=l:=by rw[zx3];omega
 refine ⟨fun m=>l+ys.length+m≤maxLen,?_⟩;simp only[fK,J,List.drop_zero,nh A esz ys hsz,eY];rw[if_neg (by simpa using hy)];simp only[ho,U,zz8,zz1];rw[if_neg (by omega)];simp only[fX,hf,zz8,ar];rw[if_pos ⟨hb,hml⟩]
theorem Cb(z:α){ts:List (Nat×I)}{os:List (Nat×aq)}{v:I}{l ys:List α}{S:List Nat}(hsz:Enc.sz α=esz)(hg:kF esz v os l S)(hf:aj os d=none)(hb:(l.length+ys.length)*bytes≤140737488355328)(hml:l.length+ys.length≤maxLen) :
  (∃ v' os',fK (au ts os) (some d) e esz bytes (enc z) (enc ys) rest v=aB rest (au ((d,v')::ts) os')∧kF esz v' os' (l++ys) (d::S)∧∀ m,m∉d::S→aj os' m=aj os m) ∨
  (∃ p,∃ v':Nat→I,∃ os':Nat→List (Nat×aq),fK (au ts os) (some d) e esz bytes (enc z) (enc ys) rest v=.any p (fun m=>aB rest (au ((d,v' m)::ts) (os' m)))∧∀ k,kF esz (v' k) (os' k) (l++ys) (d::S)∧∀ m,m∉d::S→aj (os' k) m=aj os m):=by
 by_cases hy:ys=[]
 ·subst hy;rw[zv2];rcases hg with ⟨rfl,rfl⟩ | ⟨n,q,hn,rfl,ho⟩
  ·exact .inl ⟨.c0 esz,os,HM _ hsz,.inl ⟨rfl,rfl⟩,fun _ _=>rfl⟩
  ·refine .inl ⟨_,os,?_,.inr ⟨n,q,List.mem_cons_of_mem _ hn,rfl,ho⟩,fun _ _=>rfl⟩;have J:=tV (A:=au ts os) (esz:=esz) (lo:=0) (k:=l.length) ho (by simp);simp only[fK,J,nh _ esz ([]:List α) hsz,eY,zx4,if_true];rfl
 ·rcases hg with ⟨rfl,rfl⟩ | ⟨n,q,hn,rfl,ho⟩
  ·obtain ⟨p,J⟩:=HL (A:=au ts os) (rest:=rest) (e:=e) (q:=esz) (enc z) hsz hy hf (by simpa using hb) (by simpa using hml);refine .inr ⟨p,fun m=>.view d [] esz 0 ys.length,fun m=>(d,.box (.agg (ys.map enc++List.replicate m (enc z))))::os,J,fun k=>⟨.inr ⟨d,List.replicate k z,List.mem_cons_self,by simp,?_⟩,fun m hm =>?_⟩⟩
   ·simp[aj]
   ·rw[dE,if_neg (fun h=>by rw[h] at hm;exact hm List.mem_cons_self)]
  ·by_cases hr:l.length+ys.length≤(l++q).length
   ·have J:=yI (A:=au ts os) (rest:=rest) (d:=some d) (e:=e) (bytes:=bytes) (esz:=esz) (enc z) hsz hy ho hr;have e1:(l++q).take l.length++(ys++(l++q).drop (l.length+ys.length))=(l++ys)++q.drop ys.length:=by simp[List.drop_append]
    rw[e1] at J;refine .inl ⟨_,(n,.box (.agg (((l++ys)++q.drop ys.length).map enc)))::os,J,.inr ⟨n,q.drop ys.length,List.mem_cons_of_mem _ hn,by simp,by simp[aj]⟩,fun m hm =>?_⟩;rw[dE,if_neg (fun h=>by rw[h] at hm;exact hm (List.mem_cons_of_mem _ hn))]
   ·obtain ⟨p,J⟩:=HK (A:=au ts os) (rest:=rest) (d:=d) (e:=e) (bytes:=bytes) (esz:=esz) (enc z) hsz hy ho (by simp) (by omega) hf hb hml;refine .inr ⟨p,fun m=>.view d [] esz 0 (l.length+ys.length),fun m=>(d,.box (.agg (((l++q).take l.length).map enc++(ys.map enc++List.replicate m (enc z)))))::os,J,fun k=>⟨.inr ⟨d,List.replicate k z,List.mem_cons_self,by simp,?_⟩,fun m hm =>?_⟩⟩
    ·simp[aj]
    ·rw[dE,if_neg (fun h=>by rw[h] at hm;exact hm List.mem_cons_self)]
theorem bO.ji(z:α){ts:List (Nat×I)}{os:List (Nat×aq)}{v:I}{l ys:List α}{S:List Nat}(hsz:Enc.sz α=esz)(hg:kF esz v os l S)(hf:aj os d=none)(hb:(l.length+ys.length)*bytes≤140737488355328)(hml:l.length+ys.length≤maxLen)
  (h:∀ v' os',kF esz v' os' (l++ys) (d::S)→(∀ m,m∉d::S→aj os' m=aj os m)→bO P Y ab K (aB rest (au ((d,v')::ts) os'))):bO P Y ab K (fK (au ts os) (some d) e esz bytes (enc z) (enc ys) rest v):=by
 rcases Cb (rest:=rest) (e:=e) z hsz hg hf hb hml (ts:=ts) with ⟨v',os',J,U,ah⟩ | ⟨p,v',os',J,U⟩
 ·rw[J];exact h v' os' U ah
 ·rw[J];exact .any fun m _=>h _ _ (U m).1 (U m).2
theorem aQ.ji(z:α){ts:List (Nat×I)}{os:List (Nat×aq)}{v:I}{l ys:List α}{S:List Nat}(hsz:Enc.sz α=esz)(hg:kF esz v os l S)(hf:aj os d=none)(hb:(l.length+ys.length)*bytes≤140737488355328)(hml:l.length+ys.length≤maxLen)
  (h:∀ v' os',kF esz v' os' (l++ys) (d::S)→(∀ m,m∉d::S→aj os' m=aj os m)→aQ P Y false K (aB rest (au ((d,v')::ts) os'))):aQ P Y false K (fK (au ts os) (some d) e esz bytes (enc z) (enc ys) rest v):=by
 rcases Cb (rest:=rest) (e:=e) z hsz hg hf hb hml (ts:=ts) with ⟨v',os',J,U,ah⟩ | ⟨p,v',os',J,U⟩
 ·rw[J];exact h v' os' U ah
 ·rw[J];exact .any rfl fun m _=>h _ _ (U m).1 (U m).2
theorem pg(os:List (Nat×aq))(S:List Nat):kF esz (.c0 esz) os ([]:List α) S:=.inl ⟨rfl,rfl⟩
theorem pd{v:I}{os:List (Nat×aq)}{l:List α}{S:List Nat}{A:ai}(hsz:Enc.sz α=esz)(h:kF esz v os l S)(hA:∀ m∈S,A.o m=aj os m):bj true A v=some (enc l):=by
 rcases h with ⟨rfl,rfl⟩ | ⟨n,q,hn,rfl,ho⟩
 ·simp only[bj,hs,zx4,hsz]
 ·have J:bj true A (.view n [] esz 0 l.length)=kj esz 0 l.length (some ((l++q).map enc)):=by
   rw[vO,hA n hn,ho];rfl
  rw[J,qu hsz,List.take_left]
end
def ej:List Int→Int→List Int
 | [],n=>[n]
 |x::l,n=>if x<n then x::ej l n else if x=n then x::l else n::x::l
theorem DF:∀ (l:List Int) (n:Int) (i:Nat) (h:i<l.length),(∀ k,k<i→∀ hk:k<l.length,l[k]<n)→l[i]=n→ej l n=l
 | [],_,_,h,_,_=>by simp at h
 |x::l,n,0,_,_,U=>by simp at U;simp[ej,U]
 |x::l,n,i+1,h,J,U=>by
  have hx:=J 0 (by omega) (by simp);simp only[List.getElem_cons_zero] at hx;rw[ej,if_pos hx,DF l n i (by simpa using h) (fun k hk ao=>J (k+1) (by omega) (by simpa using ao)) (by simpa using U)]
theorem xk:∀ (l:List Int) (n:Int) (i:Nat),i≤l.length→(∀ k,k<i→∀ hk:k<l.length,l[k]<n)→(∀ h:i<l.length,n<l[i])→ej l n=l.take i++n::l.drop i
 | [],n,i,h,_,_=>by simp[ej]
 |x::l,n,0,_,_,U=>by
  have:=U (by simp);simp only[List.getElem_cons_zero] at this;simp[ej,show ¬ x<n by omega,show ¬ x=n by omega]
 |x::l,n,i+1,h,J,U=>by
  have hx:=J 0 (by omega) (by simp);simp only[List.getElem_cons_zero] at hx;rw[ej,if_pos hx,xk l n i (by simpa using h) (fun k hk ao=>J (k+1) (by omega) (by simpa using ao)) (fun ao=>U (by simpa using ao))];rfl
theorem xT{α:Type}[Enc α]{A:ai}(esz:Nat){l:List α}{i:Nat}(h:i≤l.length)(ab:Enc.sz α=esz):j5 A esz (some (.int .i64 i)) none none (enc l)=some (enc (l.drop i)):=by
 simp only[j5,hs,ab,if_true,iT,jd,zz8];rw[if_pos ⟨by omega,by omega,by omega,by omega⟩];simp[List.take_of_length_le]
theorem r8(l:List Int)(n:Int)(ao:l.length≤1000):aZ Tryz.prog 109 [enc l,enc n] (enc (ej l n)):=by
 refine aZ.b5 Tryz.func109 ID JJ KV (u8 rfl) (fun hwf W0 bG E1 =>?_);simp only[y9,DN,bI,zz1];clear hwf;have R:=y6 @bm aC
 repeat' ((first |(with_reducible refine .guard (fun hb =>?_) (fun hb =>?_) <;>try simp only[hb])|refine ae.aE (by decide +kernel) rfl fun K hK =>?_|(refine .av [0,1,4,5,17,31] hK ?_;clear hK K)|(with_reducible refine .done (hK _ ?_);clear hK K)|refine ae.of rfl ?_|(with_reducible refine ay.aD (fun h =>?_) (fun h =>?_) <;>try simp only[h])) <;>try simp only[aF,R,simprocAttr])
 all_goals clear R
 refine ae.loop (fun i:Nat=>au [(0,enc l),(1,.int .i64 n),(5,.int .i64 i)] []) (fun i=>i≤l.length∧∀ k,k<i→∀ h:k<l.length,l[k]<n) (fun i=>l.length-i) 0 ⟨zw2 _,fun k h=>by omega⟩ ?_ (fun i hi =>?_)
 ·refine bw.dh ?_ ?_ ?_ ?_ <;>simp[cz,c6,cJ,cF,cu,I.only,cA]
 obtain ⟨hi1,hi2⟩:=hi;by_cases hlt:i<l.length
 ·have hc:=ga hlt;have he:=fun A=>eM (A:=A) 1 hlt rfl;have hw:=fJ (i:=i) (by omega);rcases hp:decide (l[i]<n)
  ·have hp0:=of_decide_eq_false hp;rcases hq:(l[i]==n)
   ·have hq0:¬ l[i]=n:=by simpa using hq
    have hm:ej l n=l.take i++n::l.drop i:=xk l n i hi1 hi2 (fun h=>by omega);have R:=y6 @hc (y6 @he (y6 @hp (y6 @hq aC)))
    repeat' ((first |(with_reducible refine .guard (fun hb =>?_) (fun hb =>?_) <;>try simp only[hb])|refine ae.aE (by decide +kernel) rfl fun K hK =>?_|(refine .av [0,1,4,5,17,31] hK ?_;clear hK K)|(with_reducible refine .done (hK _ ?_);clear hK K)|refine ae.of rfl ?_|(with_reducible refine ay.aD (fun h =>?_) (fun h =>?_) <;>try simp only[h])) <;>try simp only[aF,R,simprocAttr])
    all_goals clear R
    refine ae.rD (gs:=qy) [] [(33,[]),(0,[]),(41,[])] [0,1,2,3,5,6,8,9,10,4,7,11,12] (by decide +kernel) (cW.of (by simp[fo,cu,qX,I.only,cA])) fun K hK =>?_;have hbs:fg 1 (some [.int .i64 n])=some (enc [n]):=iy 1 n rfl
    try simp only[e8,qy,zy6,zy7,xU 1 hi1 rfl,xT 1 hi1 rfl,Option.map_none,zz9,hbs,hl,bq,simprocAttr]
    refine bO.ji (0:Int) rfl (pg _ []) rfl (by simp;omega) (by simp[maxLen];omega) fun v1 o1 g1 f1 =>?_
    try simp only[bq,simprocAttr]
    refine bO.ji (0:Int) rfl g1 (f1 40 (by decide)) (by simp;omega) (by simp[maxLen];omega) fun v2 o2 g2 f2 =>?_
    try simp only[bq,simprocAttr]
    refine bO.ji (0:Int) rfl g2 ((f2 44 (by decide)).trans (f1 44 (by decide))) (by simp;omega) (by simp[maxLen];omega) fun v3 o3 g3 f3 =>?_;have hf:=fun ts=>pd (A:=au ts o3) rfl g3 fun _ _=>rfl;rw[show ([]++List.take i l++[n]++List.drop i l)=ej l n by rw[hm];simp] at hf
    try simp only[bq,simprocAttr]
    refine .done (hK _ ?_);clear hK K;have R:=y6 @hf aC
    repeat' ((first |(with_reducible refine .guard (fun hb =>?_) (fun hb =>?_) <;>try simp only[hb])|refine ae.aE (by decide +kernel) rfl fun K hK =>?_|(refine .av [0,1,4,5,17,31] hK ?_;clear hK K)|(with_reducible refine .done (hK _ ?_);clear hK K)|refine ae.of rfl ?_|(with_reducible refine ay.aD (fun h =>?_) (fun h =>?_) <;>try simp only[h])) <;>try simp only[aF,R,simprocAttr])
    all_goals clear R
   ·have hm:ej l n=l:=DF l n i hlt hi2 (by simpa using hq);rw[hm];have R:=y6 @hc (y6 @he (y6 @hp (y6 @hq aC)))
    repeat' ((first |(with_reducible refine .guard (fun hb =>?_) (fun hb =>?_) <;>try simp only[hb])|refine ae.aE (by decide +kernel) rfl fun K hK =>?_|(refine .av [0,1,4,5,17,31] hK ?_;clear hK K)|(with_reducible refine .done (hK _ ?_);clear hK K)|refine ae.of rfl ?_|(with_reducible refine ay.aD (fun h =>?_) (fun h =>?_) <;>try simp only[h])) <;>try simp only[aF,R,simprocAttr])
    all_goals clear R
  ·have R:=y6 @hc (y6 @he (y6 @hp (y6 @hw aC)))
   repeat' ((first |(with_reducible refine .guard (fun hb =>?_) (fun hb =>?_) <;>try simp only[hb])|refine ae.aE (by decide +kernel) rfl fun K hK =>?_|(refine .av [0,1,4,5,17,31] hK ?_;clear hK K)|(with_reducible refine .done (hK _ ?_);clear hK K)|refine ae.of rfl ?_|(with_reducible refine ay.aD (fun h =>?_) (fun h =>?_) <;>try simp only[h])) <;>try simp only[aF,R,simprocAttr])
   all_goals clear R
   refine ⟨i+1,⟨by omega,fun k hk h =>?_⟩,by omega,?_⟩
   ·by_cases e:k=i
    ·subst e;exact of_decide_eq_true hp
    ·exact hi2 k (by omega) h
   ·refine bw.dh ?_ ?_ ?_ ?_ <;>simp[cz,c6,cJ,cF,cu,I.only,cA]
 ·have hc:=gp hlt;have hge:i=l.length:=by omega
  have hm:ej l n=l.take i++n::l.drop i:=xk l n i hi1 hi2 (fun h=>absurd h hlt);have R:=y6 @hc aC
  repeat' ((first |(with_reducible refine .guard (fun hb =>?_) (fun hb =>?_) <;>try simp only[hb])|refine ae.aE (by decide +kernel) rfl fun K hK =>?_|(refine .av [0,1,4,5,17,31] hK ?_;clear hK K)|(with_reducible refine .done (hK _ ?_);clear hK K)|refine ae.of rfl ?_|(with_reducible refine ay.aD (fun h =>?_) (fun h =>?_) <;>try simp only[h])) <;>try simp only[aF,R,simprocAttr])
  all_goals clear R
  refine ae.rD (gs:=qy) [] [(33,[]),(0,[]),(41,[])] [0,1,2,3,5,6,8,9,10,4,7,11,12] (by decide +kernel) (cW.of (by simp[fo,cu,qX,I.only,cA])) fun K hK =>?_;have hbs:fg 1 (some [.int .i64 n])=some (enc [n]):=iy 1 n rfl
  try simp only[e8,qy,zy6,zy7,xU 1 hi1 rfl,xT 1 hi1 rfl,Option.map_none,zz9,hbs,hl,bq,simprocAttr]
  refine bO.ji (0:Int) rfl (pg _ []) rfl (by simp;omega) (by simp[maxLen];omega) fun v1 o1 g1 f1 =>?_
  try simp only[bq,simprocAttr]
  refine bO.ji (0:Int) rfl g1 (f1 40 (by decide)) (by simp;omega) (by simp[maxLen];omega) fun v2 o2 g2 f2 =>?_
  try simp only[bq,simprocAttr]
  refine bO.ji (0:Int) rfl g2 ((f2 44 (by decide)).trans (f1 44 (by decide))) (by simp;omega) (by simp[maxLen];omega) fun v3 o3 g3 f3 =>?_;have hf:=fun ts=>pd (A:=au ts o3) rfl g3 fun _ _=>rfl;rw[show ([]++List.take i l++[n]++List.drop i l)=ej l n by rw[hm];simp] at hf
  try simp only[bq,simprocAttr]
  refine .done (hK _ ?_);clear hK K;have R:=y6 @hf aC
  repeat' ((first |(with_reducible refine .guard (fun hb =>?_) (fun hb =>?_) <;>try simp only[hb])|refine ae.aE (by decide +kernel) rfl fun K hK =>?_|(refine .av [0,1,4,5,17,31] hK ?_;clear hK K)|(with_reducible refine .done (hK _ ?_);clear hK K)|refine ae.of rfl ?_|(with_reducible refine ay.aD (fun h =>?_) (fun h =>?_) <;>try simp only[h])) <;>try simp only[aF,R,simprocAttr])
  all_goals clear R
def pR:cZ:=⟨0,0,0,false⟩
theorem vt:I.agg [.int .i64 0,.int .i64 0,.int .i64 0,.bool false]=enc pR:=rfl
def xO:gx:=⟨0,0,0,0⟩
theorem M3:I.agg [.int .i64 0,.int .i64 0,.int .i64 0,.int .i64 0]=enc xO:=rfl
def je(s:cm)(i:Nat):cm := { s with bD:=s.bD.take i++s.bD.drop (i+1) }
def jO(v:I):Prop:=v.bS=true∧b8 none v=true∧v.aX=.one∧v.size=1
theorem YT(l:List cZ):jO (enc l):=⟨eg _,by simp[kg,ke],(eC l).trans nF,by rw[jQ,jy]⟩
theorem w7(l:List gx):jO (enc l):=⟨eg _,by simp[kg,ke],(eC l).trans nF,by rw[jQ,jy]⟩
theorem pf{α:Type}[Enc α]{esz:Nat}{v:I}{os:List (Nat×aq)}{l:List α}{S:List Nat}(h:kF esz v os l S):jO v:=by
 rcases h with ⟨_,rfl⟩ | ⟨n,q,_,rfl,_⟩ <;>exact ⟨rfl,rfl,rfl,rfl⟩
theorem aaj{a s:Int}{h:List Int}{r e:I}(hr:jO r)(he:jO e):(gD a (enc h) s r e).aX=.eE [.one,.one,.one,.one,.one]:=by
 simp only[gD,I.aX,I.cQ,eC,nF,hr.2.2.1,he.2.2.1]
theorem FP{a s:Int}{h:List Int}{r e:I}(hr:jO r)(he:jO e):b8 (some 5) (gD a (enc h) s r e)=true:=by
 simp[b8,gD,I.isAgg,I.size,I.sizes,jQ,jy,hr.2.2.2,he.2.2.2]
theorem ub{a s:Int}{h:List Int}{r e:I}(hr:jO r)(he:jO e):b8 (some 5) (gD a (enc h) s r e)=true∧(∀ A n rest x y,dk A (some 5) n [] (.agg [.int .i64 x,.nils 1,.int .i64 y,.nils 4,.nils 4]) (gD a (enc h) s r e) rest (some (.agg [.int .i64 x,.nils 1,.int .i64 y,.nils 4,.nils 4]))=aB rest (A.aT n (.box (gD a (enc h) s r e)))) :=
 ⟨FP hr he,fun A n rest x y=>dK rfl (FP hr he) (aaj hr he)⟩
theorem xX{q:cm}{v:I}(hv:jO v):∀ A n rest,dk A none n [3] (enc q) v rest (some (enc q.bD))=aB rest (A.aT n (.box (gD q.az (enc q.here) q.dA v (enc q.bo)))) :=
 fun A n rest=>(dK hv.1 hv.2.1 (hv.2.2.1.trans ((eC _).trans nF).symm)).trans rfl
theorem aai{q:cm}{v:I}(hv:jO v):∀ A n rest,dk A none n [4] (enc q) v rest (some (enc q.bo))=aB rest (A.aT n (.box (gD q.az (enc q.here) q.dA (enc q.bD) v))) :=
 fun A n rest=>(dK hv.1 hv.2.1 (hv.2.2.1.trans ((eC _).trans nF).symm)).trans rfl
theorem uc{A:ai}{a s:Int}{h:List Int}{r e:I}{rs:List cZ}{es:List gx}(hr:bj true A r=some (enc rs))(he:bj true A e=some (enc es)):bj true A (gD a (enc h) s r e)=some (enc (⟨a,h,s,rs,es⟩:cm)):=by
 have U:∀ k n,bj true A (.int k n)=some (.int k n):=fun k n=>by simp only[bj]
 have ah:bj true A (enc h)=some (enc h):=by simp only[kR]
 simp only[gD,vN,vP,vQ,hr,he,U,ah,kb,zz9];rfl
theorem x7(s:cm)(i:Nat)(hi:i<s.bD.length)(ao:s.bD.length≤1000):aZ Tryz.prog 111 [enc s,enc (i:Int)] (enc (je s i)):=by
 refine aZ.b5 Tryz.func111 IF JL KX (u8 rfl) (fun hwf W0 bG E1 =>?_);simp only[zb,DP,bI,zz1];clear hwf;have hc:=ga hi;have hw:=fJ (i:=i) (by omega);have hle:i≤s.bD.length:=by omega
 have af:(s.bD.take i).length+(s.bD.drop (i+1)).length≤1000:=by rw[zx3,List.length_drop];omega
 have hd0:(s.bD.take i).length≤1000:=by omega
 have R:=y6 @hc (y6 @hw (y6 @cG aC))
 repeat' ((first |refine ae.aE (by decide +kernel) rfl fun K hK =>?_|(refine .av [0,1,2,4] hK ?_;clear hK K)|(with_reducible refine .done (hK _ ?_);clear hK K)|refine ae.of rfl ?_|(with_reducible refine ay.aD (fun h =>?_) (fun h =>?_) <;>try simp only[h])) <;>try simp only[aF,R,simprocAttr])
 all_goals clear R
 refine ae.rD (gs:=vS) [] [(5,[])] [0,1,2,3,4,6,7,8,9,10,5,11,12,13] (by decide +kernel) (cW.of (by simp[fo,cu,qX,I.only])) fun K hK =>?_
 try simp only[e8,vS,zy6,zy7,xU 4 hle rfl,xT 4 (show i+1≤s.bD.length by omega) rfl,Option.map_none,zz9,hw,vt,hl,cG,aC,bq,simprocAttr]
 refine bO.ji pR rfl (pg _ []) rfl (by simp;omega) (by simp[maxLen];omega) fun v1 o1 g1 f1 =>?_
 try simp only[bq,simprocAttr]
 refine bO.ji pR rfl g1 (f1 16 (by decide)) (by simp;omega) (by simp[maxLen];omega) fun v2 o2 g2 f2 =>?_;have ho2:aj o2 2=some (.box (enc s)):=(f2 2 (by decide)).trans (f1 2 (by decide));have ho4:aj o2 4=some (.box (.agg [.int .i64 0,.nils 1,.int .i64 0,.nils 4,.nils 4])):=(f2 4 (by decide)).trans (f1 4 (by decide));have ab:=xX (q:=s) (pf g2);have ht:=ub (a:=s.az) (h:=s.here) (s:=s.dA) (pf g2) (w7 s.bo);have hf:∀ ts os,aj os 10=aj o2 10→aj os 16=aj o2 16→bj true (au ts os) (gD s.az (enc s.here) s.dA v2 (enc s.bo))=some (enc (je s i)):=fun ts os J U =>
  (uc (pd rfl g2 (by intro m hm;simp only[zv1,List.not_mem_nil,or_false] at hm;rcases hm with rfl | rfl;exact U;exact J)) (by simp only[kR])).trans rfl
 try simp only[ho2,ab,cG,aC,bq,simprocAttr]
 refine .done (hK _ ?_);clear hK K;have R:=y6 @ho4 (y6 @ht (y6 @hf (y6 @cG aC)))
 repeat' ((first |refine ae.aE (by decide +kernel) rfl fun K hK =>?_|(refine .av [0,1,2,4] hK ?_;clear hK K)|(with_reducible refine .done (hK _ ?_);clear hK K)|refine ae.of rfl ?_|(with_reducible refine ay.aD (fun h =>?_) (fun h =>?_) <;>try simp only[h])) <;>try simp only[aF,R,simprocAttr])
 all_goals clear R
theorem Ip(a b c d:Int):(dO [.int .i64 0,.int .i64 0,.int .i64 0,.int .i64 0] [(0,.int .i64 a),(1,.int .i64 b),(2,.int .i64 c),(3,.int .i64 d)]).map I.agg=some (enc (⟨a,b,c,d⟩:gx)):=by simp[dO,I.bS,I.size];rfl
def gf(s:cm)(x:aU):cm := { s with bo:=s.bo++[⟨x.kind,x.other,x.no,x.aH⟩] }
theorem x8(s:cm)(x:aU)(ao:s.bo.length≤1000):aZ Tryz.prog 112 [enc s,enc x] (enc (gf s x)):=by
 refine aZ.b5 Tryz.func112 IG JM KY (u8 rfl) (fun hwf W0 bG E1 =>?_);simp only[zc,DQ,bI,zz1];clear hwf;have hbs:∀ y:gx,fg 4 (some [enc y])=some (enc [y]):=fun y=>iy 4 y rfl;have R:=y6 @cG aC
 repeat' ((first |refine ae.aE (by decide +kernel) rfl fun K hK =>?_|(refine .av [0,1,2,3,4] hK ?_;clear hK K)|(with_reducible refine .done (hK _ ?_);clear hK K)|refine ae.of rfl ?_|(with_reducible refine ay.aD (fun h =>?_) (fun h =>?_) <;>try simp only[h])) <;>try simp only[aF,R,simprocAttr])
 all_goals clear R
 refine ae.rD (gs:=vT) [] [(5,[])] [0,1,2,4,5,6,7,8,9,10,11,12,13,3,14,15,16] (by decide +kernel) (cW.of (by simp[fo,cu,qX,I.only])) fun K hK =>?_
 try simp only[e8,vT,zy6,zy7,zv3,M3,Ip,hl,hbs,cG,aC,bq,simprocAttr]
 refine bO.ji xO rfl (pg _ []) rfl (by simp;omega) (by simp[maxLen];omega) fun v1 o1 g1 f1 =>?_
 try simp only[bq,simprocAttr]
 refine bO.ji xO rfl g1 (f1 19 (by decide)) (by simp;omega) (by simp[maxLen];omega) fun v2 o2 g2 f2 =>?_;have ho2:aj o2 2=some (.box (enc s)):=(f2 2 (by decide)).trans (f1 2 (by decide));have ho4:aj o2 4=some (.box (.agg [.int .i64 0,.nils 1,.int .i64 0,.nils 4,.nils 4])):=(f2 4 (by decide)).trans (f1 4 (by decide));have ab:=aai (q:=s) (pf g2);have ht:=ub (a:=s.az) (h:=s.here) (s:=s.dA) (YT s.bD) (pf g2);have hf:∀ ts os,aj os 8=aj o2 8→aj os 19=aj o2 19→bj true (au ts os) (gD s.az (enc s.here) s.dA (enc s.bD) v2)=some (enc (gf s x)):=fun ts os J U =>
  (uc (by simp only[kR]) (pd rfl g2 (by intro m hm;simp only[zv1,List.not_mem_nil,or_false] at hm;rcases hm with rfl | rfl;exact U;exact J))).trans rfl
 try simp only[ho2,ab,cG,aC,bq,simprocAttr]
 refine .done (hK _ ?_);clear hK K;have R:=y6 @ho4 (y6 @ht (y6 @hf (y6 @cG aC)))
 repeat' ((first |refine ae.aE (by decide +kernel) rfl fun K hK =>?_|(refine .av [0,1,2,3,4] hK ?_;clear hK K)|(with_reducible refine .done (hK _ ?_);clear hK K)|refine ae.of rfl ?_|(with_reducible refine ay.aD (fun h =>?_) (fun h =>?_) <;>try simp only[h])) <;>try simp only[aF,R,simprocAttr])
 all_goals clear R
def gY(s:cm)(x:aU):Bool:=match jF s x.no with
 |some i=>match s.bD[i]? with
  |some r=>r.to==x.other&&r.aH==x.aH
  |none=>false
 |none=>false
def oS(s:cm)(x:aU):Bool:=match jF s x.no with
 |some i=>match s.bD[i]? with
  |some r=>r.dz
  |none=>false
 |none=>false
def atR(s:cm)(x:aU):Nat:=(jF s x.no).getD 0
def cL(s:cm)(x:aU):cm×Bool :=
 if x.kind=1 then if decide (x.aH∈s.here)||iv s x.aH then (s,false) else ({ s with here:=ej s.here x.aH },true)
 else if x.kind=2 then ({ s with here:=gX s.here x.aH },decide (x.aH∈s.here))
 else if x.kind=3 then if x.aH∉s.here∨x.other=s.az∨x.no≠s.dA+1 then (s,false) else ({ s with here:=gX s.here x.aH,dA:=x.no,bD:=s.bD++[⟨x.no,x.other,x.aH,false⟩] },true)
 else if x.kind=4 then if gY s x && !oS s x then ({ s with bD:=s.bD.modify (atR s x) fun r => { r with dz:=true } },true) else (s,false)
 else if x.kind=5 then if gY s x then (je s (atR s x),true) else (s,false)
 else if x.kind=6 then if gY s x&&oS s x then ({ je s (atR s x) with here:=ej s.here x.aH },true) else (s,false)
 else if x.other=s.az∨gW s x.other x.no≠0 then (s,false)
 else if x.kind=7 then if decide (x.aH∈s.here)||iv s x.aH then (s,false) else (gf { s with here:=ej s.here x.aH } x,true)
 else (gf s x,true)
theorem Fo(s:cm)(no:Int):(jF s no=none∧kv s no=-1)∨∃ i,∃ h:i<s.bD.length,jF s no=some i∧kv s no=(i:Int)∧(s.bD[i]).no=no:=by
 cases h:jF s no with
 |none=>exact .inl ⟨rfl,by simp[kv,h]⟩
 |some i =>
  obtain ⟨J,U,_⟩:=List.findIdx?_eq_some_iff_getElem.1 h;exact .inr ⟨i,J,rfl,by simp[kv,h],of_decide_eq_true U⟩
def kH(s:cm)(x:aU):ai:=au [(2,.ptr 2 []),(3,.ptr 3 []),(4,.ptr 4 []),(5,.bool false),(6,.bool (decide (x.aH∈s.here))),(7,.int .i64 (kv s x.no)),(8,.bool (gY s x))] [(4,.box (.agg [.int .i64 0,.nils 1,.int .i64 0,.nils 4,.nils 4])),(3,.box (enc x)),(2,.box (enc s))]
theorem mU{W0:World}{bG:aP}{n:Nat}{own di:_}(y:bp)(Q:Exit→ai→Prop)(s:cm)(x:aU)(ao:s.bD.length≤1000)
  (h:ae { P:=Tryz.prog,fV:=W0,bG:=bG,n:=n,own:=own,di:=di,Y:=dv,lq:=none } y Q (kH s x)) :
  ae { P:=Tryz.prog,fV:=W0,bG:=bG,n:=n,own:=own,di:=di,Y:=dv,lq:=none } (.seq (.cw none BJ) (.seq (.cw none BK) (.seq (.cw none BL) (.seq (.cw AY BM) y)))) Q (au [(0,enc s),(1,enc x)] []):=by
 have hF1:=G4 s.here x.aH;have hF2:=G5 s x.no ao;have hg:decide ((-1:Int)≥0)=false:=rfl;unfold kH at h;rcases Fo s x.no with ⟨J,U⟩ | ⟨i,hi,J,U,-⟩
 ·have hm:gY s x=false:=by simp only[gY,J]
  rw[U] at hF2 h;rw[hm] at h;have R:=y6 @hg (y6 @cG (y6 @bm aC))
  repeat' ((first |(with_reducible refine .guard (fun hb =>?_) (fun hb =>?_) <;>try simp only[hb])|refine ae.aE (by decide +kernel) rfl fun K hK =>?_|refine .flat _ (hF1) rfl ?_|refine .flat _ (hF2) rfl ?_|(refine .av [0,1,2,3,4,5,6,7,8,45,46,54,63,73,91,117,128,141,144,149,161,186,190,197] hK ?_;clear hK K)|(with_reducible refine .done (hK _ ?_);clear hK K)|refine ae.of rfl ?_|(with_reducible refine ay.aD (fun h =>?_) (fun h =>?_) <;>try simp only[h])) <;>try simp only[aF,R,decide_false,simprocAttr])
  all_goals clear R
  refine ae.sub ?_ h;refine bw.dh ?_ ?_ ?_ ?_ <;>simp[cz,c6,cJ,cF,aw,cu,dE,I.only,I.cv,aq.only,cA]
 ·have hm:gY s x=((s.bD[i]).to==x.other&&(s.bD[i]).aH==x.aH):=by simp only[gY,J,zy3 hi]
  have hx:(if 0>(i:Int) then 0 else (i:Int))=(i:Int):=if_neg (by omega);have hg2:decide ((i:Int)≥0)=true:=by simp
  have he:=fun A=>eM (A:=A) 4 hi rfl;rw[U] at hF2 h;rw[hm] at h;rcases q1:((s.bD[i]).to==x.other)
  ·rw[q1,Bool.false_and] at h;have R:=y6 @hg2 (y6 @hx (y6 @he (y6 @q1 (y6 @cG (y6 @bm aC)))))
   repeat' ((first |(with_reducible refine .guard (fun hb =>?_) (fun hb =>?_) <;>try simp only[hb])|refine ae.aE (by decide +kernel) rfl fun K hK =>?_|refine .flat _ (hF1) rfl ?_|refine .flat _ (hF2) rfl ?_|(refine .av [0,1,2,3,4,5,6,7,8,45,46,54,63,73,91,117,128,141,144,149,161,186,190,197] hK ?_;clear hK K)|(with_reducible refine .done (hK _ ?_);clear hK K)|refine ae.of rfl ?_|(with_reducible refine ay.aD (fun h =>?_) (fun h =>?_) <;>try simp only[h])) <;>try simp only[aF,R,decide_true,simprocAttr])
   all_goals clear R
   refine ae.sub ?_ h;refine bw.dh ?_ ?_ ?_ ?_ <;>simp[cz,c6,cJ,cF,aw,cu,dE,I.only,I.cv,aq.only,cA]
  ·rw[q1,Bool.true_and] at h;have R:=y6 @hg2 (y6 @hx (y6 @he (y6 @q1 (y6 @cG (y6 @bm aC)))))
   repeat' ((first |(with_reducible refine .guard (fun hb =>?_) (fun hb =>?_) <;>try simp only[hb])|refine ae.aE (by decide +kernel) rfl fun K hK =>?_|refine .flat _ (hF1) rfl ?_|refine .flat _ (hF2) rfl ?_|(refine .av [0,1,2,3,4,5,6,7,8,45,46,54,63,73,91,117,128,141,144,149,161,186,190,197] hK ?_;clear hK K)|(with_reducible refine .done (hK _ ?_);clear hK K)|refine ae.of rfl ?_|(with_reducible refine ay.aD (fun h =>?_) (fun h =>?_) <;>try simp only[h])) <;>try simp only[aF,R,decide_true,simprocAttr])
   all_goals clear R
   refine ae.sub ?_ h;refine bw.dh ?_ ?_ ?_ ?_ <;>simp[cz,c6,cJ,cF,aw,cu,dE,I.only,I.cv,aq.only,cA]
structure jP (s:cm):Prop where
 ao:s.bD.length≤1000
 bM:s.here.length≤1000
 ab:s.bo.length≤1000
 aY:0≤s.dA
 J:s.dA≤1000
theorem fL(b:Bool):b=false∨b=true:=by cases b <;>simp
theorem GW(s:cm)(x:aU)(ab:jP s)(hk:x.kind=1):aZ Tryz.prog 76 [enc s,enc x] (.tuple [enc (cL s x).1,enc (cL s x).2]):=by
 refine aZ.b5 Tryz.func76 mG mH mJ (u8 rfl) (fun hwf W0 bG E1 =>?_);simp only[lJ,l8,bI,zz1];clear hwf;refine mU _ _ s x ab.ao ?_;unfold kH;have hk1:(x.kind==1)=true:=by rw[hk];rfl
 have hF1:=uw s x.aH ab.ao;have hF2:=r8 s.here x.aH ab.bM;rcases fL (decide (x.aH∈s.here)) with q | q
 ·rcases fL (iv s x.aH) with q2 | q2
  ·rw[show cL s x=({ s with here:=ej s.here x.aH },true) by simp only[cL,hk,q,q2];rfl];have R:=y6 @hk1 (y6 @q (y6 @q2 (y6 @cG (y6 @bm aC))))
   repeat' ((first |(with_reducible refine .guard (fun hb =>?_) (fun hb =>?_) <;>try simp only[hb])|refine ae.aE (by decide +kernel) rfl fun K hK =>?_|refine .flat _ (hF1) rfl ?_|refine .lead _ (hF2) ?_|(refine .av [0,1,2,3,4,5,6,7,8,45,46,54,63,73,91,117,128,141,144,149,161,186,190,197] hK ?_;clear hK K)|(with_reducible refine .done (hK _ ?_);clear hK K)|refine ae.of rfl ?_|(with_reducible refine ay.aD (fun h =>?_) (fun h =>?_) <;>try simp only[h])) <;>try simp only[aF,R,simprocAttr])
   all_goals clear R
  ·rw[show cL s x=(s,false) by simp only[cL,hk,q,q2];rfl];have R:=y6 @hk1 (y6 @q (y6 @q2 (y6 @cG (y6 @bm aC))))
   repeat' ((first |(with_reducible refine .guard (fun hb =>?_) (fun hb =>?_) <;>try simp only[hb])|refine ae.aE (by decide +kernel) rfl fun K hK =>?_|refine .flat _ (hF1) rfl ?_|refine .lead _ (hF2) ?_|(refine .av [0,1,2,3,4,5,6,7,8,45,46,54,63,73,91,117,128,141,144,149,161,186,190,197] hK ?_;clear hK K)|(with_reducible refine .done (hK _ ?_);clear hK K)|refine ae.of rfl ?_|(with_reducible refine ay.aD (fun h =>?_) (fun h =>?_) <;>try simp only[h])) <;>try simp only[aF,R,simprocAttr])
   all_goals clear R
 ·rw[show cL s x=(s,false) by simp only[cL,hk,q];rfl];have R:=y6 @hk1 (y6 @q (y6 @cG (y6 @bm aC)))
  repeat' ((first |(with_reducible refine .guard (fun hb =>?_) (fun hb =>?_) <;>try simp only[hb])|refine ae.aE (by decide +kernel) rfl fun K hK =>?_|refine .flat _ (hF1) rfl ?_|refine .lead _ (hF2) ?_|(refine .av [0,1,2,3,4,5,6,7,8,45,46,54,63,73,91,117,128,141,144,149,161,186,190,197] hK ?_;clear hK K)|(with_reducible refine .done (hK _ ?_);clear hK K)|refine ae.of rfl ?_|(with_reducible refine ay.aD (fun h =>?_) (fun h =>?_) <;>try simp only[h])) <;>try simp only[aF,R,simprocAttr])
  all_goals clear R
theorem GX(s:cm)(x:aU)(ab:jP s)(hk:x.kind=2):aZ Tryz.prog 76 [enc s,enc x] (.tuple [enc (cL s x).1,enc (cL s x).2]):=by
 refine aZ.b5 Tryz.func76 mG mH mJ (u8 rfl) (fun hwf W0 bG E1 =>?_);simp only[lJ,l8,bI,zz1];clear hwf;refine mU _ _ s x ab.ao ?_;unfold kH;have hk1:(x.kind==1)=false:=by rw[hk];rfl
 have hk2:(x.kind==2)=true:=by rw[hk];rfl
 have hF2:=x6 s.here x.aH ab.bM;rw[show cL s x=({ s with here:=gX s.here x.aH },decide (x.aH∈s.here)) by simp only[cL,hk];rfl];have R:=y6 @hk1 (y6 @hk2 (y6 @cG (y6 @bm aC)))
 repeat' ((first |(with_reducible refine .guard (fun hb =>?_) (fun hb =>?_) <;>try simp only[hb])|refine ae.aE (by decide +kernel) rfl fun K hK =>?_|refine .lead _ (hF2) ?_|(refine .av [0,1,2,3,4,5,6,7,8,45,46,54,63,73,91,117,128,141,144,149,161,186,190,197] hK ?_;clear hK K)|(with_reducible refine .done (hK _ ?_);clear hK K)|refine ae.of rfl ?_|(with_reducible refine ay.aD (fun h =>?_) (fun h =>?_) <;>try simp only[h])) <;>try simp only[aF,R,simprocAttr])
 all_goals clear R
theorem GY(s:cm)(x:aU)(ab:jP s)(hk:x.kind=3):aZ Tryz.prog 76 [enc s,enc x] (.tuple [enc (cL s x).1,enc (cL s x).2]):=by
 refine aZ.b5 Tryz.func76 mG mH mJ (u8 rfl) (fun hwf W0 bG E1 =>?_);simp only[lJ,l8,bI,zz1];clear hwf;refine mU _ _ s x ab.ao ?_;unfold kH;have hk1:(x.kind==1)=false:=by rw[hk];rfl
 have hk2:(x.kind==2)=false:=by rw[hk];rfl
 have hk3:(x.kind==3)=true:=by rw[hk];rfl
 have hw:IntKind.i64.wrap (s.dA+1)=s.dA+1:=by have:=ab.aY;have:=ab.J;exact mB _ (by omega) (by omega)
 have hF2:=x6 s.here x.aH ab.bM;have e3:cL s x=if x.aH∉s.here∨x.other=s.az∨x.no≠s.dA+1 then (s,false) else ({ s with here:=gX s.here x.aH,dA:=x.no,bD:=s.bD++[⟨x.no,x.other,x.aH,false⟩] },true):=by simp only[cL,hk];rfl
 rcases fL (decide (x.aH∈s.here)) with q | q
 ·rw[e3,if_pos (.inl (of_decide_eq_false q))];have R:=y6 @hk1 (y6 @hk2 (y6 @hk3 (y6 @q (y6 @cG (y6 @bm aC)))))
  repeat' ((first |(with_reducible refine .guard (fun hb =>?_) (fun hb =>?_) <;>try simp only[hb])|refine ae.aE (by decide +kernel) rfl fun K hK =>?_|refine .lead _ (hF2) ?_|(refine .av [0,1,2,3,4,5,6,7,8,45,46,54,63,73,91,117,128,141,144,149,161,186,190,197] hK ?_;clear hK K)|(with_reducible refine .done (hK _ ?_);clear hK K)|refine ae.of rfl ?_|(with_reducible refine ay.aD (fun h =>?_) (fun h =>?_) <;>try simp only[h])) <;>try simp only[aF,R,simprocAttr])
  all_goals clear R
 rcases fL (x.other==s.az) with q2 | q2
 rotate_left
 ·rw[e3,if_pos (.inr (.inl (by simpa using q2)))];have R:=y6 @hk1 (y6 @hk2 (y6 @hk3 (y6 @q (y6 @q2 (y6 @cG (y6 @bm aC))))))
  repeat' ((first |(with_reducible refine .guard (fun hb =>?_) (fun hb =>?_) <;>try simp only[hb])|refine ae.aE (by decide +kernel) rfl fun K hK =>?_|refine .lead _ (hF2) ?_|(refine .av [0,1,2,3,4,5,6,7,8,45,46,54,63,73,91,117,128,141,144,149,161,186,190,197] hK ?_;clear hK K)|(with_reducible refine .done (hK _ ?_);clear hK K)|refine ae.of rfl ?_|(with_reducible refine ay.aD (fun h =>?_) (fun h =>?_) <;>try simp only[h])) <;>try simp only[aF,R,simprocAttr])
  all_goals clear R
 rcases fL (x.no != s.dA+1) with q3 | q3
 rotate_left
 ·rw[e3,if_pos (.inr (.inr (by simpa using q3)))];have R:=y6 @hk1 (y6 @hk2 (y6 @hk3 (y6 @q (y6 @q2 (y6 @q3 (y6 @hw (y6 @cG (y6 @bm aC))))))))
  repeat' ((first |(with_reducible refine .guard (fun hb =>?_) (fun hb =>?_) <;>try simp only[hb])|refine ae.aE (by decide +kernel) rfl fun K hK =>?_|refine .lead _ (hF2) ?_|(refine .av [0,1,2,3,4,5,6,7,8,45,46,54,63,73,91,117,128,141,144,149,161,186,190,197] hK ?_;clear hK K)|(with_reducible refine .done (hK _ ?_);clear hK K)|refine ae.of rfl ?_|(with_reducible refine ay.aD (fun h =>?_) (fun h =>?_) <;>try simp only[h])) <;>try simp only[aF,R,simprocAttr])
  all_goals clear R
 have J:x.aH∈s.here:=of_decide_eq_true q;have U:¬ x.other=s.az:=by simpa using q2
 have ah:x.no=s.dA+1:=by simpa using q3
 rw[e3,if_neg (fun h=>h.elim (fun h=>h J) fun h=>h.elim U fun h=>h ah)];have ao:=ab.ao;obtain ⟨q0,hq0⟩:∃ q0:cm,q0 = { s with here:=gX s.here x.aH,dA:=x.no } :=⟨_,rfl⟩
 have hr0:q0.bD=s.bD:=by rw[hq0]
 have R:=y6 @hk1 (y6 @hk2 (y6 @hk3 (y6 @q (y6 @q2 (y6 @q3 (y6 @hw (y6 @cG (y6 @bm aC))))))))
 repeat' ((first |(with_reducible refine .guard (fun hb =>?_) (fun hb =>?_) <;>try simp only[hb])|refine ae.aE (by decide +kernel) rfl fun K hK =>?_|refine .lead _ (hF2) ?_|(refine .av [0,1,2,3,4,5,6,7,8,45,46,54,63,73,91,117,128,141,144,149,161,186,190,197] hK ?_;clear hK K)|(with_reducible refine .done (hK _ ?_);clear hK K)|refine ae.of rfl ?_|(with_reducible refine ay.aD (fun h =>?_) (fun h =>?_) <;>try simp only[h])) <;>try simp only[aF,R,simprocAttr])
 all_goals clear R
 rw[←hq0];refine ae.rD (gs:=v8) [] [(102,[])] [0,1,2,4,5,6,7,8,9,10,11,3,12,13,14] (by decide +kernel) (cW.of (by simp[fo,cu,qX,I.only])) fun K hK =>?_;have hbs:∀ y:cZ,fg 4 (some [enc y])=some (enc [y]):=fun y=>iy 4 y rfl
 try simp only[e8,v8,zy6,zy7,zv3,vt,sD,hl,hbs,cG,aC,bq,simprocAttr]
 refine bO.ji pR rfl (pg _ []) rfl (by simp[hr0];omega) (by simp[maxLen,hr0];omega) fun v1 o1 g1 f1 =>?_
 try simp only[bq,simprocAttr]
 refine bO.ji pR rfl g1 (f1 114 (by decide)) (by simp[hr0];omega) (by simp[maxLen,hr0];omega) fun v2 o2 g2 f2 =>?_;have ho2:aj o2 2=some (.box (enc q0)):=(f2 2 (by decide)).trans (f1 2 (by decide));have ho4:aj o2 4=some (.box (.agg [.int .i64 0,.nils 1,.int .i64 0,.nils 4,.nils 4])):=(f2 4 (by decide)).trans (f1 4 (by decide));have ab:=xX (q:=q0) (pf g2);have ht:=ub (a:=q0.az) (h:=q0.here) (s:=q0.dA) (pf g2) (w7 q0.bo);have hf:∀ ts os,aj os 105=aj o2 105→aj os 114=aj o2 114→bj true (au ts os) (gD q0.az (enc q0.here) q0.dA v2 (enc q0.bo))=some (enc ({ s with here:=gX s.here x.aH,dA:=x.no,bD:=s.bD++[⟨x.no,x.other,x.aH,false⟩] } : cm)):=fun ts os J U =>
  (uc (es:=q0.bo) (pd rfl g2 (by intro m hm;simp only[zv1,List.not_mem_nil,or_false] at hm;rcases hm with rfl | rfl;exact U;exact J)) (by simp only[kR])).trans (by rw[hq0];rfl)
 try simp only[ho2,ab,cG,aC,bq,simprocAttr]
 refine .done (hK _ ?_);clear hK K;have R:=y6 @ho4 (y6 @ht (y6 @hf (y6 @cG aC)))
 repeat' ((first |(with_reducible refine .guard (fun hb =>?_) (fun hb =>?_) <;>try simp only[hb])|refine ae.aE (by decide +kernel) rfl fun K hK =>?_|(refine .av [0,1,2,3,4,5,6,7,8,45,46,54,63,73,91,117,128,141,144,149,161,186,190,197] hK ?_;clear hK K)|(with_reducible refine .done (hK _ ?_);clear hK K)|refine ae.of rfl ?_|(with_reducible refine ay.aD (fun h =>?_) (fun h =>?_) <;>try simp only[h])) <;>try simp only[aF,R,simprocAttr])
 all_goals clear R
theorem wM{s:cm}{x:aU}(h:gY s x=true):∃ i,∃ h:i<s.bD.length,jF s x.no=some i∧kv s x.no=(i:Int)∧atR s x=i∧oS s x=(s.bD[i]).dz:=by
 rcases Fo s x.no with ⟨J,U⟩ | ⟨i,hi,J,U,-⟩
 ·simp only[gY,J] at h;cases h
 ·exact ⟨i,hi,J,U,by simp only[atR,J];rfl,by simp only[oS,J,zy3 hi]⟩
theorem CP{α β:Type}(e:α→β)(f:α→α):∀ (l:List α) (i:Nat) (h:i<l.length),(l.map e).set i (e (f l[i]))=(l.modify i f).map e
 |x::l,0,_=>rfl
 |x::l,i+1,h=>by
  have:=CP e f l i (by simpa using h);simp only[zz3,List.set_cons_succ,List.modify_succ_cons,List.getElem_cons_succ,this]
theorem aac{A:ai}{n i:Nat}{xs:List cZ}{c v:Bool}{rest:List aI}(hi:i<xs.length):dk A none n [i,3] (.agg (xs.map enc)) (.bool v) rest (some (.bool c))=aB rest (A.aT n (.box (.agg ((xs.modify i fun r => { r with dz:=v }).map enc)))):=by
 rw[dK (s:=none) (v:=.bool v) (old:=.bool c) rfl rfl rfl];have U:(xs.map (enc (α:=cZ)))[i]?=some (enc xs[i]):=by simp[hi]
 have ah:(enc xs[i]:I).ep [3] (.bool v)=enc ({ xs[i] with dz:=v } : cZ):=rfl;have ar:(xs.map (enc (α:=cZ))).set i (enc ({ xs[i] with dz:=v } : cZ))=(xs.modify i fun r => { r with dz:=v }).map enc:=CP enc (fun r:cZ => { r with dz:=v }) xs i hi;simp only[I.ep,U,ah,ar]
theorem HQ{i:Nat}{xs:List cZ}(hi:i<xs.length):kL i [3] (some (xs.map enc))=some (.bool (xs[i]).dz):=by
 simp only[kL,zy9,zy3 hi,zz9,nx];rfl
theorem CZ{α:Type}(f:α→α):∀ (l r:List α) (i:Nat),i<l.length→(l++r).modify i f=l.modify i f++r
 | [],_,_,h=>by simp at h
 |x::l,r,0,_=>rfl
 |x::l,r,i+1,h=>by
  have:=CZ f l r i (by simpa using h);simp only[zz5,List.modify_succ_cons,this]
theorem GZ(s:cm)(x:aU)(ab:jP s)(hk:x.kind=4):aZ Tryz.prog 76 [enc s,enc x] (.tuple [enc (cL s x).1,enc (cL s x).2]):=by
 refine aZ.b5 Tryz.func76 mG mH mJ (u8 rfl) (fun hwf W0 bG E1 =>?_);simp only[lJ,l8,bI,zz1];clear hwf;refine mU _ _ s x ab.ao ?_;unfold kH;have hk1:(x.kind==1)=false:=by rw[hk];rfl
 have hk2:(x.kind==2)=false:=by rw[hk];rfl
 have hk3:(x.kind==3)=false:=by rw[hk];rfl
 have hk4:(x.kind==4)=true:=by rw[hk];rfl
 rcases fL (gY s x) with q | q
 ·rw[show cL s x=(s,false) by simp only[cL,hk,q];rfl];have R:=y6 @hk1 (y6 @hk2 (y6 @hk3 (y6 @hk4 (y6 @q (y6 @cG (y6 @bm aC))))))
  repeat' ((first |(with_reducible refine .guard (fun hb =>?_) (fun hb =>?_) <;>try simp only[hb])|refine ae.aE (by decide +kernel) rfl fun K hK =>?_|(refine .av [0,1,2,3,4,5,6,7,8,45,46,54,63,73,91,117,128,141,144,149,161,186,190,197] hK ?_;clear hK K)|(with_reducible refine .done (hK _ ?_);clear hK K)|refine ae.of rfl ?_|(with_reducible refine ay.aD (fun h =>?_) (fun h =>?_) <;>try simp only[h])) <;>try simp only[aF,R,simprocAttr])
  all_goals clear R
 ·obtain ⟨i,hi,J,U,ah,ar⟩:=wM q;have he:=fun A=>eM (A:=A) 4 hi rfl;rcases fL (s.bD[i]).dz with q2 | q2
  rotate_left
  ·rw[show cL s x=(s,false) by simp only[cL,hk,q,ar,q2];rfl];have R:=y6 @hk1 (y6 @hk2 (y6 @hk3 (y6 @hk4 (y6 @q (y6 @U (y6 @he (y6 @q2 (y6 @cG (y6 @bm aC)))))))))
   repeat' ((first |(with_reducible refine .guard (fun hb =>?_) (fun hb =>?_) <;>try simp only[hb])|refine ae.aE (by decide +kernel) rfl fun K hK =>?_|(refine .av [0,1,2,3,4,5,6,7,8,45,46,54,63,73,91,117,128,141,144,149,161,186,190,197] hK ?_;clear hK K)|(with_reducible refine .done (hK _ ?_);clear hK K)|refine ae.of rfl ?_|(with_reducible refine ay.aD (fun h =>?_) (fun h =>?_) <;>try simp only[h])) <;>try simp only[aF,R,simprocAttr])
   all_goals clear R
  ·rw[show cL s x=({ s with bD:=s.bD.modify i fun r => { r with dz:=true } },true) by simp only[cL,hk,q,ah,ar,q2];rfl];have R:=y6 @hk1 (y6 @hk2 (y6 @hk3 (y6 @hk4 (y6 @q (y6 @U (y6 @he (y6 @q2 (y6 @vt (y6 @hl (y6 @cG (y6 @bm aC)))))))))))
   repeat' ((first |(with_reducible refine .guard (fun hb =>?_) (fun hb =>?_) <;>try simp only[hb])|refine ae.aE (by decide +kernel) rfl fun K hK =>?_|(refine .av [0,1,2,3,4,5,6,7,8,45,46,54,63,73,91,117,128,141,144,149,161,186,190,197] hK ?_;clear hK K)|(with_reducible refine .done (hK _ ?_);clear hK K)|refine ae.of rfl ?_|(with_reducible refine ay.aD (fun h =>?_) (fun h =>?_) <;>try simp only[h])) <;>try simp only[aF,R,simprocAttr])
   all_goals clear R
   have ao:=ab.ao;refine aQ.ji pR rfl (pg _ []) rfl (by simp;omega) (by simp[maxLen];omega) fun v2 o2 g2 f2 =>?_;have hne:s.bD≠[]:=fun h=>by rw[h] at hi;simp at hi
   rw[zv3] at g2;rcases g2 with ⟨hz,_⟩ | ⟨n,qq,hn,rfl,hrow⟩
   ·exact absurd hz hne
   rw[zx5] at hn;subst hn;have ho2:aj o2 2=some (.box (enc s)):=f2 2 (by decide);have ho4:aj o2 4=some (.box (.agg [.int .i64 0,.nils 1,.int .i64 0,.nils 4,.nils 4])):=f2 4 (by decide);have hone:jO (.view 133 [] 4 0 s.bD.length):=⟨rfl,rfl,rfl,rfl⟩
   have hs3:=xX (q:=s) hone
   try simp only[ho2,hs3,cG,aC,bq,simprocAttr]
   have hof:∀ w,db [.int .i64 s.az,enc s.here,.int .i64 s.dA,.view 133 [] 4 0 s.bD.length,enc s.bo] 3 3 w=some w:=fun w=>iK (by simp) (by simp[I.sizes,I.size,jQ,jy]);have hok:b8 none (.view 133 [] 4 0 s.bD.length)=true:=rfl;have hi':i<(s.bD++qq).length:=by rw[zz7];omega
   have hv:∀ fs,lU 133 [] 4 0 s.bD.length 4 (i:Int) (some fs)=some (.ptr 133 [i]):=fun fs=>by
    have:=Cn (m:=133) (sz:=4) (lo:=0) (l:=s.bD.length) (i:=i) (fs:=fs) hi
    rwa [zz1] at this
   have hat:kL i [] (some ((s.bD++qq).map enc))=some (enc s.bD[i]):=by
    simp only[kL,zy9,zy4 hi,zy3 hi,zz9,nx,yM]
   have hat2:=HQ hi';have hst:=fun A rest c v=>aac (A:=A) (n:=133) (rest:=rest) (c:=c) (v:=v) hi';simp only[CZ _ _ _ _ hi] at hst;have ht:=ub (a:=s.az) (h:=s.here) (s:=s.dA) hone (w7 s.bo);have hf:∀ ts os,aj os 133=some (.box (.agg (((s.bD.modify i fun r => { r with dz:=true })++qq).map enc)))→bj true (au ts os) (gD s.az (enc s.here) s.dA (.view 133 [] 4 0 s.bD.length) (enc s.bo))=some (enc ({ s with bD:=s.bD.modify i fun r => { r with dz:=true } } : cm)):=fun ts os J =>
    uc (rs:=s.bD.modify i fun r => { r with dz:=true }) (pd (esz:=4) (S:=[133]) (os:=os) rfl (.inr ⟨133,qq,zx5.2 rfl,by rw[List.length_modify],J⟩) fun _ _=>rfl) (by simp only[kR])
   have R:=y6 @hrow (y6 @hof (y6 @hv (y6 @hat (y6 @hat2 (y6 @hst (y6 @ho4 (y6 @ht (y6 @hf (y6 @hok (y6 @hl (y6 @cG (y6 @bm aC))))))))))))
   repeat' ((first |(with_reducible refine .guard (fun hb =>?_) (fun hb =>?_) <;>try simp only[hb])|refine ae.aE (by decide +kernel) rfl fun K hK =>?_|(refine .av [0,1,2,3,4,5,6,7,8,45,46,54,63,73,91,117,128,141,144,149,161,186,190,197] hK ?_;clear hK K)|(with_reducible refine .done (hK _ ?_);clear hK K)|refine ae.of rfl ?_|(with_reducible refine ay.aD (fun h =>?_) (fun h =>?_) <;>try simp only[h])) <;>try simp only[aF,R,zz5,simprocAttr])
   all_goals clear R
theorem G0(s:cm)(x:aU)(ab:jP s)(hk:x.kind=5):aZ Tryz.prog 76 [enc s,enc x] (.tuple [enc (cL s x).1,enc (cL s x).2]):=by
 refine aZ.b5 Tryz.func76 mG mH mJ (u8 rfl) (fun hwf W0 bG E1 =>?_);simp only[lJ,l8,bI,zz1];clear hwf;refine mU _ _ s x ab.ao ?_;unfold kH;have hk1:(x.kind==1)=false:=by rw[hk];rfl
 have hk2:(x.kind==2)=false:=by rw[hk];rfl
 have hk3:(x.kind==3)=false:=by rw[hk];rfl
 have hk4:(x.kind==4)=false:=by rw[hk];rfl
 have hk5:(x.kind==5)=true:=by rw[hk];rfl
 rcases fL (gY s x) with q | q
 ·rw[show cL s x=(s,false) by simp only[cL,hk,q];rfl];have R:=y6 @hk1 (y6 @hk2 (y6 @hk3 (y6 @hk4 (y6 @hk5 (y6 @q (y6 @cG (y6 @bm aC)))))))
  repeat' ((first |(with_reducible refine .guard (fun hb =>?_) (fun hb =>?_) <;>try simp only[hb])|refine ae.aE (by decide +kernel) rfl fun K hK =>?_|(refine .av [0,1,2,3,4,5,6,7,8,45,46,54,63,73,91,117,128,141,144,149,161,186,190,197] hK ?_;clear hK K)|(with_reducible refine .done (hK _ ?_);clear hK K)|refine ae.of rfl ?_|(with_reducible refine ay.aD (fun h =>?_) (fun h =>?_) <;>try simp only[h])) <;>try simp only[aF,R,simprocAttr])
  all_goals clear R
 ·obtain ⟨i,hi,J,U,ah,ar⟩:=wM q;rw[show cL s x=(je s i,true) by simp only[cL,hk,q,ah];rfl];have hF:=x7 s i hi ab.ao;have R:=y6 @hk1 (y6 @hk2 (y6 @hk3 (y6 @hk4 (y6 @hk5 (y6 @q (y6 @U (y6 @cG (y6 @bm aC))))))))
  repeat' ((first |(with_reducible refine .guard (fun hb =>?_) (fun hb =>?_) <;>try simp only[hb])|refine ae.aE (by decide +kernel) rfl fun K hK =>?_|refine .lead _ (hF) ?_|(refine .av [0,1,2,3,4,5,6,7,8,45,46,54,63,73,91,117,128,141,144,149,161,186,190,197] hK ?_;clear hK K)|(with_reducible refine .done (hK _ ?_);clear hK K)|refine ae.of rfl ?_|(with_reducible refine ay.aD (fun h =>?_) (fun h =>?_) <;>try simp only[h])) <;>try simp only[aF,R,simprocAttr])
  all_goals clear R
theorem G1(s:cm)(x:aU)(ab:jP s)(hk:x.kind=6):aZ Tryz.prog 76 [enc s,enc x] (.tuple [enc (cL s x).1,enc (cL s x).2]):=by
 refine aZ.b5 Tryz.func76 mG mH mJ (u8 rfl) (fun hwf W0 bG E1 =>?_);simp only[lJ,l8,bI,zz1];clear hwf;refine mU _ _ s x ab.ao ?_;unfold kH;have hk1:(x.kind==1)=false:=by rw[hk];rfl
 have hk2:(x.kind==2)=false:=by rw[hk];rfl
 have hk3:(x.kind==3)=false:=by rw[hk];rfl
 have hk4:(x.kind==4)=false:=by rw[hk];rfl
 have hk5:(x.kind==5)=false:=by rw[hk];rfl
 have hk6:(x.kind==6)=true:=by rw[hk];rfl
 rcases fL (gY s x) with q | q
 ·rw[show cL s x=(s,false) by simp only[cL,hk,q];rfl];have R:=y6 @hk1 (y6 @hk2 (y6 @hk3 (y6 @hk4 (y6 @hk5 (y6 @hk6 (y6 @q (y6 @cG (y6 @bm aC))))))))
  repeat' ((first |(with_reducible refine .guard (fun hb =>?_) (fun hb =>?_) <;>try simp only[hb])|refine ae.aE (by decide +kernel) rfl fun K hK =>?_|(refine .av [0,1,2,3,4,5,6,7,8,45,46,54,63,73,91,117,128,141,144,149,161,186,190,197] hK ?_;clear hK K)|(with_reducible refine .done (hK _ ?_);clear hK K)|refine ae.of rfl ?_|(with_reducible refine ay.aD (fun h =>?_) (fun h =>?_) <;>try simp only[h])) <;>try simp only[aF,R,simprocAttr])
  all_goals clear R
 ·obtain ⟨i,hi,J,U,ah,ar⟩:=wM q;have he:=fun A=>eM (A:=A) 4 hi rfl;rcases fL (s.bD[i]).dz with q2 | q2
  ·rw[show cL s x=(s,false) by simp only[cL,hk,q,ar,q2];rfl];have R:=y6 @hk1 (y6 @hk2 (y6 @hk3 (y6 @hk4 (y6 @hk5 (y6 @hk6 (y6 @q (y6 @U (y6 @he (y6 @q2 (y6 @cG (y6 @bm aC)))))))))))
   repeat' ((first |(with_reducible refine .guard (fun hb =>?_) (fun hb =>?_) <;>try simp only[hb])|refine ae.aE (by decide +kernel) rfl fun K hK =>?_|(refine .av [0,1,2,3,4,5,6,7,8,45,46,54,63,73,91,117,128,141,144,149,161,186,190,197] hK ?_;clear hK K)|(with_reducible refine .done (hK _ ?_);clear hK K)|refine ae.of rfl ?_|(with_reducible refine ay.aD (fun h =>?_) (fun h =>?_) <;>try simp only[h])) <;>try simp only[aF,R,simprocAttr])
   all_goals clear R
  ·rw[show cL s x=({ je s i with here:=ej s.here x.aH },true) by simp only[cL,hk,q,ah,ar,q2];rfl];have hF:=x7 s i hi ab.ao;have hF2:=r8 s.here x.aH ab.bM;have R:=y6 @hk1 (y6 @hk2 (y6 @hk3 (y6 @hk4 (y6 @hk5 (y6 @hk6 (y6 @q (y6 @U (y6 @he (y6 @q2 (y6 @cG (y6 @bm aC)))))))))))
   repeat' ((first |(with_reducible refine .guard (fun hb =>?_) (fun hb =>?_) <;>try simp only[hb])|refine ae.aE (by decide +kernel) rfl fun K hK =>?_|refine .lead _ (hF) ?_|refine .lead _ (hF2) ?_|(refine .av [0,1,2,3,4,5,6,7,8,45,46,54,63,73,91,117,128,141,144,149,161,186,190,197] hK ?_;clear hK K)|(with_reducible refine .done (hK _ ?_);clear hK K)|refine ae.of rfl ?_|(with_reducible refine ay.aD (fun h =>?_) (fun h =>?_) <;>try simp only[h])) <;>try simp only[aF,R,simprocAttr])
   all_goals clear R
theorem G2(s:cm)(x:aU)(ab:jP s)(hk:x.kind=7):aZ Tryz.prog 76 [enc s,enc x] (.tuple [enc (cL s x).1,enc (cL s x).2]):=by
 refine aZ.b5 Tryz.func76 mG mH mJ (u8 rfl) (fun hwf W0 bG E1 =>?_);simp only[lJ,l8,bI,zz1];clear hwf;refine mU _ _ s x ab.ao ?_;unfold kH;have hk1:(x.kind==1)=false:=by simp;omega
 have hk2:(x.kind==2)=false:=by simp;omega
 have hk3:(x.kind==3)=false:=by simp;omega
 have hk4:(x.kind==4)=false:=by simp;omega
 have hk5:(x.kind==5)=false:=by simp;omega
 have hk6:(x.kind==6)=false:=by simp;omega
 have e1:cL s x=if x.other=s.az∨gW s x.other x.no≠0 then (s,false)
   else if x.kind=7 then if decide (x.aH∈s.here)||iv s x.aH then (s,false) else (gf { s with here:=ej s.here x.aH } x,true)
   else (gf s x,true):=by
  unfold cL;rw[if_neg (by omega),if_neg (by omega),if_neg (by omega),if_neg (by omega),if_neg (by omega),if_neg (by omega)]
 have hF1:=uB s x.other x.no ab.ab;have hF2:=uw s x.aH ab.ao;have hF3:=r8 s.here x.aH ab.bM;rcases fL (x.other==s.az) with q | q
 rotate_left
 ·rw[e1,if_pos (.inl (by simpa using q))];have R:=y6 @hk1 (y6 @hk2 (y6 @hk3 (y6 @hk4 (y6 @hk5 (y6 @hk6 (y6 @q (y6 @cG (y6 @bm aC))))))))
  repeat' ((first |(with_reducible refine .guard (fun hb =>?_) (fun hb =>?_) <;>try simp only[hb])|refine ae.aE (by decide +kernel) rfl fun K hK =>?_|(refine .av [0,1,2,3,4,5,6,7,8,45,46,54,63,73,91,117,128,141,144,149,161,186,190,197] hK ?_;clear hK K)|(with_reducible refine .done (hK _ ?_);clear hK K)|refine ae.of rfl ?_|(with_reducible refine ay.aD (fun h =>?_) (fun h =>?_) <;>try simp only[h])) <;>try simp only[aF,R,simprocAttr])
  all_goals clear R
 rcases fL (gW s x.other x.no != 0) with q2 | q2
 rotate_left
 ·rw[e1,if_pos (.inr (by simpa using q2))];have R:=y6 @hk1 (y6 @hk2 (y6 @hk3 (y6 @hk4 (y6 @hk5 (y6 @hk6 (y6 @q (y6 @q2 (y6 @cG (y6 @bm aC)))))))))
  repeat' ((first |(with_reducible refine .guard (fun hb =>?_) (fun hb =>?_) <;>try simp only[hb])|refine ae.aE (by decide +kernel) rfl fun K hK =>?_|refine .flat _ (hF1) rfl ?_|(refine .av [0,1,2,3,4,5,6,7,8,45,46,54,63,73,91,117,128,141,144,149,161,186,190,197] hK ?_;clear hK K)|(with_reducible refine .done (hK _ ?_);clear hK K)|refine ae.of rfl ?_|(with_reducible refine ay.aD (fun h =>?_) (fun h =>?_) <;>try simp only[h])) <;>try simp only[aF,R,simprocAttr])
  all_goals clear R
 rw[e1,if_neg (fun h=>h.elim (by simpa using q) (by simpa using q2))];rw[if_pos hk];have hk7:(x.kind==7)=true:=by rw[hk];rfl
 rcases fL (decide (x.aH∈s.here)) with q3 | q3
 ·rcases fL (iv s x.aH) with q4 | q4
  ·rw[show (if (decide (x.aH∈s.here)||iv s x.aH)=true then ((s,false):cm×Bool) else (gf { s with here:=ej s.here x.aH } x,true))=(gf { s with here:=ej s.here x.aH } x,true) by rw[q3,q4];rfl];have hF4:=x8 { s with here:=ej s.here x.aH } x ab.ab;have R:=y6 @hk1 (y6 @hk2 (y6 @hk3 (y6 @hk4 (y6 @hk5 (y6 @hk6 (y6 @hk7 (y6 @q (y6 @q2 (y6 @q3 (y6 @q4 (y6 @cG (y6 @bm aC))))))))))))
   repeat' ((first |(with_reducible refine .guard (fun hb =>?_) (fun hb =>?_) <;>try simp only[hb])|refine ae.aE (by decide +kernel) rfl fun K hK =>?_|refine .flat _ (hF1) rfl ?_|refine .flat _ (hF2) rfl ?_|refine .lead _ (hF3) ?_|refine .lead _ (hF4) ?_|(refine .av [0,1,2,3,4,5,6,7,8,45,46,54,63,73,91,117,128,141,144,149,161,186,190,197] hK ?_;clear hK K)|(with_reducible refine .done (hK _ ?_);clear hK K)|refine ae.of rfl ?_|(with_reducible refine ay.aD (fun h =>?_) (fun h =>?_) <;>try simp only[h])) <;>try simp only[aF,R,simprocAttr])
   all_goals clear R
  ·rw[show (if (decide (x.aH∈s.here)||iv s x.aH)=true then ((s,false):cm×Bool) else (gf { s with here:=ej s.here x.aH } x,true))=(s,false) by rw[q3,q4];rfl];have R:=y6 @hk1 (y6 @hk2 (y6 @hk3 (y6 @hk4 (y6 @hk5 (y6 @hk6 (y6 @hk7 (y6 @q (y6 @q2 (y6 @q3 (y6 @q4 (y6 @cG (y6 @bm aC))))))))))))
   repeat' ((first |(with_reducible refine .guard (fun hb =>?_) (fun hb =>?_) <;>try simp only[hb])|refine ae.aE (by decide +kernel) rfl fun K hK =>?_|refine .flat _ (hF1) rfl ?_|refine .flat _ (hF2) rfl ?_|(refine .av [0,1,2,3,4,5,6,7,8,45,46,54,63,73,91,117,128,141,144,149,161,186,190,197] hK ?_;clear hK K)|(with_reducible refine .done (hK _ ?_);clear hK K)|refine ae.of rfl ?_|(with_reducible refine ay.aD (fun h =>?_) (fun h =>?_) <;>try simp only[h])) <;>try simp only[aF,R,simprocAttr])
   all_goals clear R
 ·rw[show (if (decide (x.aH∈s.here)||iv s x.aH)=true then ((s,false):cm×Bool) else (gf { s with here:=ej s.here x.aH } x,true))=(s,false) by rw[q3];rfl];have R:=y6 @hk1 (y6 @hk2 (y6 @hk3 (y6 @hk4 (y6 @hk5 (y6 @hk6 (y6 @hk7 (y6 @q (y6 @q2 (y6 @q3 (y6 @cG (y6 @bm aC)))))))))))
  repeat' ((first |(with_reducible refine .guard (fun hb =>?_) (fun hb =>?_) <;>try simp only[hb])|refine ae.aE (by decide +kernel) rfl fun K hK =>?_|refine .flat _ (hF1) rfl ?_|refine .flat _ (hF2) rfl ?_|(refine .av [0,1,2,3,4,5,6,7,8,45,46,54,63,73,91,117,128,141,144,149,161,186,190,197] hK ?_;clear hK K)|(with_reducible refine .done (hK _ ?_);clear hK K)|refine ae.of rfl ?_|(with_reducible refine ay.aD (fun h =>?_) (fun h =>?_) <;>try simp only[h])) <;>try simp only[aF,R,simprocAttr])
  all_goals clear R
theorem G3(s:cm)(x:aU)(ab:jP s)(hk:8≤x.kind∨x.kind<1):aZ Tryz.prog 76 [enc s,enc x] (.tuple [enc (cL s x).1,enc (cL s x).2]):=by
 refine aZ.b5 Tryz.func76 mG mH mJ (u8 rfl) (fun hwf W0 bG E1 =>?_);simp only[lJ,l8,bI,zz1];clear hwf;refine mU _ _ s x ab.ao ?_;unfold kH;have hk1:(x.kind==1)=false:=by simp;omega
 have hk2:(x.kind==2)=false:=by simp;omega
 have hk3:(x.kind==3)=false:=by simp;omega
 have hk4:(x.kind==4)=false:=by simp;omega
 have hk5:(x.kind==5)=false:=by simp;omega
 have hk6:(x.kind==6)=false:=by simp;omega
 have e1:cL s x=if x.other=s.az∨gW s x.other x.no≠0 then (s,false)
   else if x.kind=7 then if decide (x.aH∈s.here)||iv s x.aH then (s,false) else (gf { s with here:=ej s.here x.aH } x,true)
   else (gf s x,true):=by
  unfold cL;rw[if_neg (by omega),if_neg (by omega),if_neg (by omega),if_neg (by omega),if_neg (by omega),if_neg (by omega)]
 have hF1:=uB s x.other x.no ab.ab;have hF2:=uw s x.aH ab.ao;have hF3:=r8 s.here x.aH ab.bM;rcases fL (x.other==s.az) with q | q
 rotate_left
 ·rw[e1,if_pos (.inl (by simpa using q))];have R:=y6 @hk1 (y6 @hk2 (y6 @hk3 (y6 @hk4 (y6 @hk5 (y6 @hk6 (y6 @q (y6 @cG (y6 @bm aC))))))))
  repeat' ((first |(with_reducible refine .guard (fun hb =>?_) (fun hb =>?_) <;>try simp only[hb])|refine ae.aE (by decide +kernel) rfl fun K hK =>?_|(refine .av [0,1,2,3,4,5,6,7,8,45,46,54,63,73,91,117,128,141,144,149,161,186,190,197] hK ?_;clear hK K)|(with_reducible refine .done (hK _ ?_);clear hK K)|refine ae.of rfl ?_|(with_reducible refine ay.aD (fun h =>?_) (fun h =>?_) <;>try simp only[h])) <;>try simp only[aF,R,simprocAttr])
  all_goals clear R
 rcases fL (gW s x.other x.no != 0) with q2 | q2
 rotate_left
 ·rw[e1,if_pos (.inr (by simpa using q2))];have R:=y6 @hk1 (y6 @hk2 (y6 @hk3 (y6 @hk4 (y6 @hk5 (y6 @hk6 (y6 @q (y6 @q2 (y6 @cG (y6 @bm aC)))))))))
  repeat' ((first |(with_reducible refine .guard (fun hb =>?_) (fun hb =>?_) <;>try simp only[hb])|refine ae.aE (by decide +kernel) rfl fun K hK =>?_|refine .flat _ (hF1) rfl ?_|(refine .av [0,1,2,3,4,5,6,7,8,45,46,54,63,73,91,117,128,141,144,149,161,186,190,197] hK ?_;clear hK K)|(with_reducible refine .done (hK _ ?_);clear hK K)|refine ae.of rfl ?_|(with_reducible refine ay.aD (fun h =>?_) (fun h =>?_) <;>try simp only[h])) <;>try simp only[aF,R,simprocAttr])
  all_goals clear R
 rw[e1,if_neg (fun h=>h.elim (by simpa using q) (by simpa using q2))];rw[if_neg (by omega)];have hk7:(x.kind==7)=false:=by simp;omega
 have hF4:=x8 s x ab.ab;have R:=y6 @hk1 (y6 @hk2 (y6 @hk3 (y6 @hk4 (y6 @hk5 (y6 @hk6 (y6 @hk7 (y6 @q (y6 @q2 (y6 @cG (y6 @bm aC))))))))))
 repeat' ((first |(with_reducible refine .guard (fun hb =>?_) (fun hb =>?_) <;>try simp only[hb])|refine ae.aE (by decide +kernel) rfl fun K hK =>?_|refine .flat _ (hF1) rfl ?_|refine .lead _ (hF4) ?_|(refine .av [0,1,2,3,4,5,6,7,8,45,46,54,63,73,91,117,128,141,144,149,161,186,190,197] hK ?_;clear hK K)|(with_reducible refine .done (hK _ ?_);clear hK K)|refine ae.of rfl ?_|(with_reducible refine ay.aD (fun h =>?_) (fun h =>?_) <;>try simp only[h])) <;>try simp only[aF,R,simprocAttr])
 all_goals clear R
theorem GV(s:cm)(x:aU)(ab:jP s):aZ Tryz.prog 76 [enc s,enc x] (.tuple [enc (cL s x).1,enc (cL s x).2]):=by
 by_cases J:x.kind=1;· exact GW s x ab J
 by_cases U:x.kind=2;· exact GX s x ab U
 by_cases ah:x.kind=3;· exact GY s x ab ah
 by_cases ar:x.kind=4;· exact GZ s x ab ar
 by_cases h5:x.kind=5;· exact G0 s x ab h5
 by_cases h6:x.kind=6;· exact G1 s x ab h6
 by_cases h7:x.kind=7;· exact G2 s x ab h7
 exact G3 s x ab (by omega)
theorem DG:∀ (l:List Int) (n:Int),(ej l n).length≤l.length+1
 | [],n=>by simp[ej]
 |x::l,n=>by
  have:=DG l n;simp only[ej];split
  ·simp only[zw1];omega
  ·split <;>simp
theorem XG(l:List Int)(n:Int):(gX l n).length≤l.length:=List.length_filter_le _ _
theorem M5(s:cm)(i:Nat):(je s i).bD.length≤s.bD.length:=by
 simp only[je,zz7,zx3,List.length_drop];omega
structure kI (s:cm) (i:Nat):Prop where
 ao:s.bD.length≤i
 bM:s.here.length≤i
 ab:s.bo.length≤i
 aY:0≤s.dA
 J:s.dA≤i
theorem kI.small{s:cm}{i:Nat}(h:kI s i)(hi:i≤1000):jP s:=by
 obtain ⟨J,U,ah,ar,h5⟩:=h;exact ⟨by omega,by omega,by omega,ar,by omega⟩
theorem kI.next{s:cm}{i:Nat}(h:kI s i)(x:aU)(ht:(cL s x).2=true):kI (cL s x).1 (i+1):=by
 obtain ⟨J,U,ah,ar,h5⟩:=h;have hp:=DG s.here x.aH;have hq:=XG s.here x.aH;have he:=M5 s (atR s x);have hm:(s.bD.modify (atR s x) fun r => { r with dz:=true }).length=s.bD.length:=List.length_modify ..;have e1:(je s (atR s x)).here=s.here:=rfl;have e2:(je s (atR s x)).bo=s.bo:=rfl;have e3:(je s (atR s x)).dA=s.dA:=rfl;unfold cL at ht ⊢;split at ht
 ·rename_i hk;rw[if_pos hk];split at ht
  ·cases ht
  ·rename_i h;rw[if_neg h];exact ⟨by simp only;omega,by simp only;omega,by simp only;omega,ar,by simp only;omega⟩
 rename_i hk;rw[if_neg hk];clear hk;split at ht
 ·rename_i hk;rw[if_pos hk];exact ⟨by simp only;omega,by simp only;omega,by simp only;omega,ar,by simp only;omega⟩
 rename_i hk;rw[if_neg hk];clear hk;split at ht
 ·rename_i hk;rw[if_pos hk];split at ht
  ·cases ht
  ·rename_i h;rw[if_neg h];have:x.no=s.dA+1:=Classical.byContradiction fun hn=>h (.inr (.inr hn));exact ⟨by simp only[zz7,List.length_singleton];omega,by simp only;omega,by simp only;omega,by simp only;omega,by simp only;omega⟩
 rename_i hk;rw[if_neg hk];clear hk;split at ht
 ·rename_i hk;rw[if_pos hk];split at ht
  ·rename_i h;rw[if_pos h];exact ⟨by simp only[List.length_modify];omega,by simp only;omega,by simp only;omega,ar,by simp only;omega⟩
  ·cases ht
 rename_i hk;rw[if_neg hk];clear hk;split at ht
 ·rename_i hk;rw[if_pos hk];split at ht
  ·rename_i h;rw[if_pos h];exact ⟨by simp only;omega,by simp only[e1];omega,by simp only[e2];omega,by simp only[e3];omega,by simp only[e3];omega⟩
  ·cases ht
 rename_i hk;rw[if_neg hk];clear hk;split at ht
 ·rename_i hk;rw[if_pos hk];split at ht
  ·rename_i h;rw[if_pos h];exact ⟨by simp only;omega,by simp only;omega,by simp only[e2];omega,by simp only[e3];omega,by simp only[e3];omega⟩
  ·cases ht
 rename_i hk;rw[if_neg hk];clear hk;split at ht
 ·cases ht
 rename_i hk;rw[if_neg hk];clear hk;split at ht
 ·rename_i hk;rw[if_pos hk];split at ht
  ·cases ht
  ·rename_i h;rw[if_neg h];exact ⟨by simp only[gf];omega,by simp only[gf];omega,by simp only[gf,zz7,List.length_singleton];omega,ar,by simp only[gf];omega⟩
 ·rename_i hk;rw[if_neg hk];exact ⟨by simp only[gf];omega,by simp only[gf];omega,by simp only[gf,zz7,List.length_singleton];omega,ar,by simp only[gf];omega⟩
def fH(s:cm):List aU→cm×Bool
 | []=>(s,true)
 |x::l=>if hd x then (if (cL s x).2 then fH (cL s x).1 l else (s,false)) else (s,false)
def iW(az:Int):cm:=⟨az,[],0,[],[]⟩
def rR(az:Int):I:=.agg [.int .i64 az,.nils 1,.int .i64 0,.nils 4,.nils 4]
theorem Iq(az:Int):(dO [.int .i64 0,.nils 1,.int .i64 0,.nils 4,.nils 4] [(0,.int .i64 az)]).map I.agg=some (rR az):=by simp[dO,I.bS,I.size];rfl
def r6(b:I)(s:cm):Prop:=(b=rR s.az∧s=iW s.az)∨b=enc s
theorem r6.Bj{b:I}{s:cm}(h:r6 b s):b8 (some 5) b=true∧(∀ aL A,bj aL A b=some (enc s))∧(∀ A n rest (q:cm),dk A (some 5) n [] b (enc q) rest (some b)=aB rest (A.aT n (.box (enc q))))∧(∀ A n rest x y,dk A (some 5) n [] (.agg [.int .i64 x,.nils 1,.int .i64 y,.nils 4,.nils 4]) b rest (some (.agg [.int .i64 x,.nils 1,.int .i64 y,.nils 4,.nils 4]))=aB rest (A.aT n (.box b)))∧b.bS=true∧(∀ p,b.only p=true):=by
 rcases h with ⟨rfl,U⟩ | rfl
 ·refine ⟨rfl,fun aL A =>?_,fun A n rest q =>?_,fun A n rest x y=>dK rfl rfl rfl,rfl,fun _=>rfl⟩
  ·rw[U];simp only[rR,bj,bY];rfl
  ·rw[dK (eg _) (by rw[e7];rfl) ((eC _).trans rfl),nd]
 ·refine ⟨by rw[e7];rfl,fun aL A=>by simp only[kR],fun A n rest q =>?_,fun A n rest x y =>?_,eg _,fun _=>cA _ _⟩
  ·rw[dK (eg _) (by rw[e7];rfl) ((eC _).trans (eC _).symm),nd]
  ·rw[dK (eg _) (by rw[e7];rfl) (eC _),nd]
def uJ(p:bA)(n:Nat)(t:Nat×I×cm):ai:=au [(0,enc p),(1,.int .i64 n),(2,.ptr 2 []),(4,.ptr 4 []),(5,.bool false),(6,.ptr 6 []),(7,.int .i64 t.1)] [(6,.box t.2.1),(4,.box (.agg [.int .i64 0,.nils 1,.int .i64 0,.nils 4,.nils 4])),(2,.box (enc p))]
theorem yk(p:bA)(n:Nat)(hn:n≤p.j.length)(ao:n≤200):aZ Tryz.prog 65 [enc p,enc (n:Int)] (.tuple [enc (fH (iW p.az) (p.j.take n)).1,enc (fH (iW p.az) (p.j.take n)).2]):=by
 refine aZ.b5 Tryz.func65 Jd Kh LC (u8 rfl) (fun hwf W0 bG E1 =>?_);simp only[zK,EB,bI,zz1];clear hwf;generalize hL:p.j.take n=L;have hLl:L.length=n:=by rw[←hL,zx3];omega
 obtain ⟨z1,z2,z3,z4,z5,z6⟩:=r6.Bj (b:=rR p.az) (s:=iW p.az) (.inl ⟨rfl,rfl⟩);have R:=y6 @Iq (y6 @z4 (y6 @cG (y6 @er (y6 @bm aC))))
 repeat' ((first |refine ae.aE (by decide +kernel) rfl fun K hK =>?_|(refine .av [0,1,2,4,5,6,7,8,9,15,24,37] hK ?_;clear hK K)|(with_reducible refine .done (hK _ ?_);clear hK K)|refine ae.of rfl ?_|(with_reducible refine ay.aD (fun h =>?_) (fun h =>?_) <;>try simp only[h])) <;>try simp only[aF,R,simprocAttr])
 all_goals clear R
 refine ae.loop (uJ p n) (fun t=>t.1≤n∧fH (iW p.az) L=fH t.2.2 (L.drop t.1)∧kI t.2.2 t.1∧r6 t.2.1 t.2.2) (fun t=>n-t.1) (0,rR p.az,iW p.az) ⟨zw2 _,rfl,⟨zw2 _,zw2 _,zw2 _,Int.le_refl _,Int.le_refl _⟩,.inl ⟨rfl,rfl⟩⟩ ?_ ?_
 ·simp only[uJ];clear z1 z2 z3 z4 z5 hL;refine bw.dh ?_ ?_ ?_ ?_ <;>simp[*,cz,c6,cJ,cF,aw,cu,dE,I.only,I.cv,aq.only,cA]
 clear z1 z2 z3 z4 z5 z6;rintro ⟨i,b,s⟩ ⟨hi,hr,hu,hb0⟩;simp only at hi hr hu hb0;obtain ⟨z1,z2,z3,z4,z5,z6⟩:=hb0.Bj;simp only[uJ];by_cases hlt:i<n
 ·have hc:=ga hlt;have hij:i<p.j.length:=by omega
  have he:=fun A=>eM (A:=A) 4 hij rfl;have hw:=fJ (i:=i) (by omega);have hx:L.drop i=p.j[i]::L.drop (i+1):=by
   have U:i<L.length:=by omega
   rw[List.drop_eq_getElem_cons U]
   congr 1
   subst hL;rw[List.getElem_take]
  rw[hx] at hr;obtain ⟨x,hxe⟩:∃ x,x=p.j[i]:=⟨_,rfl⟩
  rw[←hxe] at he hr;have hF1:=Gx x;have hF2:=GV s x (hu.small (by omega));rcases fL (hd x) with q | q
  ·rw[hr,show fH s (x::L.drop (i+1))=(s,false) by simp only[fH,q];rfl];rw[q] at hF1;have R:=y6 @hc (y6 @he (y6 @z1 (y6 @z2 (y6 @z4 (y6 @cG (y6 @er (y6 @bm aC)))))))
   repeat' ((first |refine ae.aE (by decide +kernel) rfl fun K hK =>?_|refine .flat _ (hF1) rfl ?_|(refine .av [0,1,2,4,5,6,7,8,9,15,24,37] hK ?_;clear hK K)|(with_reducible refine .done (hK _ ?_);clear hK K)|refine ae.of rfl ?_|(with_reducible refine ay.aD (fun h =>?_) (fun h =>?_) <;>try simp only[h])) <;>try simp only[aF,R,simprocAttr])
   all_goals clear R
  ·rw[q] at hF1;rcases fL (cL s x).2 with q2 | q2
   ·rw[hr,show fH s (x::L.drop (i+1))=(s,false) by simp only[fH,q,q2];rfl];rw[q2] at hF2;have R:=y6 @hc (y6 @he (y6 @z1 (y6 @z2 (y6 @z4 (y6 @cG (y6 @er (y6 @bm aC)))))))
    repeat' ((first |refine ae.aE (by decide +kernel) rfl fun K hK =>?_|refine .flat _ (hF1) rfl ?_|refine .lead _ (hF2) ?_|(refine .av [0,1,2,4,5,6,7,8,9,15,24,37] hK ?_;clear hK K)|(with_reducible refine .done (hK _ ?_);clear hK K)|refine ae.of rfl ?_|(with_reducible refine ay.aD (fun h =>?_) (fun h =>?_) <;>try simp only[h])) <;>try simp only[aF,R,simprocAttr])
    all_goals clear R
   ·have hu':=hu.next x q2
    have hr':fH (iW p.az) L=fH (cL s x).1 (L.drop (i+1)):=by rw[hr];simp only[fH,q,q2,if_true]
    rw[q2] at hF2;have R:=y6 @hc (y6 @he (y6 @hw (y6 @z1 (y6 @z2 (y6 @z3 (y6 @cG (y6 @er (y6 @bm aC))))))))
    repeat' ((first |refine ae.aE (by decide +kernel) rfl fun K hK =>?_|refine .flat _ (hF1) rfl ?_|refine .lead _ (hF2) ?_|(refine .av [0,1,2,4,5,6,7,8,9,15,24,37] hK ?_;clear hK K)|(with_reducible refine .done (hK _ ?_);clear hK K)|refine ae.of rfl ?_|(with_reducible refine ay.aD (fun h =>?_) (fun h =>?_) <;>try simp only[h])) <;>try simp only[aF,R,simprocAttr])
    all_goals clear R
    refine ⟨(i+1,enc (cL s x).1,(cL s x).1),⟨by simp only;omega,hr',hu',.inr rfl⟩,by simp only;omega,?_⟩;simp only;clear hr hr' z1 z2 z3 z4 z5 z6;refine bw.dh ?_ ?_ ?_ ?_ <;>simp[cz,c6,cJ,cF,aw,cu,dE,I.only,I.cv,aq.only,cA]
 ·have hc:=gp hlt;have af:L.drop i=[]:=List.drop_eq_nil_of_le (by omega);rw[hr,af,show fH s []=(s,true) from rfl];have R:=y6 @hc (y6 @z1 (y6 @z2 (y6 @z4 (y6 @cG (y6 @er (y6 @bm aC))))))
  repeat' ((first |refine ae.aE (by decide +kernel) rfl fun K hK =>?_|(refine .av [0,1,2,4,5,6,7,8,9,15,24,37] hK ?_;clear hK K)|(with_reducible refine .done (hK _ ?_);clear hK K)|refine ae.of rfl ?_|(with_reducible refine ay.aD (fun h =>?_) (fun h =>?_) <;>try simp only[h])) <;>try simp only[aF,R,simprocAttr])
  all_goals clear R
def hZ(p:bA):cm:=(fH (iW p.az) p.j).1
theorem uA(p:bA)(ao:p.j.length≤200):aZ Tryz.prog 75 [enc p] (enc (hZ p)):=by
 refine aZ.b5 Tryz.func75 Jm Kq LM (u8 rfl) (fun hwf W0 bG E1 =>?_);simp only[zT,EK,bI];clear hwf;have hF:=yk p p.j.length (zz4 _) ao;rw[zv0] at hF;simp only[hZ];have R:=y6 @cG (y6 @er aC)
 repeat' ((first |refine ae.aE (by decide +kernel) rfl fun K hK =>?_|refine .lead _ (hF) ?_|(refine .av [0,1,2,3] hK ?_;clear hK K)|(with_reducible refine .done (hK _ ?_);clear hK K)|refine ae.of rfl ?_|(with_reducible refine ay.aD (fun h =>?_) (fun h =>?_) <;>try simp only[h])) <;>try simp only[aF,R,simprocAttr])
 all_goals clear R
def ez(p:bA):Int:=if cT 0 5 p.az=true∧p.j.length≤200∧cT 0 p.j.length p.eI=true∧(fH (iW p.az) p.j).2=true then 0 else 91
theorem sc(p:bA):aZ Tryz.prog 24 [enc p] (enc (ez p)):=by
 refine aZ.b5 Tryz.func24 IT JX Li (u8 rfl) (fun hwf W0 bG E1 =>?_);simp only[zn,Ee,bI];clear hwf;have hF1:=uy p.az;have hF2:=p7 p.eI 0 p.j.length;rcases fL (cT 0 5 p.az) with q | q
 ·rw[show ez p=91 from if_neg fun h=>by rw[q] at h;cases h.1];rw[q] at hF1;have R:=y6 @cG (y6 @er aC)
  repeat' ((first |(with_reducible refine .guard (fun hb =>?_) (fun hb =>?_) <;>try simp only[hb])|refine ae.aE (by decide +kernel) rfl fun K hK =>?_|refine .flat _ (hF1) rfl ?_|(refine .av [0,1,2,4,23,33] hK ?_;clear hK K)|(with_reducible refine .done (hK _ ?_);clear hK K)|refine ae.of rfl ?_|(with_reducible refine ay.aD (fun h =>?_) (fun h =>?_) <;>try simp only[h])) <;>try simp only[aF,R,simprocAttr])
  all_goals clear R
 rw[q] at hF1;rcases fL (decide ((p.j.length:Int)>200)) with q2 | q2
 rotate_left
 ·rw[show ez p=91 from if_neg fun h=>by have:=h.2.1;have:=of_decide_eq_true q2;omega];have R:=y6 @q2 (y6 @cG (y6 @er aC))
  repeat' ((first |(with_reducible refine .guard (fun hb =>?_) (fun hb =>?_) <;>try simp only[hb])|refine ae.aE (by decide +kernel) rfl fun K hK =>?_|refine .flat _ (hF1) rfl ?_|(refine .av [0,1,2,4,23,33] hK ?_;clear hK K)|(with_reducible refine .done (hK _ ?_);clear hK K)|refine ae.of rfl ?_|(with_reducible refine ay.aD (fun h =>?_) (fun h =>?_) <;>try simp only[h])) <;>try simp only[aF,R,simprocAttr])
  all_goals clear R
 have U:p.j.length≤200:=by have:=of_decide_eq_false q2;omega
 rcases fL (cT 0 p.j.length p.eI) with q3 | q3
 ·rw[show ez p=91 from if_neg fun h=>by rw[q3] at h;cases h.2.2.1];rw[q3] at hF2;have R:=y6 @q2 (y6 @cG (y6 @er aC))
  repeat' ((first |(with_reducible refine .guard (fun hb =>?_) (fun hb =>?_) <;>try simp only[hb])|refine ae.aE (by decide +kernel) rfl fun K hK =>?_|refine .flat _ (hF1) rfl ?_|refine .flat _ (hF2) rfl ?_|(refine .av [0,1,2,4,23,33] hK ?_;clear hK K)|(with_reducible refine .done (hK _ ?_);clear hK K)|refine ae.of rfl ?_|(with_reducible refine ay.aD (fun h =>?_) (fun h =>?_) <;>try simp only[h])) <;>try simp only[aF,R,simprocAttr])
  all_goals clear R
 rw[q3] at hF2;have hF:=yk p p.j.length (zz4 _) U;rw[zv0] at hF;rcases fL (fH (iW p.az) p.j).2 with q4 | q4
 ·rw[show ez p=91 from if_neg fun h=>by rw[q4] at h;cases h.2.2.2];rw[q4] at hF;have R:=y6 @q2 (y6 @cG (y6 @er aC))
  repeat' ((first |(with_reducible refine .guard (fun hb =>?_) (fun hb =>?_) <;>try simp only[hb])|refine ae.aE (by decide +kernel) rfl fun K hK =>?_|refine .flat _ (hF1) rfl ?_|refine .flat _ (hF2) rfl ?_|refine .lead _ (hF) ?_|(refine .av [0,1,2,4,23,33] hK ?_;clear hK K)|(with_reducible refine .done (hK _ ?_);clear hK K)|refine ae.of rfl ?_|(with_reducible refine ay.aD (fun h =>?_) (fun h =>?_) <;>try simp only[h])) <;>try simp only[aF,R,simprocAttr])
  all_goals clear R
 ·rw[show ez p=0 from if_pos ⟨q,U,q3,q4⟩];rw[q4] at hF;have R:=y6 @q2 (y6 @cG (y6 @er aC))
  repeat' ((first |(with_reducible refine .guard (fun hb =>?_) (fun hb =>?_) <;>try simp only[hb])|refine ae.aE (by decide +kernel) rfl fun K hK =>?_|refine .flat _ (hF1) rfl ?_|refine .flat _ (hF2) rfl ?_|refine .lead _ (hF) ?_|(refine .av [0,1,2,4,23,33] hK ?_;clear hK K)|(with_reducible refine .done (hK _ ?_);clear hK K)|refine ae.of rfl ?_|(with_reducible refine ay.aD (fun h =>?_) (fun h =>?_) <;>try simp only[h])) <;>try simp only[aF,R,simprocAttr])
  all_goals clear R
def h4(p:bA)(b:Int):Int:=if ez p=0 then (if cT 1 9999 b then 0 else 1) else 91
theorem GU(p:bA)(b:Int):aZ Tryz.prog 74 [enc p,enc b] (enc (h4 p b)):=by
 refine aZ.b5 Tryz.func74 Jl Kp LL (u8 rfl) (fun hwf W0 bG E1 =>?_);simp only[zS,EJ,bI,zz1];clear hwf;have hF1:=sc p;have hF2:=yl b;by_cases h:ez p=0
 ·rw[h] at hF1;rcases fL (cT 1 9999 b) with q | q
  ·rw[show h4 p b=1 by simp only[h4,h,q];rfl];rw[q] at hF2;have R:=y6 @er aC
   repeat' ((first |refine ae.aE (by decide +kernel) rfl fun K hK =>?_|refine .flat _ (hF1) rfl ?_|refine .flat _ (hF2) rfl ?_|(refine .av [0,1,2,4,5,9,13] hK ?_;clear hK K)|(with_reducible refine .done (hK _ ?_);clear hK K)|refine ae.of rfl ?_|(with_reducible refine ay.aD (fun h =>?_) (fun h =>?_) <;>try simp only[h])) <;>try simp only[aF,R,simprocAttr])
   all_goals clear R
  ·rw[show h4 p b=0 by simp only[h4,h,q];rfl];rw[q] at hF2;have R:=y6 @er aC
   repeat' ((first |refine ae.aE (by decide +kernel) rfl fun K hK =>?_|refine .flat _ (hF1) rfl ?_|refine .flat _ (hF2) rfl ?_|(refine .av [0,1,2,4,5,9,13] hK ?_;clear hK K)|(with_reducible refine .done (hK _ ?_);clear hK K)|refine ae.of rfl ?_|(with_reducible refine ay.aD (fun h =>?_) (fun h =>?_) <;>try simp only[h])) <;>try simp only[aF,R,simprocAttr])
   all_goals clear R
 ·have J:ez p=91:=by simp only[ez] at h ⊢;split <;>simp_all
  rw[show h4 p b=91 by simp only[h4,if_neg h]];rw[J] at hF1;have R:=y6 @er aC
  repeat' ((first |refine ae.aE (by decide +kernel) rfl fun K hK =>?_|refine .flat _ (hF1) rfl ?_|(refine .av [0,1,2,4,5,9,13] hK ?_;clear hK K)|(with_reducible refine .done (hK _ ?_);clear hK K)|refine ae.of rfl ?_|(with_reducible refine ay.aD (fun h =>?_) (fun h =>?_) <;>try simp only[h])) <;>try simp only[aF,R,simprocAttr])
  all_goals clear R
end Go.Proofs.YthbdbocionnfgaaGreatDoor
namespace Go.Proofs.YthbdbocionnfgaaGreatDoor
open Go Go.Abs
theorem CU(l:List Int)(n b:Int):b∈ej l n↔b=n∨b∈l:=by
 induction l with
 |nil=>simp[ej]
 |cons x l ih =>
  simp only[ej];split
  ·simp only[zv1,ih];constructor
   ·rintro (h | h | h) <;>simp[h]
   ·rintro (h | h | h) <;>simp[h]
  ·split
   ·rename_i h;subst h;simp
   ·simp
theorem Zm{l:List Int}(h:l.Pairwise (· < ·))(n:Int):(ej l n).Pairwise (· < ·):=by
 induction l with
 |nil=>simp[ej]
 |cons x l ih =>
  obtain ⟨J,U⟩:=List.pairwise_cons.1 h;simp only[ej];split
  ·refine List.pairwise_cons.2 ⟨fun a ha =>?_,ih U⟩;rcases (CU l n a).1 ha with rfl | ha
   ·assumption
   ·exact J a ha
  ·split
   ·exact h
   ·refine List.pairwise_cons.2 ⟨fun a ha =>?_,h⟩;rcases zv1.1 ha with rfl | ha
    ·omega
    ·have:=J a ha;omega
theorem XV(l:List Int)(n b:Int):b∈gX l n↔b∈l∧b≠n:=by simp[gX]
theorem XH{l:List Int}(h:l.Pairwise (· < ·))(n:Int):(gX l n).Pairwise (· < ·):=h.filter _
def mu(x:aU):gx:=⟨x.kind,x.other,x.no,x.aH⟩
structure dU (s:aG) (t:cm):Prop where
 az:t.az=s.az
 here:∀ b,b∈t.here↔b∈s.here
 ni:t.here.Pairwise (· < ·)
 dA:t.dA=s.all.length
 bD:t.bD=s.bD
 bo:t.bo=s.bo.map mu
 nO:∀ x∈s.bo,x.kind≠0
 no:∀ i,i<s.all.length→(s.b9 i).no=(i:Int)+1
 cB:s.aR.Pairwise (· < ·)
 ok:cD s
theorem dU.zero(az:Int):dU (eP az) (iW az):=⟨rfl,fun b=>by simp[eP,iW],by simp[iW],rfl,rfl,rfl,fun x hx=>by simp[eP] at hx,fun i hi=>by simp[eP] at hi,by simp[eP],lf az⟩
theorem dU.ME{s:aG}{t:cm}(h:dU s t)(b:Int):decide (b∈t.here)=decide (b∈s.here):=by simp only[h.here]
theorem dU.HT{s:aG}{t:cm}(h:dU s t)(b:Int):iv t b=s.fb b:=by simp only[iv,aG.fb,h.bD]
theorem dU.Xs{s:aG}{t:cm}(h:dU s t)(x:aU):(gW t x.other x.no≠0)↔eL x∈s.dS:=by
 have hk:=h.nO;simp only[gW,h.bo,aG.dS];revert hk;generalize s.bo=l;intro hk
 induction l with
 |nil=>simp
 |cons y l ih =>
  have ih':=ih fun z hz=>hk z (List.mem_cons_of_mem _ hz);simp only[zz3,List.find?_cons,zv1];by_cases e:(mu y).bR=x.other∧(mu y).no=x.no
  ·rw[decide_eq_true e];simp only;have e2:eL x=eL y:=by
    simp only[mu] at e;simp only[eL,e.1,e.2]
   exact ⟨fun _=>.inl e2,fun _=>hk y List.mem_cons_self⟩
  ·rw[decide_eq_false e];refine Iff.trans ih' ?_;constructor
   ·exact .inr
   ·rintro (h | h)
    ·exfalso;apply e
     simp only[eL,jr.mk.injEq] at h;simp only[mu,h.1,h.2,and_self]
    ·exact h
theorem dU.aay{s:aG}{t:cm}(h:dU s t)(x:aU):(s.unknown x=true)↔¬ (x.other=t.az∨gW t x.other x.no≠0):=by
 rw[h.Xs,h.az];simp only[aG.unknown,t8,bne_iff_ne,ne_eq,Bool.not_eq_true',decide_eq_false_iff_not,not_or]
theorem dU.bI{s:aG}{t:cm}(h:dU s t)(no:Int):(s.at no=none∧jF t no=none)∨∃ k,∃ hk:k<s.aR.length,s.at no=some s.aR[k]∧jF t no=some k:=by
 have hno:∀ i∈s.aR,(s.b9 i).no=(i:Int)+1:=fun i hi=>h.no i (h.ok.cB i hi);simp only[aG.at,jF,h.bD,aG.bD];revert hno;generalize s.aR=l;intro hno
 induction l with
 |nil=>exact .inl ⟨rfl,rfl⟩
 |cons i l ih =>
  have hi:=hno i List.mem_cons_self;simp only[List.find?_cons,zz3,List.findIdx?_cons,hi];by_cases e:no=(i:Int)+1
  ·exact .inr ⟨0,by simp,by simp[e],by simp[e]⟩
  ·have e':¬ (i:Int)+1=no:=fun h=>e h.symm;rw[decide_eq_false e,decide_eq_false e'];rcases ih fun j hj=>hno j (List.mem_cons_of_mem _ hj) with ⟨J,U⟩ | ⟨k,hk,J,U⟩
   ·exact .inl ⟨J,by simp[U]⟩
   ·exact .inr ⟨k+1,by simpa using hk,by simpa using J,by simp[U]⟩
theorem dU.ic{s:aG}{t:cm}(h:dU s t)(x:aU):(s.on x=none∧gY t x=false)∨∃ k,∃ hk:k<s.aR.length,s.on x=some s.aR[k]∧gY t x=true∧atR t x=k∧oS t x=(s.b9 s.aR[k]).dz:=by
 rcases h.bI x.no with ⟨J,U⟩ | ⟨k,hk,J,U⟩
 ·exact .inl ⟨by simp only[aG.on,J],by simp only[gY,U]⟩
 ·have hr:t.bD[k]?=some (s.b9 s.aR[k]):=by rw[h.bD,aG.bD,zy9,zy3 hk];rfl
  by_cases e:(s.b9 s.aR[k]).to=x.other∧(s.b9 s.aR[k]).aH=x.aH
  ·exact .inr ⟨k,hk,by simp only[aG.on,J,if_pos e],by simp[gY,U,hr,e.1,e.2],by simp[atR,U],by simp[oS,U,hr]⟩
  ·refine .inl ⟨by simp only[aG.on,J,if_neg e],?_⟩;simp only[gY,U,hr,Bool.and_eq_false_iff,beq_eq_false_iff_ne,ne_eq];by_cases e1:(s.b9 s.aR[k]).to=x.other
   ·exact .inr fun e2=>e ⟨e1,e2⟩
   ·exact .inl e1
theorem M9{l:List Nat}(h:l.Nodup)(k:Nat)(hk:k<l.length):l.erase l[k]=l.take k++l.drop (k+1):=by
 induction l generalizing k with
 |nil=>simp at hk
 |cons x l ih =>
  cases k with
  |zero=>simp
  |succ k =>
   obtain ⟨J,U⟩:=List.nodup_cons.1 h;have hk':k<l.length:=by simpa using hk
   have:¬ x=l[k]:=fun e=>J (e▸List.getElem_mem hk');simp only[List.getElem_cons_succ,zx6,List.drop_succ_cons,zz5];rw[List.erase_cons_tail (by simpa using this),ih U k hk']
theorem XU(l:List Int)(n b:Int):b∈gy l n↔b=n∨b∈l:=by
 unfold gy;split
 ·constructor
  ·exact .inr
  ·rintro (rfl | h)
   ·assumption
   ·exact h
 ·simp only[zx7,zx5];exact Or.comm
theorem ZO{s:aG}(ab:cD s)(r:cZ)(h:List Int):({ s with here:=h,all:=s.all++[r],aR:=s.aR++[s.all.length] } : aG).bD=s.bD++[r]:=by
 simp only[aG.bD,zy5,zz3,zx4,aG.b9]
 congr 1
 ·refine List.map_congr_left fun i hi =>?_
  show (s.all++[r]).getD i default=s.all.getD i default
  simp only[zz0,zy4 (ab.cB i hi)]
 ·simp
theorem ZP{s:aG}(ab:cD s){k:Nat}(hk:k<s.aR.length):({ s with all:=s.all.set s.aR[k] { s.b9 s.aR[k] with dz:=true } } : aG).bD=s.bD.modify k fun r => { r with dz:=true } :=by
 have ao:=ab.cB;have hn:=ab.iJ;refine List.ext_getElem (by simp[aG.bD]) fun j J U =>?_;have hj:j<s.aR.length:=by simpa[aG.bD] using J
 rw[List.getElem_modify];simp only[aG.bD,List.getElem_map,aG.b9,zz0];by_cases e:k=j
 ·subst e;rw[if_pos rfl,List.getElem?_set_self (ao _ (List.getElem_mem hk))];rfl
 ·have hne:s.aR[k]≠s.aR[j]:=fun e'=>e ((List.getElem_inj hn).1 e');rw[if_neg e,List.getElem?_set_ne hne]
theorem dU.A7{s:aG}{t:cm}(h:dU s t){k:Nat}(hk:k<s.aR.length):dU { s with aR:=s.aR.erase s.aR[k] } (je t k):=by
 have hr:(je t k).bD=({ s with aR:=s.aR.erase s.aR[k] } : aG).bD:=by
  simp only[je,h.bD,aG.bD,M9 h.ok.iJ k hk,zy5,List.map_take,List.map_drop];rfl
 exact ⟨h.az,h.here,h.ni,h.dA,hr,h.bo,h.nO,h.no,h.cB.sublist List.erase_sublist,⟨fun i hi=>h.ok.cB i (List.mem_of_mem_erase hi),h.ok.iJ.erase _,h.ok.af⟩⟩
theorem dU.put{s:aG}{t:cm}(h:dU s t)(b:Int):dU { s with here:=gy s.here b } { t with here:=ej t.here b } :=
 ⟨h.az,fun c=>by simp only[CU,XU,h.here],Zm h.ni b,h.dA,h.bD,h.bo,h.nO,h.no,h.cB,⟨h.ok.cB,h.ok.iJ,nv h.ok.af⟩⟩
theorem dU.nQ{s:aG}{t:cm}(h:dU s t)(b:Int):dU { s with here:=s.here.erase b } { t with here:=gX t.here b } :=
 ⟨h.az,fun c=>by simp only[XV,h.here,h.ok.af.mem_erase_iff];exact And.comm,XH h.ni b,h.dA,h.bD,h.bo,h.nO,h.no,h.cB,⟨h.ok.cB,h.ok.iJ,h.ok.af.erase _⟩⟩
theorem dU.FH{s:aG}{t:cm}(h:dU s t){x:aU}(hx:x.kind≠0):dU { s with bo:=s.bo++[x] } (gf t x) :=
 ⟨h.az,h.here,h.ni,h.dA,h.bD,by simp only[gf,h.bo,zy5];rfl,fun y hy=>by
  rcases zx7.1 hy with hy | hy
  ·exact h.nO y hy
  ·rw[zx5.1 hy];exact hx,h.no,h.cB,⟨h.ok.cB,h.ok.iJ,h.ok.af⟩⟩
theorem dU.step{s:aG}{t:cm}(h:dU s t){x:aU}(hx:hd x=true):match eJ s x with
  |some s'=>(cL t x).2=true∧dU s' (cL t x).1
  |none=>(cL t x).2=false:=by
 have hk:1≤x.kind∧x.kind≤8:=by
  simp only[hd] at hx;split at hx
  ·omega
  ·split at hx
   ·omega
   ·cases hx
 have hb:=h.here x.aH;have af:=h.ME x.aH;have ha:=h.HT x.aH;simp only[eJ,cL,af,ha];by_cases k1:x.kind=1
 ·simp only[if_pos k1];by_cases c:x.aH∈s.here∨s.fb x.aH=true
  ·have c2:(decide (x.aH∈s.here)||s.fb x.aH)=true:=by simpa using c
   simp only[if_pos c,if_pos c2]
  ·have c2:¬ (decide (x.aH∈s.here)||s.fb x.aH)=true:=by simpa using c
   simp only[if_neg c,if_neg c2];exact ⟨trivial,h.put _⟩
 simp only[if_neg k1];by_cases k2:x.kind=2
 ·simp only[if_pos k2];by_cases c:x.aH∈s.here
  ·simp only[if_pos c,decide_eq_true c];exact ⟨trivial,h.nQ _⟩
  ·simp only[if_neg c,decide_eq_false c]
 simp only[if_neg k2];by_cases k3:x.kind=3
 ·simp only[if_pos k3];by_cases c:x.aH∈s.here∧x.other≠s.az∧x.no=(s.all.length:Int)+1
  ·have c2:¬ (x.aH∉t.here∨x.other=t.az∨x.no≠t.dA+1):=by
    rw[hb,h.az,h.dA];rintro (c' | c' | c')
    ·exact c' c.1
    ·exact c.2.1 c'
    ·exact c' c.2.2
   simp only[if_pos c,if_neg c2];have ao:=h.nQ x.aH;refine ⟨trivial,h.az,ao.here,ao.ni,by simp only[zz7,List.length_singleton,c.2.2];omega,?_,h.bo,h.nO,fun i hi =>?_,?_,?_⟩
   ·rw[ZO h.ok,h.bD]
   ·simp only[zz7,List.length_singleton] at hi;by_cases e:i<s.all.length
    ·have:=h.no i e;rw[←this];simp only[aG.b9,zz0,zy4 e]
    ·have e2:i=s.all.length:=by omega
     subst e2;simp only[aG.b9,zz0];simp[c.2.2]
   ·refine List.pairwise_append.2 ⟨h.cB,by simp,fun a ha b hb =>?_⟩;rw[zx5.1 hb];exact h.ok.cB a ha
   ·have hn:eJ s x=some { s with here:=s.here.erase x.aH,all:=s.all++[⟨x.no,x.other,x.aH,false⟩],aR:=s.aR++[s.all.length] } :=by
     simp only[eJ,if_neg k1,if_neg k2,if_pos k3,if_pos c]
    exact (h.ok.next hn).1
  ·have c2:x.aH∉t.here∨x.other=t.az∨x.no≠t.dA+1:=by
    rw[hb,h.az,h.dA];by_cases c1:x.aH∈s.here
    ·by_cases c3:x.other=s.az
     ·exact .inr (.inl c3)
     ·exact .inr (.inr fun e=>c ⟨c1,c3,e⟩)
    ·exact .inl c1
   simp only[if_neg c,if_pos c2]
 simp only[if_neg k3];by_cases k4:x.kind=4
 ·simp only[if_pos k4];rcases h.ic x with ⟨J,U⟩ | ⟨k,hk',J,U,ah,ar⟩
  ·simp only[J,U];rfl
  ·simp only[J,U,ah,ar];rcases Bool.eq_false_or_eq_true (s.b9 s.aR[k]).dz with c | c
   ·rw[c];rfl
   ·rw[c];refine ⟨rfl,h.az,h.here,h.ni,h.dA.trans (by simp),?_,h.bo,h.nO,fun i hi =>?_,h.cB,?_⟩
    ·show t.bD.modify k _=_
     rw[ZP h.ok hk',h.bD]
    ·have hi':i<s.all.length:=by simpa using hi
     simp only[aG.b9,zz0,List.getElem?_set];split
     ·rename_i e;rw[if_pos (e▸hi')];simp only[Option.getD_some,e];have:=h.no i hi';simpa only[aG.b9,zz0] using this
     ·have:=h.no i hi';simpa only[aG.b9,zz0] using this
    ·have hn:eJ s x=some { s with all:=s.all.set s.aR[k] { s.b9 s.aR[k] with dz:=true } } :=by
      simp only[eJ,if_neg k1,if_neg k2,if_neg k3,if_pos k4,J,c];rfl
     exact (h.ok.next hn).1
 simp only[if_neg k4];by_cases k5:x.kind=5
 ·simp only[if_pos k5];rcases h.ic x with ⟨J,U⟩ | ⟨k,hk',J,U,ah,ar⟩
  ·simp only[J,U];rfl
  ·simp only[J,U,ah];exact ⟨rfl,h.A7 hk'⟩
 simp only[if_neg k5];by_cases k6:x.kind=6
 ·simp only[if_pos k6];rcases h.ic x with ⟨J,U⟩ | ⟨k,hk',J,U,ah,ar⟩
  ·simp only[J,U];rfl
  ·simp only[J,U,ah,ar];rcases Bool.eq_false_or_eq_true (s.b9 s.aR[k]).dz with c | c
   ·rw[c];exact ⟨rfl,(h.A7 hk').put x.aH⟩
   ·rw[c];rfl
 simp only[if_neg k6];have hu:=h.aay x;by_cases c:x.other=t.az∨gW t x.other x.no≠0
 ·have hu':¬ s.unknown x=true:=fun bM=>hu.1 bM c;simp only[if_pos c];by_cases k7:x.kind=7
  ·rw[if_pos k7,if_neg fun bM=>hu' bM.1];trivial
  ·rw[if_neg k7,if_pos (by omega),if_neg hu'];trivial
 ·have hu':s.unknown x=true:=hu.2 c;simp only[if_neg c];by_cases k7:x.kind=7
  ·simp only[if_pos k7];by_cases c2:(decide (x.aH∈s.here)||s.fb x.aH)=true
   ·have hn:¬ (s.unknown x=true∧x.aH∉s.here∧s.fb x.aH=false):=fun bM=>by
     simp only[Bool.or_eq_true,decide_eq_true_eq] at c2;rcases c2 with c2 | c2
     ·exact bM.2.1 c2
     ·rw[bM.2.2] at c2;cases c2
    simp only[if_pos c2,if_neg hn]
   ·have c3:=c2;simp only[Bool.or_eq_true,decide_eq_true_eq,not_or,Bool.not_eq_true] at c3;have hn:s.unknown x=true∧x.aH∉s.here∧s.fb x.aH=false:=⟨hu',c3.1,c3.2⟩
    simp only[if_neg c2,if_pos hn];exact ⟨trivial,(h.put x.aH).FH (by omega)⟩
  ·simp only[if_neg k7];rw[if_pos (by omega),if_pos hu'];exact ⟨trivial,h.FH (by omega)⟩
theorem dU.run:∀ (l:List aU) {s:aG} {t:cm},dU s t→match fG s l with
  |some s'=>(fH t l).2=true∧dU s' (fH t l).1
  |none=>(fH t l).2=false
 | [],s,t,h=>⟨rfl,h⟩
 |x::l,s,t,h=>by
  simp only[fG,fH,gj];by_cases hx:hd x=true
  ·have ab:=h.step hx;rw[if_pos hx,if_pos hx];cases hn:eJ s x with
   |none=>rw[hn] at ab;simp only at ab ⊢;rw[ab];rfl
   |some s' =>
    rw[hn] at ab;simp only at ab ⊢;rw[ab.1,if_pos rfl];exact dU.run l ab.2
  ·rw[if_neg hx,if_neg hx]
theorem Di(p:bA):match c7 p with
  |some s=>ez p=0∧dU s (hZ p)
  |none=>ez p=91:=by
 have hr:=dU.run p.j (dU.zero p.az);simp only[c7,fF,ez];by_cases hk:iL p=true
 ·have hk':=hk;simp only[iL,t8,decide_eq_true_eq] at hk';rw[if_pos hk];cases hq:fG (eP p.az) p.j with
  |none=>rw[hq] at hr;simp only at hr ⊢;rw[if_neg fun h=>by rw[hr] at h;cases h.2.2.2]
  |some s=>rw[hq] at hr;exact ⟨if_pos ⟨hk'.1,hk'.2.1,hk'.2.2,hr.1⟩,hr.2⟩
 ·rw[if_neg hk];refine if_neg fun h=>hk ?_;simp only[iL,t8,decide_eq_true_eq];exact ⟨h.1,h.2.1,h.2.2.1⟩
theorem KE(p:bA):nB p=ez p:=by
 have h:=Di p;simp only[nB];cases ho:c7 p with
 |none=>rw[ho] at h;exact h.symm
 |some s=>rw[ho] at h;exact h.1.symm
end Go.Proofs.YthbdbocionnfgaaGreatDoor
namespace Go.Proofs.YthbdbocionnfgaaGreatDoor
open Go Go.Abs
open Go.Abs.Enc (enc)
theorem Fx:∀ (l:List aU) {s:cm} {i:Nat},kI s i→(fH s l).2=true→kI (fH s l).1 (i+l.length)
 | [],s,i,h,_=>h
 |x::l,s,i,h,hr=>by
  simp only[fH] at hr ⊢;split at hr
  ·split at hr
   ·rename_i J U;rw[if_pos J,if_pos U];have:=Fx l (h.next x U) hr;rw[zw1,show i+(l.length+1)=i+1+l.length by omega];exact this
   ·cases hr
  ·cases hr
theorem aah(az:Int):kI (iW az) 0:=⟨zz4 _,zz4 _,zz4 _,Int.le_refl _,Int.le_refl _⟩
theorem nC{p:bA}(h:ez p=0):cT 0 5 p.az=true∧p.j.length≤200∧cT 0 p.j.length p.eI=true∧(fH (iW p.az) p.j).2=true:=by
 simp only[ez] at h;split at h
 ·assumption
 ·cases h
theorem C3{p:bA}(h:ez p=0):jP (hZ p)∧kI (hZ p) p.j.length:=by
 obtain ⟨_,U,_,ar⟩:=nC h;have:=Fx p.j (aah p.az) ar;rw[zz1] at this;exact ⟨this.small (by omega),this⟩
theorem both(p:bA):(c7 p=none∧ez p=91)∨∃ s,c7 p=some s∧ez p=0∧dU s (hZ p)∧jP (hZ p)∧p.j.length≤200:=by
 have h:=Di p;cases ho:c7 p with
 |none=>rw[ho] at h;exact .inl ⟨rfl,h⟩
 |some s=>rw[ho] at h;exact .inr ⟨s,rfl,h.1,h.2,(C3 h.1).1,(nC h.1).2.1⟩
theorem By:(∀ (a b:Int) (h:List Int) (r:List cZ) (e:List gx),kl 1 1 none (some [.int .i64 a,enc h,.int .i64 b,enc r,enc e])=some (enc h))∧(∀ (a b:Int) (h:List Int) (r:List cZ) (e:List gx),kl 2 2 none (some [.int .i64 a,enc h,.int .i64 b,enc r,enc e])=some (.int .i64 b))∧(∀ (a b:Int) (h:List Int) (r:List cZ) (e:List gx),kl 3 3 none (some [.int .i64 a,enc h,.int .i64 b,enc r,enc e])=some (enc r)) :=
 ⟨fun a b h r e=>by
  have J:db [.int .i64 a,enc h,.int .i64 b,enc r,enc e] 1 1 (enc h)=some (enc h):=iK (by simp) rfl;simp[kl,J,Abs.nX,kg,ke],fun a b h r e=>by
  have J:db [.int .i64 a,enc h,.int .i64 b,enc r,enc e] 2 2 (.int .i64 b)=some (.int .i64 b):=iK (by simp) (by simp[I.sizes,I.size,jQ,jy]);simp[kl,J,Abs.nX];rfl,fun a b h r e=>by
  have J:db [.int .i64 a,enc h,.int .i64 b,enc r,enc e] 3 3 (enc r)=some (enc r):=iK (by simp) (by simp[I.sizes,I.size,jQ,jy]);simp[kl,J,Abs.nX,kg,ke]⟩
theorem tY(A:ai)(n:Nat)(b:I)(q:aU)(x y z w:Int)(rest:List aI):dk A (some 4) n [] b (enc q) rest (some (.agg [.int .i64 x,.int .i64 y,.int .i64 z,.int .i64 w]))=aB rest (A.aT n (.box (enc q))):=dK (eg _) (by rw[e7];rfl) (eC _)
end Go.Proofs.YthbdbocionnfgaaGreatDoor
namespace Go.Proofs.YthbdbocionnfgaaGreatDoor
open Go Go.Abs Go.Shelf
open Go.Abs.Enc (enc)
def Xz:Go.Shelf.Ren:=⟨fun | 171=>119 | 243=>144 | 246=>159 | 283=>170 | 284=>171 | 285=>172 | 286=>173 | 129=>143 | 317=>182 | 318=>183 | 319=>184 | 320=>185 | 337=>190 | 338=>191 | n=>n,fun | 3=>3 | 9=>9 | 2=>2 | 4=>4 | 171=>198 | 0=>0 | 53=>171 | 37=>172 | 5=>5 | 173=>200 | 212=>209 | 51=>169 | 20=>20 | 213=>210 | 46=>151 | 232=>223 | 233=>224 | n=>n,fun | 17=>3 | 18=>6 | 19=>7 | n=>n⟩
theorem Xy:Go.Proofs.LaysM.n171 Tryz.prog Xz := {
 mixed:=by kernel_rfl
 f129:=Tryz.func143.trans (congrArg some (by kernel_rfl))
 f171:=Tryz.func119.trans (congrArg some (by kernel_rfl))
 f243:=Tryz.func144.trans (congrArg some (by kernel_rfl))
 f246:=Tryz.func159.trans (congrArg some (by kernel_rfl))
 f283:=Tryz.func170.trans (congrArg some (by kernel_rfl))
 f284:=Tryz.func171.trans (congrArg some (by kernel_rfl))
 f285:=Tryz.func172.trans (congrArg some (by kernel_rfl))
 f286:=Tryz.func173.trans (congrArg some (by kernel_rfl))
 f317:=Tryz.func182.trans (congrArg some (by kernel_rfl))
 f318:=Tryz.func183.trans (congrArg some (by kernel_rfl))
 f319:=Tryz.func184.trans (congrArg some (by kernel_rfl))
 f320:=Tryz.func185.trans (congrArg some (by kernel_rfl))
 f337:=Tryz.func190.trans (congrArg some (by kernel_rfl))
 f338:=Tryz.func191.trans (congrArg some (by kernel_rfl))
 t0:=Tryz.underlying0
 a0:=Tryz.isAgg0
 z0:=Tryz.sizeOf0
 v0:=Tryz.zeroValue0
 t2:=Tryz.underlying2
 a2:=Tryz.isAgg2
 z2:=Tryz.sizeOf2
 v2:=Tryz.zeroValue2
 t3:=Tryz.underlying3
 a3:=Tryz.isAgg3
 z3:=Tryz.sizeOf3
 v3:=Tryz.zeroValue3
 t4:=Tryz.underlying4
 a4:=Tryz.isAgg4
 z4:=Tryz.sizeOf4
 v4:=Tryz.zeroValue4
 t5:=Tryz.underlying5
 a5:=Tryz.isAgg5
 z5:=Tryz.sizeOf5
 v5:=Tryz.zeroValue5
 t9:=Tryz.underlying9
 a9:=Tryz.isAgg9
 z9:=Tryz.sizeOf9
 v9:=Tryz.zeroValue9
 t20:=Tryz.underlying20
 a20:=Tryz.isAgg20
 z20:=Tryz.sizeOf20
 v20:=Tryz.zeroValue20
 t37:=Tryz.underlying172
 a37:=Tryz.isAgg172
 z37:=Tryz.sizeOf172
 v37:=Tryz.zeroValue172
 t46:=Tryz.underlying151
 a46:=Tryz.isAgg151
 z46:=Tryz.sizeOf151
 v46:=Tryz.zeroValue151
 t51:=Tryz.underlying169
 a51:=Tryz.isAgg169
 z51:=Tryz.sizeOf169
 v51:=Tryz.zeroValue169
 t53:=Tryz.underlying171
 a53:=Tryz.isAgg171
 z53:=Tryz.sizeOf171
 v53:=Tryz.zeroValue171
 t171:=Tryz.underlying198
 a171:=Tryz.isAgg198
 z171:=Tryz.sizeOf198
 v171:=Tryz.zeroValue198
 t173:=Tryz.underlying200
 a173:=Tryz.isAgg200
 z173:=Tryz.sizeOf200
 v173:=Tryz.zeroValue200
 t212:=Tryz.underlying209
 a212:=Tryz.isAgg209
 z212:=Tryz.sizeOf209
 v212:=Tryz.zeroValue209
 t213:=Tryz.underlying210
 a213:=Tryz.isAgg210
 z213:=Tryz.sizeOf210
 t232:=Tryz.underlying223
 a232:=Tryz.isAgg223
 z232:=Tryz.sizeOf223
 v232:=Tryz.zeroValue223
 t233:=Tryz.underlying224
 a233:=Tryz.isAgg224
 z233:=Tryz.sizeOf224
 v233:=Tryz.zeroValue224
 g17:=by kernel_rfl
 g18:=by kernel_rfl
 g19:=by kernel_rfl
 i0:=by kernel_rfl
 i2:=by kernel_rfl
 i3:=by kernel_rfl
 i4:=by kernel_rfl
 i5:=by kernel_rfl
 i9:=by kernel_rfl
 i20:=by kernel_rfl
 i37:=by kernel_rfl
 i46:=by kernel_rfl
 i51:=by kernel_rfl
 i53:=by kernel_rfl
 i171:=by kernel_rfl
 i173:=by kernel_rfl
 i212:=by kernel_rfl
 i232:=by kernel_rfl
 i233:=by kernel_rfl
 m17:=by kernel_rfl
 m18:=by kernel_rfl
 m19:=by kernel_rfl }
open Go.RowKit Go.Sort Go.Lib in
theorem strconv_Itoa (n : Int) (aY : -9223372036854775808 ≤ n) (J : n ≤ 9223372036854775807) (w : World) (htab : Lib.TabIs Tryz.prog w "internal/strconv.uint64pow10" .u64 Lib.pow10Tab) :
  Calls Tryz.prog 119 #[.int .i64 n] w fun e w'=>e=.returned (.string ⟨(Lib.itoa n).toArray⟩)∧∃ k os,w'=grow (w.drewN k) os:=Any.strconv_Itoa Xy n aY J w htab
structure ff where
 b:ByteArray
 deriving DecidableEq
instance:Enc ff where
 enc s:=.bQ s.b
 sz:=1
 aX:=.one
 gI:=false
 done _:=rfl
 size _:=by simp[I.size]
 iq _:=by simp[I.aX]
 agg _:=rfl
def mN(n:Int):ff:=⟨⟨(Lib.itoa n).toArray⟩⟩
open Go.Sort Go.RowKit in
theorem yQ(w:World)(k:Nat)(os:Array Obj):Go.RowKit.Below w.heap.size w (grow (w.drewN k) os) :=
 ⟨rfl,rfl,rfl,by simp,fun i hi=>by rw[heap_grow_old _ _ (by simpa using hi)];rfl⟩
theorem Gf(n:Int):aZ Tryz.prog 119 [enc n] (enc (mN n)):=by
 refine ⟨II,fun w D vs ao hD hv =>?_⟩;have hv':aJ w D di [.int .i64 n] vs:=hv;simp only[aJ] at hv';obtain ⟨v,rest,cs,rfl,J,U,rfl⟩:=hv';obtain ⟨rfl,ah,ar⟩:=eT (jC J U);have h3':-9223372036854775808≤n:=ah;have h4':n≤9223372036854775807:=ar;have hg:Tryz.prog.globalNamed wz=some 3:=by kernel_rfl
 have htab:=(ao 3 hg).2;refine (strconv_Itoa n h3' h4' w htab).mono ?_;rintro e w' ⟨rfl,k,os,rfl⟩;refine ⟨_,D,rfl,⟨[.string ⟨(Lib.itoa n).toArray⟩],by simp[bE,I.isAgg,enc],?_⟩,yQ w k os,fun b o af=>Nat.lt_of_lt_of_le (hD b o af) (yQ w k os).size,fun _ _ h _=>h⟩;have hlen:=Lib.itoa_length_le n h3' h4'
 show al _ _ _ (.bQ _) _
 simp only[al];refine ⟨rfl,?_⟩
 show (Lib.itoa n).toArray.size≤maxLen
 simp only[List.size_toArray,maxLen];omega
end Go.Proofs.YthbdbocionnfgaaGreatDoor
namespace Go.Proofs.YthbdbocionnfgaaGreatDoor
open Go Go.Abs
open Go.Abs.Enc (enc)
def oy:ff:=⟨⟨#[32]⟩⟩
def rj:ff:=⟨⟨#[10]⟩⟩
def jv(a b:ff):ff:=⟨a.b++b.b⟩
theorem qi(a b:ff):(jv a b).b.size=a.b.size+b.b.size:=by simp[jv]
theorem sr(a b:ff)(h:a.b.size+b.b.size≤9223372036854775807):cE .add (.bQ a.b) (.bQ b.b)=some (.bQ (jv a b).b):=by
 simp only[cE,if_pos h,jv]
theorem Ct{n:Int}(h:IntKind.i64.min≤n∧n≤IntKind.i64.max):(mN n).b.size≤21:=by
 have:=Lib.itoa_length_le n h.1 h.2
 show (Lib.itoa n).toArray.size≤21
 simpa using this
def jI(w:ff)(l:List Int)(i:Nat):ff:=(l.take i).foldl (fun a n=>jv a (jv oy (mN n))) w
def mn(w:ff)(l:List Int):ff:=jv (jI w l l.length) rj
theorem Ft(w:ff){l:List Int}{i:Nat}(h:i<l.length):jI w l (i+1)=jv (jI w l i) (jv oy (mN l[i])):=by
 simp only[jI,zy0 h,List.foldl_append,List.foldl_cons,List.foldl_nil]
theorem xE(w:ff){l:List Int}(ao:∀ x∈l,IntKind.i64.min≤x∧x≤IntKind.i64.max):∀ i,i≤l.length→(jI w l i).b.size≤w.b.size+22*i
 |0,_=>by simp[jI]
 |i+1,h=>by
  have J:=xE w ao i (by omega);have U:=Ct (ao l[i] (List.getElem_mem _));rw[Ft w (by omega),qi,qi];have ah:oy.b.size=1:=rfl;omega
theorem uD(w:ff)(l:List Int)(hb:w.b.size+22*l.length≤1000000000000):aZ Tryz.prog 93 [enc w,enc l] (enc (mn w l)):=by
 refine aZ.b5 Tryz.func93 Jx KB LY (u8 rfl) (fun hwf W0 bG E1 =>?_);simp only[Ab,EV,bI,zz1];have hlen:l.length≤maxLen:=((mA l).1 hwf.2.1).1;have hwl:∀ x∈l,IntKind.i64.min≤x∧x≤IntKind.i64.max:=fun x hx=>((mA l).1 hwf.2.1).2 x hx;simp only[maxLen] at hlen;have ab:=xE w hwl;refine .fI (by decide +kernel) fun K hK =>?_;simp only[BV,bq,simprocAttr];refine .done (hK _ ?_);clear hK K;refine ae.seq ?_;refine .fI (by decide +kernel) fun K hK =>?_;simp only[BW,bq,simprocAttr]
 try simp only[kB,bq,simprocAttr]
 refine .done (hK _ ?_);clear hK K;refine ae.block (ae.loop (fun i:Nat=>au [(0,enc (jI w l i)),(7,enc l),(8,.int .i64 l.length),(9,.int .i64 i)] []) (fun i=>i≤l.length) (fun i=>l.length-i) 0 (zw2 _) ?_ (fun i hi =>?_))
 ·refine bw.dh ?_ ?_ ?_ ?_ <;>simp[cz,c6,cJ,cF,cu,I.only,cA]
  all_goals rfl
 ·refine .fI (by decide +kernel) fun K hK =>?_;simp only[BX,bq,simprocAttr];refine .done (hK _ ?_);clear hK K;refine ae.seq ?_;refine ae.iG ?_;simp only[ay,bq,simprocAttr];refine ⟨fun h =>?_,fun h =>?_⟩
  ·have hlt:i<l.length:=by simpa using h
   refine ae.skip ?_;try simp only[dY,simprocAttr]
   refine ae.seq (ae.block ?_);refine .fI (by decide +kernel) fun K hK =>?_;simp only[BY,bq,simprocAttr]
   try simp only[eM 1 hlt rfl,bq,simprocAttr]
   refine .done (hK _ ?_);clear hK K;refine .j0 (by decide +kernel) fun K hK =>?_;simp only[BZ,bq,simprocAttr];refine .flat _ (Gf l[i]) rfl ?_;have J:=Ct (hwl l[i] (List.getElem_mem _));have U:=ab i hi;have ah:oy.b.size=1:=rfl
   try simp only[show (I.bQ ⟨#[32]⟩)=I.bQ oy.b from rfl,show (enc (mN l[i]):I)=.bQ (mN l[i]).b from rfl,show (enc (jI w l i):I)=.bQ (jI w l i).b from rfl,sr oy (mN l[i]) (by omega),sr (jI w l i) (jv oy (mN l[i])) (by rw[qi];omega),bq,simprocAttr]
   refine .done (hK _ ?_);clear hK K;try simp only[dY,jc]
   refine .j0 (by decide +kernel) fun K hK =>?_;simp only[B1,bq,simprocAttr];refine .done (hK _ ?_);clear hK K;try simp only[dY]
   refine ⟨i+1,by omega,by omega,?_⟩;rw[mB _ (by omega) (by omega),Ft w hlt];refine bw.dh ?_ ?_ ?_ ?_ <;>simp[cz,c6,cJ,cF,cu,I.only,cA]
   all_goals rfl
  ·have hge:i=l.length:=by simp at h;omega
   subst hge;refine ae.exit ?_;try simp only[dY,jc,simprocAttr]
   have U:=ab l.length (zz4 _);have ah:rj.b.size=1:=rfl;refine .fI (by decide +kernel) fun K hK =>?_;simp only[B3,bq,simprocAttr]
   try simp only[show (I.bQ ⟨#[10]⟩)=I.bQ rj.b from rfl,show (enc (jI w l l.length):I)=.bQ (jI w l l.length).b from rfl,sr (jI w l l.length) rj (by omega),bq,simprocAttr]
   refine .done (hK _ ?_);clear hK K;refine ae.ret ?_;simp only[bq,simprocAttr];rfl
def lD:List ff:=[⟨⟨#[]⟩⟩,⟨⟨#[112,111,117,110,100]⟩⟩,⟨⟨#[114,101,108,101,97,115,101]⟩⟩,⟨⟨#[115,101,110,100]⟩⟩,⟨⟨#[99,97,108,108]⟩⟩,⟨⟨#[100,111,110,101]⟩⟩,⟨⟨#[98,97,99,107]⟩⟩,⟨⟨#[116,97,107,101]⟩⟩,⟨⟨#[114,101,102,117,115,101]⟩⟩]
theorem It:fg 1 (some [I.bQ ⟨#[]⟩,I.bQ ⟨#[112,111,117,110,100]⟩,I.bQ ⟨#[114,101,108,101,97,115,101]⟩,I.bQ ⟨#[115,101,110,100]⟩,I.bQ ⟨#[99,97,108,108]⟩,I.bQ ⟨#[100,111,110,101]⟩,I.bQ ⟨#[98,97,99,107]⟩,I.bQ ⟨#[116,97,107,101]⟩,I.bQ ⟨#[114,101,102,117,115,101]⟩])=some (enc lD):=by
 have h:fg 1 (some (lD.map (enc (α:=ff))))=some (enc lD):=by
  simp only[fg];rw[if_pos ⟨by simp[Enc.size];exact fun _ _=>rfl,iB _⟩];rfl
 exact h
theorem yp:aZ Tryz.prog 94 [] (enc lD):=by
 refine aZ.b5 Tryz.func94 Jy KC LZ (u8 rfl) (fun hwf W0 bG E1 =>?_);simp only[Ac,EW,bI];have R:=y6 @It aC
 repeat' ((first |refine ae.aE (by decide +kernel) rfl fun K hK =>?_|(refine .av [0] hK ?_;clear hK K)|(with_reducible refine .done (hK _ ?_);clear hK K)|refine ae.of rfl ?_|(with_reducible refine ay.aD (fun h =>?_) (fun h =>?_) <;>try simp only[h])) <;>try simp only[aF,R,simprocAttr])
 all_goals clear R
 all_goals rfl
def vu:ff:=⟨⟨#[]⟩⟩
def n5:ff:=⟨⟨#[112,111,117,110,100]⟩⟩
def j6(k:Int):ff:=lD.getD k.toNat vu
def mO(x:aU):ff:=if x.kind≤2 then mn (j6 x.kind) [x.aH] else mn (j6 x.kind) [x.aH,x.other,x.no]
def l6(p:bA)(i:Nat):ff:=(p.j.take i).foldl (fun a x=>jv a (mO x)) (mn n5 [p.az,p.eI])
def tH(p:bA):ff×Int:=match c7 p with
 |none=>(vu,91)
 |some _=>(l6 p p.j.length,0)
theorem F6(k:Int):(j6 k).b.size≤7:=by
 have h:∀ x∈lD,x.b.size≤7:=by decide
 simp only[j6,zz0];cases hk:lD[k.toNat]? with
 |none=>exact zw2 _
 |some x=>exact h x (List.mem_of_getElem? hk)
theorem xF(w:ff){l:List Int}(ao:∀ x∈l,IntKind.i64.min≤x∧x≤IntKind.i64.max):(mn w l).b.size≤w.b.size+22*l.length+1:=by
 have:=xE w ao l.length (zz4 _);rw[mn,qi];have:rj.b.size=1:=rfl;omega
theorem wi{n:Int}(h:-100000≤n∧n≤100000):IntKind.i64.min≤n∧n≤IntKind.i64.max:=by
 have J:IntKind.i64.min=-9223372036854775808:=by decide
 have U:IntKind.i64.max=9223372036854775807:=by decide
 omega
theorem C7{x:aU}(h:hd x=true):(1≤x.kind∧x.kind≤8)∧(1≤x.aH∧x.aH≤9999)∧(0≤x.other∧x.other≤5)∧(0≤x.no∧x.no≤200):=by
 simp only[hd,cT] at h;split at h
 ·simp only[t8,decide_eq_true_eq,beq_iff_eq] at h;omega
 ·split at h
  ·simp only[t8,decide_eq_true_eq] at h;omega
  ·cases h
theorem CD{x:aU}(h:hd x=true):(mO x).b.size≤74:=by
 obtain ⟨_,U,ah,ar⟩:=C7 h;have hw:=F6 x.kind;simp only[mO];split
 ·have:=xF (j6 x.kind) (l:=[x.aH]) (by simp only[zx5,forall_eq];exact wi (by omega));simp only[zw1,List.length_nil] at this;omega
 ·have:=xF (j6 x.kind) (l:=[x.aH,x.other,x.no]) (by
   intro y hy;simp only[zv1,List.not_mem_nil,or_false] at hy;rcases hy with rfl | rfl | rfl <;>exact wi (by omega))
  simp only[zw1,List.length_nil] at this;omega
theorem Fw:∀ {l:List aU} {s s':aG},fG s l=some s'→∀ x∈l,hd x=true
 | [],_,_,_,x,hx=>by cases hx
 |y::l,s,s',h,x,hx=>by
  simp only[fG] at h;cases hy:gj s y with
  |none=>rw[hy] at h;cases h
  |some s2 =>
   rw[hy] at h;rcases zv1.1 hx with rfl | hx
   ·simp only[gj] at hy;split at hy
    ·assumption
    ·cases hy
   ·exact Fw h x hx
theorem Df{p:bA}{s:aG}(h:c7 p=some s):∀ x∈p.j,hd x=true:=Fw (iN h).2.2.2.2.2
theorem DB(p:bA){i:Nat}(h:i<p.j.length):l6 p (i+1)=jv (l6 p i) (mO p.j[i]):=by
 simp only[l6,zy0 h,List.foldl_append,List.foldl_cons,List.foldl_nil]
theorem DA{p:bA}{s:aG}(ho:c7 p=some s):∀ i,i≤p.j.length→(l6 p i).b.size≤50+74*i
 |0,_=>by
  have h5:=(iN ho).2.2.2.2.1;have ar:=(iN ho).2.2.2.1;simp only[iL,cT,t8,decide_eq_true_eq] at h5;have:=xF n5 (l:=[p.az,p.eI]) (by
   intro y hy;simp only[zv1,List.not_mem_nil,or_false] at hy;rcases hy with rfl | rfl <;>exact wi (by omega))
  have hp:n5.b.size=5:=rfl;simp only[zw1,List.length_nil] at this
  show (mn n5 [p.az,p.eI]).b.size≤_
  omega
 |i+1,h=>by
  have J:=DA ho i (by omega);have U:=CD (Df ho p.j[i] (List.getElem_mem _));rw[DB p (by omega),qi];omega
theorem yX(a:Int):fg 1 (some [.int .i64 a])=some (enc [a]):=qg (ys:=[a]) 1 rfl
theorem Iu(a b:Int):fg 1 (some [.int .i64 a,.int .i64 b])=some (enc [a,b]):=qg (ys:=[a,b]) 1 rfl
theorem Iv(a b c:Int):fg 1 (some [.int .i64 a,.int .i64 b,.int .i64 c])=some (enc [a,b,c]):=qg (ys:=[a,b,c]) 1 rfl
theorem Xi{k:Int}(h:1≤k∧k≤8)(A:ai):jS A 1 k (enc lD)=some (.ref (enc (j6 k))):=by
 have hk:k.toNat<lD.length:=by show k.toNat<9;omega
 have:=eM (A:=A) (l:=lD) (k:=k.toNat) 1 hk rfl;have e:((k.toNat:Nat):Int)=k:=by omega
 rw[e] at this;rw[this];simp[j6,zz0,hk]
def yz(p:bA)(i:Nat):ai :=
 au [(1,.ptr 1 []),(5,enc (l6 p i)),(20,enc p.j),(21,.int .i64 p.j.length),(22,.int .i64 i)] [(1,.box (enc p))]
theorem GK(p:bA):aZ Tryz.prog 53 [enc p] (.tuple [enc (tH p).1,enc (tH p).2]):=by
 refine aZ.b5 Tryz.func53 I9 Kd Ly (u8 rfl) (fun hwf W0 bG E1 =>?_);simp only[zG,Ew,bI];clear hwf;have hF:=sa p;simp only[nB] at hF;simp only[tH];have e0:(I.bQ ⟨#[]⟩)=enc vu:=rfl;have e1:(I.bQ ⟨#[112,111,117,110,100]⟩)=enc n5:=rfl;cases ho:c7 p with
 |none =>
  rw[ho] at hF;have R:=y6 @cg (y6 @bm (y6 @bU (y6 @bz (y6 @bu aC))))
  repeat' ((first |refine ae.aE (by decide +kernel) rfl fun K hK =>?_|refine .lead _ (hF) ?_|(refine .av [0,1,2,3,4,5,7,11,20,21,22,23,28] hK ?_;clear hK K)|(with_reducible refine .done (hK _ ?_);clear hK K)|refine ae.of rfl ?_|(with_reducible refine ay.aD (fun h =>?_) (fun h =>?_) <;>try simp only[h])) <;>try simp only[aF,R,simprocAttr])
  all_goals clear R
  all_goals rfl
 |some s =>
  have hjl:=(iN ho).2.2.2.1;have hok:=Df ho;have hsz:=DA ho;have hp:n5.b.size=5:=rfl;have hR:=uD n5 [p.az,p.eI] (by simp[hp]);rw[ho] at hF;have R:=y6 @Iu (y6 @cg (y6 @bm (y6 @bU (y6 @bz (y6 @bu aC)))))
  repeat' ((first |refine ae.aE (by decide +kernel) rfl fun K hK =>?_|refine .lead _ (hF) ?_|refine .flat _ (hR) rfl ?_|(refine .av [0,1,2,3,4,5,7,11,20,21,22,23,28] hK ?_;clear hK K)|(with_reducible refine .done (hK _ ?_);clear hK K)|refine ae.of rfl ?_|(with_reducible refine ay.aD (fun h =>?_) (fun h =>?_) <;>try simp only[h])) <;>try simp only[aF,R,simprocAttr])
  all_goals clear R
  refine ae.loop (yz p) (fun i=>i≤p.j.length) (fun i=>p.j.length-i) 0 (zw2 _) ?_ ?_
  ·refine bw.dh ?_ ?_ ?_ ?_ <;>simp[cz,c6,cJ,cF,aw,cu,dE,I.only,aq.only,cA]
   all_goals rfl
  intro i hi;simp only[yz];have hsi:=hsz i hi;by_cases hlt:i<p.j.length
  ·have hc:=ga hlt;have he:=fun A=>eM (A:=A) 4 hlt rfl;have hw:=fJ (i:=i) (by omega);have hst:∀ A rest b,dk A (some 4) 7 [] b (enc p.j[i]) rest (some (.agg [.int .i64 0,.int .i64 0,.int .i64 0,.int .i64 0]))=aB rest (A.aT 7 (.box (enc p.j[i]))):=fun A rest b=>dK (eg _) (by rw[e7];rfl) (eC _);have hoki:=hok p.j[i] (List.getElem_mem hlt);have hls:=CD hoki;obtain ⟨hk,hk2⟩:=C7 hoki;have hwd:=Xi hk;have hps:=DB p hlt;have hww:=F6 p.j[i].kind;generalize p.j[i]=x at *;have hadd:∀ l:ff,l.b.size≤74→cE .add (enc (l6 p i)) (enc l)=some (enc (jv (l6 p i) l)):=fun l h=>sr (l6 p i) l (by omega);rcases q:decide (x.kind≤2)
   ·have bM:¬ x.kind≤2:=of_decide_eq_false q;have ao:mO x=mn (j6 x.kind) [x.aH,x.other,x.no]:=by simp[mO,bM]
    rw[ao] at hls hps;have hR2:=uD (j6 x.kind) [x.aH,x.other,x.no] (by simp;omega);have had:=hadd _ hls;have R:=y6 @hc (y6 @he (y6 @hw (y6 @hst (y6 @hwd (y6 @q (y6 @had (y6 @Iv (y6 @cg (y6 @bm (y6 @bU (y6 @bz (y6 @bu aC))))))))))))
    repeat' ((first |refine ae.aE (by decide +kernel) rfl fun K hK =>?_|refine .lead _ (yp) ?_|refine .flat _ (hR2) rfl ?_|(refine .av [0,1,2,3,4,5,7,11,20,21,22,23,28] hK ?_;clear hK K)|(with_reducible refine .done (hK _ ?_);clear hK K)|refine ae.of rfl ?_|(with_reducible refine ay.aD (fun h =>?_) (fun h =>?_) <;>try simp only[h])) <;>try simp only[aF,R,simprocAttr])
    all_goals clear R
    refine ⟨i+1,by omega,by omega,?_⟩;rw[hps];refine bw.dh ?_ ?_ ?_ ?_ <;>simp[cz,c6,cJ,cF,aw,cu,dE,I.only,aq.only,cA]
    all_goals rfl
   ·have bM:x.kind≤2:=of_decide_eq_true q;have ao:mO x=mn (j6 x.kind) [x.aH]:=by simp[mO,bM]
    rw[ao] at hls hps;have hR2:=uD (j6 x.kind) [x.aH] (by simp;omega);have had:=hadd _ hls;have R:=y6 @hc (y6 @he (y6 @hw (y6 @hst (y6 @hwd (y6 @q (y6 @had (y6 @yX (y6 @cg (y6 @bm (y6 @bU (y6 @bz (y6 @bu aC))))))))))))
    repeat' ((first |refine ae.aE (by decide +kernel) rfl fun K hK =>?_|refine .lead _ (yp) ?_|refine .flat _ (hR2) rfl ?_|(refine .av [0,1,2,3,4,5,7,11,20,21,22,23,28] hK ?_;clear hK K)|(with_reducible refine .done (hK _ ?_);clear hK K)|refine ae.of rfl ?_|(with_reducible refine ay.aD (fun h =>?_) (fun h =>?_) <;>try simp only[h])) <;>try simp only[aF,R,simprocAttr])
    all_goals clear R
    refine ⟨i+1,by omega,by omega,?_⟩;rw[hps];refine bw.dh ?_ ?_ ?_ ?_ <;>simp[cz,c6,cJ,cF,aw,cu,dE,I.only,aq.only,cA]
    all_goals rfl
  ·have hge:i=p.j.length:=by omega
   have hc:=gp hlt;subst hge;have R:=y6 @hc (y6 @cg (y6 @bm (y6 @bU (y6 @bz (y6 @bu aC)))))
   repeat' ((first |refine ae.aE (by decide +kernel) rfl fun K hK =>?_|(refine .av [0,1,2,3,4,5,7,11,20,21,22,23,28] hK ?_;clear hK K)|(with_reducible refine .done (hK _ ?_);clear hK K)|refine ae.of rfl ?_|(with_reducible refine ay.aD (fun h =>?_) (fun h =>?_) <;>try simp only[h])) <;>try simp only[aF,R,simprocAttr])
   all_goals clear R
theorem bO.r3{P:Program}{Y:Value→List I→List (Nat×aq)→cC→Prop}{ab:List FuncId}{K:ai→Prop}{v:Value}{vs:List I}{dst:Option Nat}{rest:List aI}{ts:List (Nat×I)}{os osk ow:List (Nat×aq)}{In Ix:List (Nat×aq)→Prop}
  (hY:Y v vs osk (fun r os2=>(r=.bool true∧In os2)∨(r=.bool false∧Ix os2))) (hk:eV os osk) (hi:∀ os',In os'→eV os os') (hx:∀ os',Ix os'→eV os os') (hcl:I.ca vs=true) (how:∀ m,aw ow m=true→m<1000000)
  (J:∀ os2,In os2→bO P Y ab K (aB rest ((au ts (ow++os2)).aS dst (.bool true)))) (U:∀ os2,Ix os2→bO P Y ab K (aB rest ((au ts (ow++os2)).aS dst (.bool false)))) :
  bO P Y ab K (.kN v vs dst rest (au ts (ow++osk))):=by
 refine .F7 osk vs _ hY (gn.iC hk how) (sA vs hcl) ?_ ?_
 ·rintro r os' (⟨rfl,h⟩ | ⟨rfl,h⟩)
  ·exact fW.iC hk (hi _ h) rfl
  ·exact fW.iC hk (hx _ h) rfl
 ·rintro r os' (⟨rfl,h⟩ | ⟨rfl,h⟩)
  ·rw[sB hk (hi _ h) how];exact J os' h
  ·rw[sB hk (hx _ h) how];exact U os' h
theorem qE{os os2 ow:List (Nat×aq)}{ts:List (Nat×I)}(h:eV os os2)(how:∀ m,aw ow m=true→m<1000000):∀ n x,aj os2 n=some x→(au ts (ow++os2)).o n=some x∧x.only (aw os2)=true∧x.eh=true:=fun n x hx=>by
 have hn:aw os2 n=true:=by simp[aw,hx]
 have hg:=h.lQ n (by rw[←h.same];exact hn);refine ⟨?_,h.ok n x hx⟩;simp only[au,fE];cases hw:aj ow n with
 |none=>exact hx
 |some y=>have:=how n (by simp[aw,hw]);omega
def tO:ea:=⟨0,0,0,0,0⟩
def oc(s:aG)(to n:Int):ea:=⟨if (s.b9 (n.toNat-1)).dz then 3 else 1,s.az,to,(s.b9 (n.toNat-1)).aH,n⟩
def pX(s:aG)(to n:Int):Bool:=(s.b9 (n.toNat-1)).to==to
def gq(s:aG)(to:Int)(i:Nat):List ea:=(((cj s.bB).take i).filter (pX s to)).map (oc s to)
def ln(s:aG)(to:Int)(no:Nat):List ea:=match s.bo.find? fun x=>decide (eL x=⟨to,no⟩) with
 |some x=>[⟨if x.kind=8 then 4 else 2,s.az,to,x.aH,no⟩]
 |none=>[]
def gU(s:aG)(to:Int)(k:Nat):List ea:=(List.range k).flatMap fun i=>ln s to (i+1)
def ft(s:aG)(to:Int):List ea:=gq s to (cj s.bB).length++gU s to 200
theorem wo(s:aG)(to:Int){i:Nat}(h:i<(cj s.bB).length):gq s to (i+1)=gq s to i++if pX s to (cj s.bB)[i] then [oc s to (cj s.bB)[i]] else []:=by
 simp only[gq,zy0 h,List.filter_append,zy5,zw0,List.filter_nil]
 congr 1
 split <;>rfl
theorem po(s:aG)(to:Int)(k:Nat):gU s to (k+1)=gU s to k++ln s to (k+1):=by
 simp only[gU,List.range_succ,List.flatMap_append,List.flatMap_cons,List.flatMap_nil,zv2]
theorem Cp(s:aG)(to:Int):∀ {i n:Nat},i≤n→n≤(cj s.bB).length→gq s to i <+: gq s to n
 |i,0,h,_=>by
   have:i=0:=by omega
   subst this;exact List.prefix_rfl
 |i,n+1,h,hn=>by
  by_cases e:i=n+1
  ·subst e;exact List.prefix_rfl
  ·rw[wo s to (by omega)];exact (Cp s to (by omega) (by omega)).trans (List.prefix_append _ _)
theorem Cs(s:aG)(to:Int):∀ {k n:Nat},k≤n→gU s to k <+: gU s to n
 |k,0,h=>by
   have:k=0:=by omega
   subst this;exact List.prefix_rfl
 |k,n+1,h=>by
  by_cases e:k=n+1
  ·subst e;exact List.prefix_rfl
  ·rw[po];exact (Cs s to (by omega)).trans (List.prefix_append _ _)
theorem B5{α:Type}{l m:List α}{x d:α}(h:l++[x] <+: m):l.length<m.length∧m.getD l.length d=x:=by
 obtain ⟨r,rfl⟩:=h;refine ⟨by simp,?_⟩;rw[zy2,zz0,zw4 (zz4 _)];simp
theorem WB{s:aG}{to:Int}{i:Nat}(h:i<(cj s.bB).length)(ht:pX s to (cj s.bB)[i]=true):(gq s to i).length<(ft s to).length∧(ft s to).getD (gq s to i).length tO=oc s to (cj s.bB)[i]:=by
 have J:=wo s to h;rw[if_pos ht] at J;have U:=Cp s to (i:=i+1) (n:=(cj s.bB).length) (by omega) (zz4 _);rw[J] at U;exact B5 (U.trans (List.prefix_append _ _))
theorem WC{s:aG}{to:Int}{k:Nat}{x:ea}(h:k<200)(hx:ln s to (k+1)=[x]):(gq s to (cj s.bB).length++gU s to k).length<(ft s to).length∧(ft s to).getD (gq s to (cj s.bB).length++gU s to k).length tO=x:=by
 have J:=po s to k;rw[hx] at J;have U:=Cs s to (k:=k+1) (n:=200) (by omega);rw[J] at U;refine B5 ?_;rw[zy2];exact List.prefix_append_right_inj _ |>.2 U
theorem oP(a b c d e:Int):(dO [.int .i64 0,.int .i64 0,.int .i64 0,.int .i64 0,.int .i64 0] [(0,.int .i64 a),(1,.int .i64 b),(2,.int .i64 c),(3,.int .i64 d),(4,.int .i64 e)]).map I.agg=some (enc (⟨a,b,c,d,e⟩:ea)):=by simp[dO,I.bS,I.size];rfl
theorem nj:(∀ A n b rest (q:ea) x y z w u,dk A (some 5) n [] b (enc q) rest (some (.agg [.int .i64 x,.int .i64 y,.int .i64 z,.int .i64 w,.int .i64 u]))=aB rest (A.aT n (.box (enc q)))) ∧
  (∀ (A:ai) n (q:ea) rest (v u:Int),dk A none n [0] (enc q) (.int .i64 v) rest (some (.int .i64 u))=aB rest (A.aT n (.box (enc (⟨v,q.bR,q.to,q.aH,q.no⟩:ea))))) ∧
  (∀ A n b rest (q:aU) x y z w,dk A (some 4) n [] b (enc q) rest (some (.agg [.int .i64 x,.int .i64 y,.int .i64 z,.int .i64 w]))=aB rest (A.aT n (.box (enc q)))) :=
 ⟨fun A n b rest q x y z w u=>dK (eg _) (by rw[e7];rfl) (eC _),fun A n q rest v u=>dK rfl rfl rfl,fun A n b rest q x y z w=>dK (eg _) (by rw[e7];rfl) (eC _)⟩
theorem tD{a b:aq} : ∀ m,aw [(7,a),(7,b)] m=true→m<1000000:=fun m h=>by
 simp only[aw,aj] at h
 (repeat' split at h) <;>first | omega | (simp at h;done)
theorem tE{a b c:aq} : ∀ m,aw [(7,a),(7,b),(7,c)] m=true→m<1000000:=fun m h=>by
 simp only[aw,aj] at h
 (repeat' split at h) <;>first | omega | (simp at h;done)
theorem tC{a b c d:aq} : ∀ m,aw [(11,a),(11,b),(9,c),(9,d)] m=true→m<1000000:=fun m h=>by
 simp only[aw,aj] at h
 (repeat' split at h) <;>first | omega | (simp at h;done)
theorem xd{a b c d e:aq} : ∀ m,aw [(11,a),(11,b),(11,e),(9,c),(9,d)] m=true→m<1000000:=fun m h=>by
 simp only[aw,aj] at h
 (repeat' split at h) <;>first | omega | (simp at h;done)
theorem Y1:∀ m,aw [] m=true→m<1000000:=fun m h=>by simp[aw,aj] at h
theorem nE{ow os osk:List (Nat×aq)}(hw:∀ m,aw ow m=true→m<1000000)(gk:eV os osk):∀ m,aj osk m=none∨aj osk m=aj (ow++osk) m:=fun m=>by
 rw[fE];cases h:aj ow m with
 |none=>exact .inr rfl
 |some y=>exact .inl (gk.none (hw m (by simp[aw,h])))
theorem oA(p:Nat→Bool)(s:aG):(dB s).only p=true:=kq p _ (oz s)
def sn(s:aG)(to:Int)(v:Value)(t:Nat×List (Nat×aq)):ai :=
 au [(0,.raw v),(1,.ref (dB s)),(2,.ref (.int .i64 to)),(8,.int .i64 ((t.1:Int)+1))] t.2
def sk(s:aG)(to:Int)(v:Value)(t:Nat×List (Nat×aq)):ai :=
 au [(0,.raw v),(1,.ref (dB s)),(2,.ref (.int .i64 to)),(13,enc (cj s.bB)),(14,.int .i64 (cj s.bB).length),(15,.int .i64 t.1)] t.2
theorem Gd(s:aG)(to:Int)(ao:s.aR.length≤1000):yr Tryz.prog 107 [.ref (dB s),.ref (enc to)] (ft s to).length (fun k=>[enc ((ft s to).getD k tO)]):=by
 intro Y v bf Ix os hv hY hI hIx aY;have hG:=hI 0 os aY;have hlen:(cj s.bB).length=s.aR.length:=by simp[cj,aG.bB]
 have hN:=yn s (by omega);refine kC.b5 Tryz.func107 Af JH KT (u8 rfl) (u8 rfl) hG.lQ (fun hwf W0 bG E1 =>?_);simp only[y7,DL,bI,zz1,Nat.reduceAdd];have R:=y6 @eb (y6 @bm (y6 @bU (y6 @bz (y6 @bu aC))))
 repeat' ((first |(with_reducible refine .guard (fun hb =>?_) (fun hb =>?_) <;>try simp only[hb])|refine ae.aE (by decide +kernel) rfl fun K hK =>?_|refine .lead _ (hN) ?_|(refine .av [0,1,2,5,6,7,8,9,10,11,13,14,15,16,39,52,55,80,88] hK ?_;clear hK K)|(with_reducible refine .done (hK _ ?_);clear hK K)|refine ae.of rfl ?_|(with_reducible refine ay.aD (fun h =>?_) (fun h =>?_) <;>try simp only[h])) <;>try simp only[aF,R,simprocAttr])
 all_goals clear R
 refine ae.loop (sk s to v) (fun t=>t.1≤(cj s.bB).length∧bf (gq s to t.1).length t.2) (fun t=>(cj s.bB).length-t.1) (0,os) ⟨zw2 _,aY⟩ ?_ ?_
 ·refine bw.slots ?_ (fun n=>rfl);simp[cz,cu]
 rintro ⟨i,osk⟩ ⟨hi,hIk⟩;simp only at hi hIk;have gk:=hI _ osk hIk;have n7:=gk.none (n:=7) (by decide);simp only[sk];by_cases hlt:i<(cj s.bB).length
 ·have hc:=ga hlt;have he:=fun A=>eM (A:=A) 1 hlt rfl;have hw:=fJ (i:=i) (by omega);have hlk:=CE s hlt;have hsu:=wo s to hlt;have hra:=WB (s:=s) (to:=to) hlt;obtain ⟨n,hn⟩:∃ n,n=(cj s.bB)[i]:=⟨_,rfl⟩
  rw[←hn] at he hlk hsu hra;obtain ⟨r,hr⟩:∃ r,r=s.b9 (n.toNat-1):=⟨_,rfl⟩
  have hrd:oc s to n=⟨if r.dz then 3 else 1,s.az,to,r.aH,n⟩:=by simp only[oc,←hr]
  have hta:pX s to n=(r.to==to):=by simp only[pX,←hr]
  rw[←hr] at hlk;rcases q:(r.to==to)
  ·rw[q] at hta;rw[hta] at hsu;simp only[zz2,if_false,zv2] at hsu;rcases qc:r.dz
   all_goals
    have R:=y6 @hc (y6 @he (y6 @hw (y6 @hlk (y6 @q (y6 @qc (y6 @n7 (y6 @oP (y6 @nj (y6 @eb (y6 @bm (y6 @bU (y6 @bz (y6 @bu aC)))))))))))))
    repeat' ((first |(with_reducible refine .guard (fun hb =>?_) (fun hb =>?_) <;>try simp only[hb])|(refine ae.rC (gs:=nJ) [] [] [0,1,2,3,4,5,6,7,8,9,10,11] (by decide +kernel) (cW.of (by simp[fo])) fun K hK =>?_;simp only[e8,nJ,zy6,zy7,R,simprocAttr])|refine ae.aE (by decide +kernel) rfl fun K hK =>?_|(refine .av [0,1,2,5,6,7,8,9,10,11,13,14,15,16,39,52,55,80,88] hK ?_;clear hK K)|(with_reducible refine .done (hK _ ?_);clear hK K)|refine ae.of rfl ?_|(with_reducible refine ay.aD (fun h =>?_) (fun h =>?_) <;>try simp only[h])) <;>try simp only[aF,R,simprocAttr])
    all_goals clear R
    refine ⟨(i+1,osk),⟨by simp only;omega,by simp only[hsu];exact hIk⟩,by simp only;omega,?_⟩;refine bw.fn ?_ ?_ ?_ (fun m x h=>(gk.ok m x h).1)
    ·simp[cz,cu]
    ·first | exact nE (ow:=[(7,_),(7,_)]) tD gk | exact nE (ow:=[(7,_),(7,_),(7,_)]) tE gk
    ·simp[cJ,I.only,cA,oA]
  ·rw[q] at hta;rw[hta,if_pos rfl] at hsu;obtain ⟨g1,g2⟩:=hra hta;have hs1:(gq s to (i+1)).length=(gq s to i).length+1:=by rw[hsu];simp
   have hy:=hY _ osk _ g1 hIk (fun r os2 h=>h);simp only[g2,hrd] at hy;rcases qc:r.dz
   ·rw[qc] at hy;simp only[zz2,if_false] at hy;have R:=y6 @hc (y6 @he (y6 @hw (y6 @hlk (y6 @q (y6 @qc (y6 @n7 (y6 @oP (y6 @nj (y6 @sI (y6 @eb (y6 @bm (y6 @bU (y6 @bz (y6 @bu aC))))))))))))))
    repeat' ((first |(with_reducible refine .guard (fun hb =>?_) (fun hb =>?_) <;>try simp only[hb])|(refine ae.rC (gs:=nJ) [] [] [0,1,2,3,4,5,6,7,8,9,10,11] (by decide +kernel) (cW.of (by simp[fo])) fun K hK =>?_;simp only[e8,nJ,zy6,zy7,R,simprocAttr])|refine ae.aE (by decide +kernel) rfl fun K hK =>?_|refine bO.r3 (ow:=[(7,_),(7,_)]) hy gk (hI _) hIx (by simp[I.ca,kd]) tD (fun os2 U =>?_) (fun os2 U =>?_)|(refine .av [0,1,2,5,6,7,8,9,10,11,13,14,15,16,39,52,55,80,88] hK ?_;clear hK K)|(with_reducible refine .done (hK _ ?_);clear hK K)|refine ae.of rfl ?_|(with_reducible refine ay.aD (fun h =>?_) (fun h =>?_) <;>try simp only[h])) <;>try simp only[aF,R,simprocAttr])
    all_goals clear R
    ·have g3:=hI _ os2 U;refine ⟨(i+1,os2),⟨by simp only;omega,by simp only[hs1];exact U⟩,by simp only;omega,?_⟩;refine bw.fn ?_ (nE tD g3) ?_ (fun m x h=>(g3.ok m x h).1)
     ·simp[cz,cu]
     ·simp[cJ,I.only,cA,oA]
    ·rw[mg];exact ⟨os2,[],qE (hIx os2 U) tD,trivial,rfl,.inr U⟩
   ·rw[qc] at hy;simp only[if_true] at hy;have R:=y6 @hc (y6 @he (y6 @hw (y6 @hlk (y6 @q (y6 @qc (y6 @n7 (y6 @oP (y6 @nj (y6 @sI (y6 @eb (y6 @bm (y6 @bU (y6 @bz (y6 @bu aC))))))))))))))
    repeat' ((first |(with_reducible refine .guard (fun hb =>?_) (fun hb =>?_) <;>try simp only[hb])|(refine ae.rC (gs:=nJ) [] [] [0,1,2,3,4,5,6,7,8,9,10,11] (by decide +kernel) (cW.of (by simp[fo])) fun K hK =>?_;simp only[e8,nJ,zy6,zy7,R,simprocAttr])|refine ae.aE (by decide +kernel) rfl fun K hK =>?_|refine bO.r3 (ow:=[(7,_),(7,_),(7,_)]) hy gk (hI _) hIx (by simp[I.ca,kd]) tE (fun os2 U =>?_) (fun os2 U =>?_)|(refine .av [0,1,2,5,6,7,8,9,10,11,13,14,15,16,39,52,55,80,88] hK ?_;clear hK K)|(with_reducible refine .done (hK _ ?_);clear hK K)|refine ae.of rfl ?_|(with_reducible refine ay.aD (fun h =>?_) (fun h =>?_) <;>try simp only[h])) <;>try simp only[aF,R,simprocAttr])
    all_goals clear R
    ·have g3:=hI _ os2 U;refine ⟨(i+1,os2),⟨by simp only;omega,by simp only[hs1];exact U⟩,by simp only;omega,?_⟩;refine bw.fn ?_ (nE tE g3) ?_ (fun m x h=>(g3.ok m x h).1)
     ·simp[cz,cu]
     ·simp[cJ,I.only,cA,oA]
    ·rw[mg];exact ⟨os2,[],qE (hIx os2 U) tE,trivial,rfl,.inr U⟩
 ·have hge:i=(cj s.bB).length:=by omega
  have hc:=gp hlt;rw[hge] at hIk;rw[hge] at hc ⊢;have R:=y6 @hc (y6 @eb (y6 @bm (y6 @bU (y6 @bz (y6 @bu aC)))))
  repeat' ((first |(with_reducible refine .guard (fun hb =>?_) (fun hb =>?_) <;>try simp only[hb])|refine ae.aE (by decide +kernel) rfl fun K hK =>?_|(refine .av [0,1,2,5,6,7,8,9,10,11,13,14,15,16,39,52,55,80,88] hK ?_;clear hK K)|(with_reducible refine .done (hK _ ?_);clear hK K)|refine ae.of rfl ?_|(with_reducible refine ay.aD (fun h =>?_) (fun h =>?_) <;>try simp only[h])) <;>try simp only[aF,R,simprocAttr])
  all_goals clear R
  refine ae.loop (sn s to v) (fun t=>t.1≤200∧bf (gq s to (cj s.bB).length++gU s to t.1).length t.2) (fun t=>200-t.1) (0,osk) ⟨zw2 _,by simpa[gU] using hIk⟩ ?_ ?_
  ·refine bw.slots ?_ (fun n=>rfl);simp[cz,cu]
  clear hIk gk n7 hc hlt hi hge;rintro ⟨k,osk⟩ ⟨hk,hIk⟩;simp only at hk hIk;have gk:=hI _ osk hIk;have n9:=gk.none (n:=9) (by decide);have n11:=gk.none (n:=11) (by decide);simp only[sn];by_cases hlt:k<200
  ·have hc:decide (((k:Int)+1)≤200)=true:=by simp;omega
   have hw:IntKind.i64.wrap ((k:Int)+1+1)=((k+1:Nat):Int)+1:=by rw[mB _ (by omega) (by omega)];omega
   have hsu:=po s to k;have hlg:=wD sN eL (fun x:aU=>enc x) (.agg [.int .i64 0,.int .i64 0,.int .i64 0,.int .i64 0]) ⟨to,(k:Int)+1⟩ s.bo;have ew:(enc (⟨to,(k:Int)+1⟩:jr):I)=.agg [.int .i64 to,.int .i64 ((k:Int)+1)]:=rfl;rw[ew] at hlg;have e2:(fun x:aU=>decide ((⟨to,(k:Int)+1⟩:jr)=eL x))=fun x=>decide (eL x=⟨to,(k:Int)+1⟩):=by
    funext x;rw[Bool.eq_iff_iff];simp[eq_comm]
   rw[e2] at hlg;have hrb:ln s to (k+1)=match s.bo.find? fun x=>decide (eL x=⟨to,(k:Int)+1⟩) with
    |some x=>[⟨if x.kind=8 then 4 else 2,s.az,to,x.aH,(k:Int)+1⟩]
    |none=>[]:=by simp only[ln];rfl
   have gr:=fun x=>WC (s:=s) (to:=to) (k:=k) (x:=x) hlt;cases hf:s.bo.find? fun x=>decide (eL x=⟨to,(k:Int)+1⟩) with
   |none =>
    rw[hf] at hlg hrb;simp only at hlg hrb;have hlk:fi (.bg [.i .i64,.i .i64]) (.agg [.int .i64 0,.int .i64 0,.int .i64 0,.int .i64 0]) (.agg [.int .i64 to,.int .i64 ((k:Int)+1)]) (s.dS.map enc) (s.bo.map enc)=some (enc fh,false):=hlg;have q:(fh.kind==8)=false:=rfl;rw[hrb,zv2] at hsu;have R:=y6 @hc (y6 @hw (y6 @hlk (y6 @q (y6 @n9 (y6 @n11 (y6 @sE (y6 @oP (y6 @nj (y6 @eb (y6 @bm (y6 @bU (y6 @bz (y6 @bu aC)))))))))))))
    repeat' ((first |(with_reducible refine .guard (fun hb =>?_) (fun hb =>?_) <;>try simp only[hb])|refine ae.aE (by decide +kernel) rfl fun K hK =>?_|(refine .av [0,1,2,5,6,7,8,9,10,11,13,14,15,16,39,52,55,80,88] hK ?_;clear hK K)|(with_reducible refine .done (hK _ ?_);clear hK K)|refine ae.of rfl ?_|(with_reducible refine ay.aD (fun h =>?_) (fun h =>?_) <;>try simp only[h])) <;>try simp only[aF,R,simprocAttr])
    all_goals clear R
    refine ⟨(k+1,osk),⟨by simp only;omega,by simp only[hsu];exact hIk⟩,by simp only;omega,?_⟩;refine bw.fn ?_ (nE (ow:=[(11,_),(11,_),(9,_),(9,_)]) tC gk) ?_ (fun m x h=>(gk.ok m x h).1)
    ·simp[cz,cu]
    ·simp[cJ,I.only,oA]
   |some x =>
    rw[hf] at hlg hrb;simp only at hlg hrb;have hlk:fi (.bg [.i .i64,.i .i64]) (.agg [.int .i64 0,.int .i64 0,.int .i64 0,.int .i64 0]) (.agg [.int .i64 to,.int .i64 ((k:Int)+1)]) (s.dS.map enc) (s.bo.map enc)=some (enc x,true):=hlg;obtain ⟨g1,g2⟩:=gr _ hrb;rw[hrb] at hsu;have hs1:(gq s to (cj s.bB).length++gU s to (k+1)).length=(gq s to (cj s.bB).length++gU s to k).length+1:=by rw[hsu];simp only[zz7,zw1,List.length_nil];omega
    have hy:=hY _ osk _ g1 hIk (fun r os2 h=>h);simp only[g2] at hy;rcases q:(x.kind==8)
    ·have qk:¬ x.kind=8:=by simpa using q
     simp only[if_neg qk] at hy;have R:=y6 @hc (y6 @hw (y6 @hlk (y6 @q (y6 @n9 (y6 @n11 (y6 @sE (y6 @oP (y6 @nj (y6 @sI (y6 @eb (y6 @bm (y6 @bU (y6 @bz (y6 @bu aC))))))))))))))
     repeat' ((first |(with_reducible refine .guard (fun hb =>?_) (fun hb =>?_) <;>try simp only[hb])|refine ae.aE (by decide +kernel) rfl fun K hK =>?_|refine aQ.r3 (ow:=[(11,_),(11,_),(9,_),(9,_)]) hy gk (hI _) hIx (by simp[I.ca,kd]) tC (fun os2 U =>?_) (fun os2 U =>?_)|(refine .av [0,1,2,5,6,7,8,9,10,11,13,14,15,16,39,52,55,80,88] hK ?_;clear hK K)|(with_reducible refine .done (hK _ ?_);clear hK K)|refine ae.of rfl ?_|(with_reducible refine ay.aD (fun h =>?_) (fun h =>?_) <;>try simp only[h])) <;>try simp only[aF,R,simprocAttr])
     all_goals clear R
     ·have g3:=hI _ os2 U;refine ⟨(k+1,os2),⟨by simp only;omega,by simp only[hs1];exact U⟩,by simp only;omega,?_⟩;refine bw.fn ?_ (nE tC g3) ?_ (fun m x h=>(g3.ok m x h).1)
      ·simp[cz,cu]
      ·simp[cJ,I.only,oA]
     ·rw[mg];exact ⟨os2,[],qE (hIx os2 U) tC,trivial,rfl,.inr U⟩
    ·have qk:x.kind=8:=by simpa using q
     simp only[if_pos qk] at hy;have R:=y6 @hc (y6 @hw (y6 @hlk (y6 @q (y6 @n9 (y6 @n11 (y6 @sE (y6 @oP (y6 @nj (y6 @sI (y6 @eb (y6 @bm (y6 @bU (y6 @bz (y6 @bu aC))))))))))))))
     repeat' ((first |(with_reducible refine .guard (fun hb =>?_) (fun hb =>?_) <;>try simp only[hb])|refine ae.aE (by decide +kernel) rfl fun K hK =>?_|refine aQ.r3 (ow:=[(11,_),(11,_),(11,_),(9,_),(9,_)]) hy gk (hI _) hIx (by simp[I.ca,kd]) xd (fun os2 U =>?_) (fun os2 U =>?_)|(refine .av [0,1,2,5,6,7,8,9,10,11,13,14,15,16,39,52,55,80,88] hK ?_;clear hK K)|(with_reducible refine .done (hK _ ?_);clear hK K)|refine ae.of rfl ?_|(with_reducible refine ay.aD (fun h =>?_) (fun h =>?_) <;>try simp only[h])) <;>try simp only[aF,R,simprocAttr])
     all_goals clear R
     ·have g3:=hI _ os2 U;refine ⟨(k+1,os2),⟨by simp only;omega,by simp only[hs1];exact U⟩,by simp only;omega,?_⟩;refine bw.fn ?_ (nE xd g3) ?_ (fun m x h=>(g3.ok m x h).1)
      ·simp[cz,cu]
      ·simp[cJ,I.only,oA]
     ·rw[mg];exact ⟨os2,[],qE (hIx os2 U) xd,trivial,rfl,.inr U⟩
  ·have hc:decide (((k:Int)+1)≤200)=false:=by simp;omega
   have hge:k=200:=by omega
   have R:=y6 @hc (y6 @eb (y6 @bm (y6 @bU (y6 @bz (y6 @bu aC)))))
   repeat' ((first |(with_reducible refine .guard (fun hb =>?_) (fun hb =>?_) <;>try simp only[hb])|refine ae.aE (by decide +kernel) rfl fun K hK =>?_|(refine .av [0,1,2,5,6,7,8,9,10,11,13,14,15,16,39,52,55,80,88] hK ?_;clear hK K)|(with_reducible refine .done (hK _ ?_);clear hK K)|refine ae.of rfl ?_|(with_reducible refine ay.aD (fun h =>?_) (fun h =>?_) <;>try simp only[h])) <;>try simp only[aF,R,simprocAttr])
   all_goals clear R
   rw[mf];refine ⟨osk,[],qE (ow:=[]) gk Y1,trivial,rfl,.inl ?_⟩;rw[ft];rw[hge] at hIk;exact hIk
def E5(o:Option aG):I:=match o with
 |some s=>.tuple [dB s,.bool true]
 |none=>.tuple [.nilp,.bool false]
theorem GP(az:Int)(l:List aU)(ao:l.length≤200):aZ Tryz.prog 62 [enc az,enc l] (E5 (fF az l)):=by
 refine aZ.b5 Tryz.func62 Au AN AV (u8 rfl) (fun hwf W0 bG E1 =>?_);simp only[vb,xp,bI,zz1];clear hwf;have R:=y6 @bU (y6 @bz (y6 @bu aC))
 repeat' ((first |refine ae.aE (by decide +kernel) rfl fun K hK =>?_|refine aQ.eP rfl (fun _ _ _=>rfl) ?_|(refine .av [0,1,4,5,6,8,11,12,13,14,20] hK ?_;clear hK K)|(with_reducible refine .done (hK _ ?_);clear hK K)|refine ae.of rfl ?_|(with_reducible refine ay.aD (fun h =>?_) (fun h =>?_) <;>try simp only[h])) <;>try simp only[aF,R,simprocAttr])
 all_goals clear R
 refine ae.loop (sj l) (fun t=>t.1≤l.length∧fG (eP az) (l.take t.1)=some t.2) (fun t=>l.length-t.1) (0,eP az) ⟨zw2 _,rfl⟩ ?_ ?_
 ·rw[zv2];refine bw.fn ?_ (fun n=>.inr rfl) ?_ (fun n x h=>(lA (lf az) h).1)
  ·simp[cz,cu]
  ·have:=(dL (iE (eP az).all.length) (n:=2000)).2 (.inl (by omega));simp[cJ,I.only,cA,this]
 rintro ⟨i,s⟩ ⟨hi,hrun⟩;simp only at hi hrun;obtain ⟨hk,hme,hln⟩:=mY (lf az) hrun;have hln2:s.all.length≤i:=by simpa[eP,hi] using hln
 have n8:aj (dq s) 8=none:=eF (.inl (by omega)) fun i _=>by simp[bF];omega
 simp only[sj];by_cases hlt:i<l.length
 ·have hc:=ga hlt;have he:=fun A=>eM (A:=A) 4 hlt rfl;have hw:=fJ (i:=i) (by omega);have hst:∀ A rest,dk A (some 4) 8 [] (.agg [.int .i64 0,.int .i64 0,.int .i64 0,.int .i64 0]) (enc l[i]) rest (some (.agg [.int .i64 0,.int .i64 0,.int .i64 0,.int .i64 0]))=aB rest (A.aT 8 (.box (enc l[i]))):=fun A rest=>dK (eg _) (by rw[e7];rfl) (eC _);have how:∀ (a b:aq) m,2000≤m→aj [(8,a),(8,b)] m=none:=fun a b m hm=>by simp only[aj];rw[if_neg (by omega),if_neg (by omega)]
  have hsp:l=l.take i++l[i]::l.drop (i+1):=by simp
  cases hn:gj s l[i] with
  |none =>
   have ab:ee s l[i]=(s,false):=by simp[ee,hn]
   have R:=y6 @hc (y6 @he (y6 @hst (y6 @n8 (y6 @bm (y6 @bU (y6 @bz (y6 @bu aC)))))))
   repeat' ((first |refine ae.aE (by decide +kernel) rfl fun K hK =>?_|refine aQ.rW (ow:=[(8,_),(8,_)]) hk (by omega) rfl (how _ _) ab ?_|(refine .av [0,1,4,5,6,8,11,12,13,14,20] hK ?_;clear hK K)|(with_reducible refine .done (hK _ ?_);clear hK K)|refine ae.of rfl ?_|(with_reducible refine ay.aD (fun h =>?_) (fun h =>?_) <;>try simp only[h])) <;>try simp only[aF,R,simprocAttr])
   all_goals clear R
   have hno:fF az l=none:=by
    rw[fF,hsp,pS,hrun];simp only[Option.bind_some,fG,hn]
   rw[hno];rfl
  |some s2 =>
   have ab:ee s l[i]=(s2,true):=by simp[ee,hn]
   have R:=y6 @hc (y6 @he (y6 @hst (y6 @hw (y6 @n8 (y6 @bU (y6 @bz (y6 @bu aC)))))))
   repeat' ((first |refine ae.aE (by decide +kernel) rfl fun K hK =>?_|refine aQ.rW (ow:=[(8,_),(8,_)]) hk (by omega) rfl (how _ _) ab ?_|(refine .av [0,1,4,5,6,8,11,12,13,14,20] hK ?_;clear hK K)|(with_reducible refine .done (hK _ ?_);clear hK K)|refine ae.of rfl ?_|(with_reducible refine ay.aD (fun h =>?_) (fun h =>?_) <;>try simp only[h])) <;>try simp only[aF,R,simprocAttr])
   all_goals clear R
   obtain ⟨hk2,hme2,hln3⟩:=x2 hk hn;refine ⟨(i+1,s2),⟨by simp only;omega,?_⟩,by simp only;omega,?_⟩
   ·rw[zy0 hlt,pS,hrun];simp only[Option.bind_some,fG,hn]
   ·refine bw.fn ?_ (fun n =>?_) ?_ (fun n x h=>(lA hk2 h).1)
    ·simp[cz,cu]
    ·simp only[fE];cases aj (dq s2) n with
     |none=>exact .inl rfl
     |some y=>exact .inr rfl
    ·have:=(dL (iE s2.all.length) (n:=2000)).2 (.inl (by omega));simp[cJ,I.only,cA,this]
 ·have hge:i=l.length:=by omega
  have hc:=gp hlt;subst hge;rw[zv0] at hrun;have hfin:∀ ts,cX (au ts (dq s)) 9 (.agg [.int .i64 s.az,.mref 2001,.mref 2002,.int .i64 s.all.length,.mref 2003,.mref 2004])=some (fT s):=fun ts=>gR (gT (iE _) hk.cB fun n _=>rfl) 4;have hla:aj (dq s) 2000=some (.box (.agg [.int .i64 s.az,.mref 2001,.mref 2002,.int .i64 s.all.length,.mref 2003,.mref 2004])):=fu;have hrd:fF az l=some s:=hrun;rw[hrd];have R:=y6 @hc (y6 @hfin (y6 @hla (y6 @wS (y6 @bm (y6 @bU (y6 @bz (y6 @bu aC)))))))
  repeat' ((first |refine ae.aE (by decide +kernel) rfl fun K hK =>?_|(refine .av [0,1,4,5,6,8,11,12,13,14,20] hK ?_;clear hK K)|(with_reducible refine .done (hK _ ?_);clear hK K)|refine ae.of rfl ?_|(with_reducible refine ay.aD (fun h =>?_) (fun h =>?_) <;>try simp only[h])) <;>try simp only[aF,R,simprocAttr])
  all_goals clear R
  rfl
theorem GQ(s:aG)(to:Int):aZ Tryz.prog 63 [dB s,enc to] (.func 107 [.ref (dB s),.ref (enc to)]):=by
 refine aZ.b5 Tryz.func63 Jb Kf LA (u8 rfl) (fun hwf W0 bG E1 =>?_);simp only[zI,Ez,bI,zz1];clear hwf;have hall:([I.ptr 2 [],I.ptr 3 []].all fun y=>y.bS)=true:=rfl;have hv:∀ k n,(I.int k n).bS=true:=fun _ _=>rfl;have R:=y6 @hall (y6 @hv (y6 @eb (y6 @bm (y6 @bU (y6 @bz (y6 @bu aC))))))
 repeat' ((first |refine ae.aE (by decide +kernel) rfl fun K hK =>?_|(refine .av [0,1,2,3,4] hK ?_;clear hK K)|(with_reducible refine .done (hK _ ?_);clear hK K)|refine ae.of rfl ?_|(with_reducible refine ay.aD (fun h =>?_) (fun h =>?_) <;>try simp only[h])) <;>try simp only[aF,R,simprocAttr])
 all_goals clear R
theorem Xm{s:aG}(hk:cD s)(to:Int):(gq s to (cj s.bB).length).Nodup:=by
 have hn:s.bB.Nodup:=by
  simp only[aG.bB];exact List.Pairwise.map _ (fun a b h e=>h (by omega)) hk.iJ
 have ab:(cj s.bB).Nodup:=(List.mergeSort_perm _ _).nodup_iff.2 hn;rw[gq,zv0];have hf:=ab.filter (pX s to);exact List.Pairwise.map _ (fun a b h e=>h (by simpa[oc] using congrArg ea.no e)) hf
theorem wq{s:aG}{to:Int} : ∀ {k:Nat} {x:ea},x∈gU s to k→x.no≤k∧(x.kind=2∨x.kind=4)
 |0,x,h=>by simp[gU] at h
 |k+1,x,h=>by
  rw[po] at h;rcases zx7.1 h with h | h
  ·have:=wq h;omega
  ·simp only[ln] at h;split at h
   ·rw[zx5.1 h];refine ⟨by simp,?_⟩;simp only;split <;>simp
   ·cases h
theorem Cr(s:aG)(to:Int):∀ k,(gU s to k).Nodup
 |0=>by simp[gU]
 |k+1=>by
  rw[po];refine List.nodup_append.2 ⟨Cr s to k,?_,fun a ha b hb e =>?_⟩
  ·simp only[ln];split <;>simp
  ·have J:=(wq ha).1;have U:b.no=(k:Int)+1:=by
    simp only[ln] at hb;split at hb
    ·rw[zx5.1 hb];simp
    ·cases hb
   rw[e] at J;omega
theorem ZM{s:aG}(hk:cD s)(to:Int):(ft s to).Nodup:=by
 refine List.nodup_append.2 ⟨Xm hk to,Cr s to 200,fun a ha b hb e =>?_⟩;have J:=(wq hb).2;rw[←e] at J;simp only[gq,zx1] at ha;obtain ⟨n,_,rfl⟩:=ha;simp only[oc] at J;split at J <;>omega
def lO(p:bA):List aU:=p.j.take p.eI.toNat
def pL(p:bA)(to:Int):List ea×Int:=match c7 p with
 |none=>([],91)
 |some _=>if cT 0 5 to=false∨to=p.az then ([],90) else match fF p.az (lO p) with
  |some s=>(ft s to,0)
  |none=>([],0)
theorem NM{p:bA}{s:aG}(ho:c7 p=some s):0≤p.eI∧p.eI.toNat≤p.j.length∧∃ s2,fF p.az (lO p)=some s2∧cD s2∧s2.aR.length≤200:=by
 obtain ⟨_,_,_,ar,h5,h6⟩:=iN ho;simp only[iL,cT,t8,decide_eq_true_eq] at h5;obtain ⟨_,_,h7,h8⟩:=h5;have hsp:p.j=lO p++p.j.drop p.eI.toNat:=by simp[lO]
 rw[fF,hsp,pS] at h6;cases hr:fG (eP p.az) (lO p) with
 |none=>rw[hr] at h6;cases h6
 |some s2 =>
  refine ⟨h7,by omega,s2,hr,(mY (lf p.az) hr).1,?_⟩;have:=xG hr;simp only[eP,List.length_nil,lO,zx3] at this;omega
theorem Z5{A:ai}{l:List aU}{i:Nat}(h:i≤l.length):j5 A 4 none (some (.int .i64 i)) (some (.int .i64 i)) (enc l)=some (if i=0 then .c0 4 else enc (l.take i)):=by
 simp only[j5,hs,show Enc.sz aU=4 from rfl,if_true,iT,jd,zz8];rw[if_pos ⟨by omega,by omega,by omega,by omega⟩];by_cases aY:i=0
 ·simp[aY]
 ·rw[if_neg (by simp;omega),if_neg aY];simp
theorem mz{i:Nat}(l:List aU)(aL:Bool)(A:ai):bj aL A (if i=0 then .c0 4 else enc (l.take i))=some (enc (l.take i)):=by
 by_cases aY:i=0
 ·rw[if_pos aY,aY];simp only[bj];rfl
 ·rw[if_neg aY,kR]
theorem Cq(s:aG)(to:Int):∀ k,(gU s to k).length≤k
 |0=>by simp[gU]
 |k+1=>by
  have J:=Cq s to k;have U:(ln s to (k+1)).length≤1:=by simp only[ln];split <;>simp
  rw[po,zz7];omega
theorem ZL(s:aG)(to:Int):(ft s to).length≤s.aR.length+200:=by
 have J:=Cq s to 200;have U:(gq s to (cj s.bB).length).length≤s.aR.length:=by
  simp only[gq,zz8,zv0];refine zw9 (List.length_filter_le _ _) ?_;simp[cj,aG.bB]
 rw[ft,zz7];omega
def iV(xs:List ea):List (Nat×aq):=[(1000009,.box (.own 1000080 xs.length)),(1000080,.bW 39 5 (xs.map enc))]
theorem aag(xs ys:List ea):eV (iV xs) (iV ys):=by
 refine ⟨fun n=>by simp only[iV,aw,aj];(repeat' split) <;>rfl,fun n x h =>?_,fun n h =>?_⟩
 ·simp only[iV,aj] at h
  repeat' split at h
  all_goals first | (cases h;done) | (simp only[v6] at h;subst h;exact ⟨by simp[iV,aw,aj,aq.only,I.only,fR],rfl⟩)
 ·simp only[iV,aw,aj] at h
  repeat' split at h
  all_goals first | omega | (simp at h;done)
theorem ux(p:bA)(to:Int):aZ Tryz.prog 14 [enc p,enc to] (.tuple [enc (pL p to).1,enc (pL p to).2]):=by
 refine aZ.b5 Tryz.func14 IJ JP K9 (u8 rfl) (fun hwf W0 bG E1 =>?_);simp only[zf,D5,bI,zz1];clear hwf;have hF:=sa p;simp only[nB] at hF;simp only[pL];cases ho:c7 p with
 |none =>
  rw[ho] at hF;have R:=y6 @cg (y6 @bm (y6 @bU (y6 @bz (y6 @bu aC))))
  repeat' ((first |(with_reducible refine .guard (fun hb =>?_) (fun hb =>?_) <;>try simp only[hb])|refine ae.aE (by decide +kernel) rfl fun K hK =>?_|refine .lead _ (hF) ?_|(refine .av [0,1,2,4,5,6,7,9,10,14,24,40,41,54] hK ?_;clear hK K)|(with_reducible refine .done (hK _ ?_);clear hK K)|refine ae.of rfl ?_|(with_reducible refine ay.aD (fun h =>?_) (fun h =>?_) <;>try simp only[h])) <;>try simp only[aF,R,simprocAttr])
  all_goals clear R
  all_goals rfl
 |some s =>
  obtain ⟨f1,f2,s2,hr,hk,hl2⟩:=NM ho;have hjl:=(iN ho).2.2.2.1;rw[ho] at hF
  dsimp only at hF ⊢
  have hT:=lF to;rcases q2:cT 0 5 to
  ·rw[q2] at hT;simp only[true_or,if_true];have R:=y6 @cg (y6 @bm (y6 @bU (y6 @bz (y6 @bu aC))))
   repeat' ((first |(with_reducible refine .guard (fun hb =>?_) (fun hb =>?_) <;>try simp only[hb])|refine ae.aE (by decide +kernel) rfl fun K hK =>?_|refine .lead _ (hF) ?_|refine .flat _ (hT) rfl ?_|(refine .av [0,1,2,4,5,6,7,9,10,14,24,40,41,54] hK ?_;clear hK K)|(with_reducible refine .done (hK _ ?_);clear hK K)|refine ae.of rfl ?_|(with_reducible refine ay.aD (fun h =>?_) (fun h =>?_) <;>try simp only[h])) <;>try simp only[aF,R,simprocAttr])
   all_goals clear R
   all_goals rfl
  rw[q2] at hT;rcases q3:(to==p.az)
  case true =>
   have e:to=p.az:=by simpa using q3
   simp only[Bool.true_eq_false,false_or,if_pos e];have R:=y6 @q3 (y6 @cg (y6 @bm (y6 @bU (y6 @bz (y6 @bu aC)))))
   repeat' ((first |(with_reducible refine .guard (fun hb =>?_) (fun hb =>?_) <;>try simp only[hb])|refine ae.aE (by decide +kernel) rfl fun K hK =>?_|refine .lead _ (hF) ?_|refine .flat _ (hT) rfl ?_|(refine .av [0,1,2,4,5,6,7,9,10,14,24,40,41,54] hK ?_;clear hK K)|(with_reducible refine .done (hK _ ?_);clear hK K)|refine ae.of rfl ?_|(with_reducible refine ay.aD (fun h =>?_) (fun h =>?_) <;>try simp only[h])) <;>try simp only[aF,R,simprocAttr])
   all_goals clear R
   all_goals rfl
  have e:¬ to=p.az:=by simpa using q3
  simp only[Bool.true_eq_false,false_or,if_neg e,hr];have hR:=GP p.az (lO p) (by simp only[lO,zx3];omega);rw[hr] at hR;simp only[E5] at hR;obtain ⟨w,hsl,hfw⟩:∃ w:I,(∀ A,j5 A 4 none (some (.int .i64 p.eI)) (some (.int .i64 p.eI)) (enc p.j)=some w)∧∀ aL A,bj aL A w=some (enc (lO p)) :=
   ⟨_,fun A=>by
    have:=Z5 (A:=A) (l:=p.j) (i:=p.eI.toNat) f2;rw[show ((p.eI.toNat:Nat):Int)=p.eI by omega] at this;exact this,fun aL A=>mz p.j aL A⟩
  have h63:=GQ s2 to;have R:=y6 @q3 (y6 @hsl (y6 @hfw (y6 @eb (y6 @cg (y6 @bm (y6 @bU (y6 @bz (y6 @bu aC))))))))
  repeat' ((first |(with_reducible refine .guard (fun hb =>?_) (fun hb =>?_) <;>try simp only[hb])|refine ae.aE (by decide +kernel) rfl fun K hK =>?_|refine .lead _ (hF) ?_|refine .flat _ (hT) rfl ?_|refine .lead _ (hR) ?_|refine .lead _ (h63) ?_|(refine .av [0,1,2,4,5,6,7,9,10,14,24,40,41,54] hK ?_;clear hK K)|(with_reducible refine .done (hK _ ?_);clear hK K)|refine ae.of rfl ?_|(with_reducible refine ay.aD (fun h =>?_) (fun h =>?_) <;>try simp only[h])) <;>try simp only[aF,R,Option.map_none,simprocAttr])
  all_goals clear R
  have hcap:I.ca [.ref (dB s2),.ref (.int .i64 to)]=true:=by simp[I.ca,I.bx,oz]
  refine ae.sub (bw.Ht 9 80 39 5 5 [] _ rfl rfl rfl (B:=au [(9,.ptr 9 []),(40,.func 107 [.ref (dB s2),.ref (.int .i64 to)])] [(9,.box (.own 80 0)),(80,.bW 39 5 [])]) ?_) ?_
  ·simp only[nd];refine bw.dh ?_ ?_ ?_ ?_ <;>simp[*,cz,c6,cJ,cF,aw,cu,dE,I.only,I.cv,aq.only,oA]
  have hnd:=ZM hk to;refine ae.mh (osb0:=iV []) (tsR:=[(9,.ptr 1000009 [])]) (ρ:=[(1999999,999999),(1000009,9),(1000080,80)])
   (fun k os=>os=iV ((ft s2 to).take k))
   (fun _ _=>False)
   ⟨rfl,rfl⟩ (u8 rfl) (by simp only[bq,simprocAttr]) hcap Af (Gd s2 to (by omega)) (fun _=>rfl) rfl rfl rfl (fun o=>⟨?_,?_⟩) ?_ ?_ ?_ ?_ ?_ ?_ ?_
  ·intro n x hx;simp only[en,iV,aj] at hx
   repeat' split at hx
   all_goals first | (cases hx;done) | (subst_vars;simp only[v6] at hx;subst hx;simp[en,iV,aw,bH,aj,aq.bh,I.bh,I.dp,aq.only,I.only,I.cv,aq.eh])
  ·intro a b ha hb;simp only[en,iV,aw,aj] at ha hb
   repeat' split at ha
   all_goals first | (simp at ha;done) | skip
   all_goals (repeat' split at hb)
   all_goals first | (simp at hb;done) | (subst_vars;simp[bH])
  ·simp[nf,cu,I.bh,bH,I.only,iV,aw,aj]
  ·rintro k os rfl;exact aag ..
  ·rintro e os h;exact h.elim
  ·simp[iV]
  ·rintro k osb hk' rfl W1 D1 E1 qR o1 o2;obtain ⟨r,hr0⟩:∃ r,r=(ft s2 to).getD k tO:=⟨_,rfl⟩
   have hri:(ft s2 to)[k]=r:=by rw[hr0];simp[zz0,hk']
   have hsu:(ft s2 to).take (k+1)=(ft s2 to).take k++[r]:=by rw[zy0 hk',hri]
   have hN2:(ft s2 to).length≤400:=by
    have J:=ZL s2 to;omega
   have hk2:k<400:=Nat.lt_of_lt_of_le hk' hN2;have hlast:∀ j,j+1=k→∃ u,((ft s2 to).take k)[j]?=some u∧u≠r:=fun j hj=>by
    refine ⟨(ft s2 to)[j],by rw[List.getElem?_take_of_lt (by omega),zy3],fun e =>?_⟩;rw[←hri] at e;have:=(List.getElem_inj hnd).1 e;omega
   have hxl:((ft s2 to).take k).length=k:=by rw[zx3];omega
   generalize (ft s2 to).take k=xs at hsu hlast hxl ⊢;simp only[←hr0,tI,en,iV];have hst:∀ A rest b x y z w u,dk A (some 5) 10 [] b (enc r) rest (some (.agg [.int .i64 x,.int .i64 y,.int .i64 z,.int .i64 w,.int .i64 u]))=aB rest (A.aT 10 (.box (enc r))):=fun A rest b x y z w u=>nj.1 A 10 b rest r x y z w u;have R:=y6 @hst (y6 @cg (y6 @bm (y6 @bU (y6 @bz (y6 @bu aC)))))
   repeat' ((first |(with_reducible refine .guard (fun hb =>?_) (fun hb =>?_) <;>try simp only[hb])|refine ae.aE (by decide +kernel) rfl fun K hK =>?_|(refine .av [0,1,2,4,5,6,7,9,10,14,24,40,41,54] hK ?_;clear hK K)|(with_reducible refine .done (hK _ ?_);clear hK K)|refine ae.of rfl ?_|(with_reducible refine ay.aD (fun h =>?_) (fun h =>?_) <;>try simp only[h])) <;>try simp only[aF,R,simprocAttr])
   all_goals clear R
   refine ⟨by simp[],?_⟩;have stOwn:∀ (A:ai) n b m k m' k' rest,dk A none n [] b (.own m k) rest (some (.own m' k'))=aB rest (A.aT n (.box (.own m k))) :=
    fun _ _ _ m k m' k' _=>by rw[dK (s:=none) (v:=.own m k) (old:=.own m' k') rfl rfl rfl,nd]
   have hbs:fg 5 (some [enc r])=some (enc [r]):=iy 5 r rfl;have hap:=fun (A:ai) d rest=>oN (A:=A) (d:=d) 39 5 40 1000080 (l:=xs.length) (es:=xs) (ys:=[r]) (rest:=rest) rfl rfl (by simp) (by simp[maxLen];omega) (by simp;omega);have iw:∀ ts z1 z2 z3 z4 z5,Fs o2 (fun os=>os=[(1000009,.box (.own 1000080 ((ft s2 to).take (k+1)).length)),(1000080,.bW 39 5 (((ft s2 to).take (k+1)).map enc))]) (fun _ _=>False) .normal
     (au ts [(1000009,.box (.own 1000080 (xs++[r]).length)),(1000080,.bW 39 5 ((xs++[r]).map enc)),(1999999,.dF o2),(10,z1),(10,z2),(1999999,z3),(1000009,z4),(1000080,z5)]):=fun ts z1 z2 z3 z4 z5=>by
    refine ⟨_,?_,rfl⟩;rw[hsu];intro n x hx;simp only[en,aj] at hx
    (repeat' split at hx) <;>first
     |(cases hx;done)
     |(subst_vars;simp only[v6] at hx;subst hx;simp[en,aw,au,aj,aq.only,I.only,aq.eh,fR,-List.map_append])
   have hle:=fun (A:ai) (h:A.o 1000080=some (.bW 39 5 (xs.map enc)))=>XE A 1000080 xs.length 39 5 xs h rfl;by_cases aY:k=0
   ·have hz:((xs.length:Int)==0)=true:=by rw[beq_iff_eq];omega
    have R:=y6 @hle (y6 @hz (y6 @hbs (y6 @hap (y6 @stOwn (y6 @cg (y6 @bm (y6 @bU (y6 @bz (y6 @bu aC)))))))))
    repeat' ((first |(with_reducible refine .guard (fun hb =>?_) (fun hb =>?_) <;>try simp only[hb])|refine ae.aE (by decide +kernel) rfl fun K hK =>?_|(refine .av [0,1,2,4,5,6,7,9,10,14,24,40,41,54] hK ?_;clear hK K)|(with_reducible refine .done (hK _ ?_);clear hK K)|refine ae.of rfl ?_|(with_reducible refine ay.aD (fun h =>?_) (fun h =>?_) <;>try simp only[h])) <;>try simp only[aF,R,simprocAttr])
    all_goals clear R
    exact iw _ _ _ _ _ _
   ·have hz:((xs.length:Int)==0)=false:=by rw[beq_eq_false_iff_ne];omega
    obtain ⟨u,hu,hne⟩:=hlast (k-1) (by omega);have hw1:IntKind.i64.wrap ((xs.length:Int)-1)=((k-1:Nat):Int):=by rw[mB _ (by omega) (by omega)];omega
    have hq:=A8 u r;rw[decide_eq_false hne] at hq;have hie:=fun (A:ai) (h:A.o 1000080=some (.bW 39 5 (xs.map enc)))=>(by
     have hu2:(xs.map (enc (α:=ea)))[k-1]?=some (enc u):=by rw[zy9,hu];rfl
     have hc:xs.length=(xs.map (enc (α:=ea))).length∧True∧(0:Int)≤((k-1:Nat):Int)∧((k-1:Nat):Int)<((xs.map (enc (α:=ea))).length:Nat):=⟨by simp,trivial,by omega,by simp;omega⟩
     simp only[jS,h];rw[if_pos hc,Int.toNat_natCast,hu2];rfl:jS A 5 ((k-1:Nat):Int) (.own 1000080 xs.length)=some (.ref (enc u)))
    have R:=y6 @hle (y6 @hz (y6 @hw1 (y6 @hie (y6 @hq (y6 @hbs (y6 @hap (y6 @stOwn (y6 @cg (y6 @bm (y6 @bU (y6 @bz (y6 @bu aC))))))))))))
    repeat' ((first |(with_reducible refine .guard (fun hb =>?_) (fun hb =>?_) <;>try simp only[hb])|refine ae.aE (by decide +kernel) rfl fun K hK =>?_|(refine .av [0,1,2,4,5,6,7,9,10,14,24,40,41,54] hK ?_;clear hK K)|(with_reducible refine .done (hK _ ?_);clear hK K)|refine ae.of rfl ?_|(with_reducible refine ay.aD (fun h =>?_) (fun h =>?_) <;>try simp only[h])) <;>try simp only[aF,R,simprocAttr])
    all_goals clear R
    all_goals exact iw _ _ _ _ _ _
  ·rintro os rfl;rw[zv0];simp only[iV,dn,zz3,zx4,bH,aq.bh,I.bh,pP,dY,jc,reduceIte,Nat.reduceEqDiff,zz5,zv3];have hfo:ki (ft s2 to).length (some (.bW 39 5 ((ft s2 to).map enc)))=some (enc (ft s2 to)):=o7 5 rfl rfl;have R:=y6 @hfo (y6 @cg (y6 @bm (y6 @bU (y6 @bz (y6 @bu aC)))))
   repeat' ((first |(with_reducible refine .guard (fun hb =>?_) (fun hb =>?_) <;>try simp only[hb])|refine ae.aE (by decide +kernel) rfl fun K hK =>?_|(refine .av [0,1,2,4,5,6,7,9,10,14,24,40,41,54] hK ?_;clear hK K)|(with_reducible refine .done (hK _ ?_);clear hK K)|refine ae.of rfl ?_|(with_reducible refine ay.aD (fun h =>?_) (fun h =>?_) <;>try simp only[h])) <;>try simp only[aF,R,simprocAttr])
   all_goals clear R
  ·rintro e os h;exact h.elim
def vx:bA:=⟨0,[],0⟩
def vy:bA:=⟨0,[⟨1,7,0,0⟩],0⟩
def vz:bA:=⟨0,[⟨1,7,0,0⟩],1⟩
def nG:bA:=⟨0,[⟨1,7,0,0⟩,⟨3,7,1,1⟩],1⟩
def nH:bA:=⟨0,[⟨1,7,0,0⟩,⟨3,7,1,1⟩],2⟩
def vA:bA:=⟨0,[⟨1,7,0,0⟩,⟨3,7,1,1⟩,⟨5,7,1,1⟩],2⟩
def vB:bA:=⟨1,[],0⟩
def qo:bA:=⟨1,[⟨7,7,0,1⟩],0⟩
def vC:bA:=⟨1,[⟨7,7,0,1⟩],1⟩
def oZ:ea:=⟨1,0,1,7,1⟩
def o5:ea:=⟨2,1,0,7,1⟩
def vD:ff:=⟨⟨#[112,111,117,110,100,32,48,32,49,10,112,111,117,110,100,32,55,10,115,101,110,100,32,55,32,49,32,49,10]⟩⟩
theorem Nd:ri 0=(vx,0):=by decide +kernel
theorem Nq:ri 1=(vB,0):=by decide +kernel
theorem Ng:s9 vx 7=(vy,0):=by decide +kernel
theorem Nh:pW vy=(vz,0):=by decide +kernel
theorem Ni:rO vz 7 1=(nG,⟨1,1,7,false⟩,0):=by decide +kernel
theorem Nj:pL nG 1=([],0):=by decide +kernel
theorem Nk:tH nG=(vD,0):=by decide +kernel
theorem Nl:pW nG=(nH,0):=by decide +kernel
theorem Nn:pL nH 1=([oZ],0):=by decide +kernel
theorem Nr:qD vB oZ=(qo,0):=by decide +kernel
theorem Nu:uk [nH,qo] 7=([1],0):=by decide +kernel
theorem Ns:pW qo=(vC,0):=by decide +kernel
theorem Nt:pL vC 0=([o5],0):=by decide +kernel
theorem Np:qD nH o5=(vA,0):=by decide +kernel
theorem Nf:oo vA=([],0):=by decide +kernel
theorem Il(a b c d:Int):(dO [.int .i64 0,.int .i64 0,.int .i64 0,.int .i64 0,.int .i64 0] [(0,.int .i64 a),(2,.int .i64 b),(3,.int .i64 c),(4,.int .i64 d)]).map I.agg=some (enc (⟨a,0,b,c,d⟩:ea)):=by simp[dO,I.bS,I.size];rfl
theorem Im(a b c d:Int):(dO [.int .i64 0,.int .i64 0,.int .i64 0,.int .i64 0,.int .i64 0] [(0,.int .i64 a),(1,.int .i64 b),(3,.int .i64 c),(4,.int .i64 d)]).map I.agg=some (enc (⟨a,b,0,c,d⟩:ea)):=by simp[dO,I.bS,I.size];rfl
theorem Is(r:ea):fg 5 (some [enc r])=some (enc [r]):=iy 5 r rfl
theorem Iw(a b:bA):fg 3 (some [enc a,enc b])=some (enc [a,b]):=qg (ys:=[a,b]) 3 rfl
theorem M7(s:ff)(b:ByteArray)(h:s.b=b):cE .eql (enc s) (.bQ b)=some (.bool true):=by
 subst h
 show cE .eql (.bQ s.b) (.bQ s.b)=_
 simp[cE]
theorem Gw:aZ Tryz.prog 18 [] (enc true):=by
 have J:=ye 0;have U:=ye 1;have ah:=Gy vx 7;have ar:=uv vy;have h5:=Gz vz 7 1;have h6:=ux nG 1;have h7:=GK nG;have h8:=uv nG;have h9:=ux nH 1;have h10:=yf vB oZ;have h11:=GA [nH,qo] 7;have h12:=uv qo;have h13:=ux vC 0;have h14:=yf nH o5;have h15:=yh vA;rw[Nd] at J;rw[Nq] at U;rw[Ng] at ah;rw[Nh] at ar;rw[Ni] at h5;rw[Nj] at h6;rw[Nk] at h7;rw[Nl] at h8;rw[Nn] at h9;rw[Nr] at h10;rw[Nu] at h11;rw[Ns] at h12;rw[Nt] at h13;rw[Np] at h14;rw[Nf] at h15;simp only at J U ah ar h5 h6 h7 h8 h9 h10 h11 h12 h13 h14 h15;have h16:=yd [oZ] [oZ];have h17:=yd [o5] [o5];have h18:=yg [1] [1];rw[decide_eq_true rfl] at h16 h17 h18;refine aZ.b5 Tryz.func18 IN JT Le (u8 rfl) (fun hwf W0 bG E1 =>?_);simp only[zj,Ea,bI];clear hwf;have q3:((0:Int)==0)=true:=rfl;have hst:∀ A n b rest x y z w (q:cZ),dk A (some 4) n [] b (enc q) rest (some (.agg [.int .i64 x,.int .i64 y,.int .i64 z,.bool w]))=aB rest (A.aT n (.box (enc q))):=fun A n b rest x y z w q=>nk.1 A n b rest q x y z w;have hst2:∀ A n b rest (q:ea) x y z w u,dk A (some 5) n [] b (enc q) rest (some (.agg [.int .i64 x,.int .i64 y,.int .i64 z,.int .i64 w,.int .i64 u]))=aB rest (A.aT n (.box (enc q))):=fun A n b rest q x y z w u=>nj.1 A n b rest q x y z w u;have eO:(⟨1,0,1,7,1⟩:ea)=oZ:=rfl;have eR:(⟨2,1,0,7,1⟩:ea)=o5:=rfl;have hR:=A9 ⟨1,1,7,false⟩ ⟨1,1,7,false⟩;rw[decide_eq_true rfl] at hR;have hS:cE .eql (enc vD) (.bQ ⟨#[112,111,117,110,100,32,48,32,49,10,112,111,117,110,100,32,55,10,115,101,110,100,32,55,32,49,32,49,10]⟩)=some (.bool true):=M7 vD _ rfl;have hL:∀ α:Type,((([]:List α).length:Nat):Int)=0:=fun _=>rfl;have R:=y6 @q3 (y6 @hL (y6 @hst (y6 @hst2 (y6 @Il (y6 @Im (y6 @eO (y6 @eR (y6 @sD (y6 @Is (y6 @Iw (y6 @yX (y6 @hR (y6 @hS (y6 @cg (y6 @bm (y6 @bU (y6 @bz (y6 @bu aC))))))))))))))))))
 repeat' ((first |(with_reducible refine .guard (fun hb =>?_) (fun hb =>?_) <;>try simp only[hb])|refine ae.aE (by decide +kernel) rfl fun K hK =>?_|refine .lead _ (J) ?_|refine .lead _ (U) ?_|refine .lead _ (ah) ?_|refine .lead _ (ar) ?_|refine .lead _ (h5) ?_|refine .lead _ (h6) ?_|refine .lead _ (h7) ?_|refine .lead _ (h8) ?_|refine .lead _ (h9) ?_|refine .lead _ (h10) ?_|refine .lead _ (h11) ?_|refine .lead _ (h12) ?_|refine .lead _ (h13) ?_|refine .lead _ (h14) ?_|refine .lead _ (h15) ?_|refine .flat _ (h16) rfl ?_|refine .flat _ (h17) rfl ?_|refine .flat _ (h18) rfl ?_|(refine .av [0,1,2,3,4,5,6,7,8,9,10,11,12,13,14,15,16,17,18,19,20,21,22,23,24,25,26] hK ?_;clear hK K)|(with_reducible refine .done (hK _ ?_);clear hK K)|refine ae.of rfl ?_|(with_reducible refine ay.aD (fun h =>?_) (fun h =>?_) <;>try simp only[h])) <;>try simp only[aF,R,simprocAttr])
 all_goals clear R
structure r5 where
 aH:Int
 to:Int
 no:Int
 deriving DecidableEq,Inhabited
instance:Enc r5 where
 enc g:=.agg [.int .i64 g.aH,.int .i64 g.to,.int .i64 g.no]
 sz:=3
 aX:=.eE [.one,.one,.one]
 gI:=true
 done g:=by simp only[I.done,I.fZ,Bool.and_self]
 size g:=by simp only[I.size,I.sizes]
 iq g:=by simp only[I.aX,I.cQ]
 agg _:=rfl
theorem aau:(∀ g:r5,(enc g).dH=some [.int .i64 g.aH,.int .i64 g.to,.int .i64 g.no])∧(∀ (a b c:Int) v,db [.int .i64 a,.int .i64 b,.int .i64 c] 0 0 v=some v)∧(∀ (a b c:Int) v,db [.int .i64 a,.int .i64 b,.int .i64 c] 1 1 v=some v)∧(∀ (a b c:Int) v,db [.int .i64 a,.int .i64 b,.int .i64 c] 2 2 v=some v) :=
 ⟨fun _=>rfl,fun _ _ _ _=>rfl,fun _ _ _ _=>rfl,fun _ _ _ _=>rfl⟩
end Go.Proofs.YthbdbocionnfgaaGreatDoor
namespace Go.Proofs.YthbdbocionnfgaaGreatDoor
open Go Go.Abs Go.ChangeShapes Go.WideShapes Go.RowKit
open Go.Abs.Enc (enc)
theorem X7:iZ Tryz.prog 46 r5:=⟨by kernel_rfl,by decide,fun h=>by
 obtain ⟨a,b,c,hab⟩:=Dj (α:=Int) (β:=Int) (γ:=Int) (u0:=3) (u1:=3) (u2:=3) (by kernel_rfl) lZ lZ lZ (by kernel_rfl) h;exact ⟨⟨a,b,c⟩,hab⟩⟩
theorem ZV{w:World}{D:aP}{E:a8}{x y:I}{a b:Value}(hx:∃ cs,bE x a cs∧al w D E x cs)(hy:∃ cs,bE y b cs∧al w D E y cs):aJ w D E [x,y] [a,b]:=by
 obtain ⟨c1,J,U⟩:=hx;obtain ⟨c2,ah,ar⟩:=hy;simp only[aJ];exact ⟨a,[b],c1,rfl,J,U,b,[],c2,rfl,ah,ar,rfl⟩
end Go.Proofs.YthbdbocionnfgaaGreatDoor
namespace Go.Proofs.YthbdbocionnfgaaGreatDoor
open Go Go.Abs
open Go.Abs.Enc (enc)
theorem aab{l:List Int}(h:l.Pairwise (· < ·)):cj l=l :=
 List.mergeSort_of_pairwise (h.imp fun hab=>decide_eq_true (Int.le_of_lt hab))
theorem dU.bB{s:aG}{t:cm}(h:dU s t):cj s.bB=s.bB :=
 aab (by
  simp only[aG.bB,List.pairwise_map];exact h.cB.imp fun hab=>by omega)
def lR(p:bA):List Int×Int:=if ez p=0 then ((hZ p).here,0) else ([],91)
def mi(p:bA):List cZ×Int:=if ez p=0 then ((hZ p).bD,0) else ([],91)
theorem Xd(p:bA):pj p=lR p:=by
 rcases both p with ⟨ho,hc⟩ | ⟨s,ho,hc,hr,ab,ao⟩
 ·simp only[pj,ho,lR,hc];rfl
 ·simp only[pj,ho,lR,hc,if_true];have hp:(cj s.here).Perm (hZ p).here:=by
   refine (List.mergeSort_perm _ _).trans ?_;have hn:(hZ p).here.Nodup:=hr.ni.imp fun h=>Int.ne_of_lt h;exact (List.perm_ext_iff_of_nodup hr.ok.af hn).2 fun b=>(hr.here b).symm
  have J:(cj s.here).Pairwise fun x y=>x≤y:=(List.pairwise_mergeSort (fun _ _ _ J U=>by simp only[decide_eq_true_eq] at *;omega) (fun _ _=>by simp only[Bool.or_eq_true,decide_eq_true_eq];omega) _).imp fun h=>of_decide_eq_true h;rw[List.Perm.eq_of_pairwise (fun a b _ _ h k=>Int.le_antisymm h k) J (hr.ni.imp fun h=>Int.le_of_lt h) hp]
theorem ZQ(p:bA):oo p=mi p:=by
 rcases both p with ⟨ho,hc⟩ | ⟨s,ho,hc,hr,ab,ao⟩
 ·simp only[oo,ho,mi,hc];rfl
 ·simp only[oo,ho,mi,hc,if_true,mj];rw[hr.bB,hr.bD];simp only[aG.bD,aG.bB,List.map_map];refine Prod.ext (List.map_congr_left fun i _ =>?_) rfl
  show s.b9 (((i:Int)+1).toNat-1)=s.b9 i
  congr 1
theorem qQ(p:bA)(bR no:Int):jA p bR no=if ez p=0 then (if cT 0 5 bR=false∨bR=p.az then (0,90) else if cT 1 200 no=false then (0,94) else (gW (hZ p) bR no,0)) else (0,91):=by
 rcases both p with ⟨ho,hc⟩ | ⟨s,ho,hc,hr,ab,ao⟩
 ·simp only[jA,ho,hc];rfl
 ·simp only[jA,ho,hc,if_true];have:qP s ⟨bR,no⟩=gW (hZ p) bR no:=by
   simp only[qP,gW,hr.bo];generalize s.bo=l
   induction l with
   |nil=>rfl
   |cons x l ih =>
    simp only[zz3,List.find?_cons];by_cases e:eL x=⟨bR,no⟩
    ·have e2:(mu x).bR=bR∧(mu x).no=no:=⟨congrArg jr.bR e,congrArg jr.no e⟩
     rw[decide_eq_true e,decide_eq_true e2];rfl
    ·have e2:¬ ((mu x).bR=bR∧(mu x).no=no):=fun h=>e (by
      show (⟨x.other,x.no⟩:jr)=⟨bR,no⟩
      rw[show x.other=bR from h.1,show x.no=no from h.2])
     rw[decide_eq_false e,decide_eq_false e2];exact ih
  rw[this]
theorem GD(p:bA):aZ Tryz.prog 45 [enc p] (.tuple [enc (lR p).1,enc (lR p).2]):=by
 refine aZ.b5 Tryz.func45 I1 J5 Lq (u8 rfl) (fun hwf W0 bG E1 =>?_);simp only[zx,En,bI];clear hwf;have hF1:=sc p;by_cases hc:ez p=0
 rotate_left
 ·have J:ez p=91:=by simp only[ez] at hc ⊢;split <;>simp_all
  rw[J] at hF1;rw[show lR p=([],91) by simp only[lR,if_neg hc]];have R:=y6 @cg (y6 @bm aC)
  repeat' ((first |refine ae.aE (by decide +kernel) rfl fun K hK =>?_|refine .flat _ (hF1) rfl ?_|(refine .av [0,1,2,3,4,8] hK ?_;clear hK K)|(with_reducible refine .done (hK _ ?_);clear hK K)|refine ae.of rfl ?_|(with_reducible refine ay.aD (fun h =>?_) (fun h =>?_) <;>try simp only[h])) <;>try simp only[aF,R,simprocAttr])
  all_goals clear R
  all_goals rfl
 rw[hc] at hF1;rw[show lR p=((hZ p).here,0) by simp only[lR,if_pos hc]];have hF2:=uA p (nC hc).2.1;have R:=y6 @By (y6 @cG (y6 @cg (y6 @bm aC)))
 repeat' ((first |refine ae.aE (by decide +kernel) rfl fun K hK =>?_|refine .flat _ (hF1) rfl ?_|refine .lead _ (hF2) ?_|(refine .av [0,1,2,3,4,8] hK ?_;clear hK K)|(with_reducible refine .done (hK _ ?_);clear hK K)|refine ae.of rfl ?_|(with_reducible refine ay.aD (fun h =>?_) (fun h =>?_) <;>try simp only[h])) <;>try simp only[aF,R,simprocAttr])
 all_goals clear R
theorem GF(p:bA):aZ Tryz.prog 47 [enc p] (.tuple [enc (mi p).1,enc (mi p).2]):=by
 refine aZ.b5 Tryz.func47 I3 J7 Ls (u8 rfl) (fun hwf W0 bG E1 =>?_);simp only[zA,Ep,bI];clear hwf;have hF1:=sc p;by_cases hc:ez p=0
 rotate_left
 ·have J:ez p=91:=by simp only[ez] at hc ⊢;split <;>simp_all
  rw[J] at hF1;rw[show mi p=([],91) by simp only[mi,if_neg hc]];have R:=y6 @cg (y6 @bm aC)
  repeat' ((first |refine ae.aE (by decide +kernel) rfl fun K hK =>?_|refine .flat _ (hF1) rfl ?_|(refine .av [0,1,2,3,4,8] hK ?_;clear hK K)|(with_reducible refine .done (hK _ ?_);clear hK K)|refine ae.of rfl ?_|(with_reducible refine ay.aD (fun h =>?_) (fun h =>?_) <;>try simp only[h])) <;>try simp only[aF,R,simprocAttr])
  all_goals clear R
  all_goals rfl
 rw[hc] at hF1;rw[show mi p=((hZ p).bD,0) by simp only[mi,if_pos hc]];have hF2:=uA p (nC hc).2.1;have R:=y6 @By (y6 @cG (y6 @cg (y6 @bm aC)))
 repeat' ((first |refine ae.aE (by decide +kernel) rfl fun K hK =>?_|refine .flat _ (hF1) rfl ?_|refine .lead _ (hF2) ?_|(refine .av [0,1,2,3,4,8] hK ?_;clear hK K)|(with_reducible refine .done (hK _ ?_);clear hK K)|refine ae.of rfl ?_|(with_reducible refine ay.aD (fun h =>?_) (fun h =>?_) <;>try simp only[h])) <;>try simp only[aF,R,simprocAttr])
 all_goals clear R
theorem GH(p:bA)(bR no:Int):aZ Tryz.prog 49 [enc p,enc bR,enc no] (.tuple [enc (jA p bR no).1,enc (jA p bR no).2]):=by
 refine aZ.b5 Tryz.func49 I5 J9 Lu (u8 rfl) (fun hwf W0 bG E1 =>?_);simp only[zC,Es,bI,zz1,Nat.reduceAdd];clear hwf;have hF1:=sc p;by_cases hc:ez p=0
 rotate_left
 ·have J:ez p=91:=by simp only[ez] at hc ⊢;split <;>simp_all
  rw[J] at hF1;rw[show jA p bR no=(0,91) by rw[qQ,if_neg hc]];have R:=y6 @cg (y6 @bm aC)
  repeat' ((first |(with_reducible refine .guard (fun hb =>?_) (fun hb =>?_) <;>try simp only[hb])|refine ae.aE (by decide +kernel) rfl fun K hK =>?_|refine .flat _ (hF1) rfl ?_|(refine .av [0,1,2,3,6,7,8,12,22,25] hK ?_;clear hK K)|(with_reducible refine .done (hK _ ?_);clear hK K)|refine ae.of rfl ?_|(with_reducible refine ay.aD (fun h =>?_) (fun h =>?_) <;>try simp only[h])) <;>try simp only[aF,R,simprocAttr])
  all_goals clear R
 rw[hc] at hF1;have hT:=uy bR;have hN:=p7 no 1 200;rcases q2:cT 0 5 bR
 ·rw[q2] at hT;rw[show jA p bR no=(0,90) by rw[qQ,if_pos hc,if_pos (Or.inl q2)]];have R:=y6 @cg (y6 @bm aC)
  repeat' ((first |(with_reducible refine .guard (fun hb =>?_) (fun hb =>?_) <;>try simp only[hb])|refine ae.aE (by decide +kernel) rfl fun K hK =>?_|refine .flat _ (hF1) rfl ?_|refine .flat _ (hT) rfl ?_|(refine .av [0,1,2,3,6,7,8,12,22,25] hK ?_;clear hK K)|(with_reducible refine .done (hK _ ?_);clear hK K)|refine ae.of rfl ?_|(with_reducible refine ay.aD (fun h =>?_) (fun h =>?_) <;>try simp only[h])) <;>try simp only[aF,R,simprocAttr])
  all_goals clear R
 rw[q2] at hT;rcases q3:(bR==p.az)
 case true =>
  have e:bR=p.az:=by simpa using q3
  rw[show jA p bR no=(0,90) by rw[qQ,if_pos hc,if_pos (Or.inr e)]];have R:=y6 @q3 (y6 @cg (y6 @bm aC))
  repeat' ((first |(with_reducible refine .guard (fun hb =>?_) (fun hb =>?_) <;>try simp only[hb])|refine ae.aE (by decide +kernel) rfl fun K hK =>?_|refine .flat _ (hF1) rfl ?_|refine .flat _ (hT) rfl ?_|(refine .av [0,1,2,3,6,7,8,12,22,25] hK ?_;clear hK K)|(with_reducible refine .done (hK _ ?_);clear hK K)|refine ae.of rfl ?_|(with_reducible refine ay.aD (fun h =>?_) (fun h =>?_) <;>try simp only[h])) <;>try simp only[aF,R,simprocAttr])
  all_goals clear R
 have e:¬ bR=p.az:=by simpa using q3
 have e2:¬ (cT 0 5 bR=false∨bR=p.az):=fun h=>h.elim (fun h=>by rw[q2] at h;cases h) e;rcases q4:cT 1 200 no
 ·rw[q4] at hN;rw[show jA p bR no=(0,94) by rw[qQ,if_pos hc,if_neg e2,if_pos q4]];have R:=y6 @q3 (y6 @cg (y6 @bm aC))
  repeat' ((first |(with_reducible refine .guard (fun hb =>?_) (fun hb =>?_) <;>try simp only[hb])|refine ae.aE (by decide +kernel) rfl fun K hK =>?_|refine .flat _ (hF1) rfl ?_|refine .flat _ (hT) rfl ?_|refine .flat _ (hN) rfl ?_|(refine .av [0,1,2,3,6,7,8,12,22,25] hK ?_;clear hK K)|(with_reducible refine .done (hK _ ?_);clear hK K)|refine ae.of rfl ?_|(with_reducible refine ay.aD (fun h =>?_) (fun h =>?_) <;>try simp only[h])) <;>try simp only[aF,R,simprocAttr])
  all_goals clear R
 rw[q4] at hN;rw[show jA p bR no=(gW (hZ p) bR no,0) by rw[qQ,if_pos hc,if_neg e2,if_neg (by rw[q4];decide)]];have hF2:=uA p (nC hc).2.1;have hF3:=uB (hZ p) bR no (C3 hc).1.ab;have R:=y6 @q3 (y6 @cg (y6 @bm aC))
 repeat' ((first |(with_reducible refine .guard (fun hb =>?_) (fun hb =>?_) <;>try simp only[hb])|refine ae.aE (by decide +kernel) rfl fun K hK =>?_|refine .flat _ (hF1) rfl ?_|refine .flat _ (hT) rfl ?_|refine .flat _ (hN) rfl ?_|refine .lead _ (hF2) ?_|refine .flat _ (hF3) rfl ?_|(refine .av [0,1,2,3,6,7,8,12,22,25] hK ?_;clear hK K)|(with_reducible refine .done (hK _ ?_);clear hK K)|refine ae.of rfl ?_|(with_reducible refine ay.aD (fun h =>?_) (fun h =>?_) <;>try simp only[h])) <;>try simp only[aF,R,simprocAttr])
 all_goals clear R
def jo(p:bA)(b:Int):List aU×Int:=if h4 p b=0 then (p.j.filter fun x=>x.aH==b,0) else ([],h4 p b)
def uI(p:bA)(b:Int)(t:Nat×List aU):ai:=au [(1,.int .i64 b),(2,.ptr 2 []),(5,.int .i64 0),(7,.own 905 t.2.length),(17,enc p.j),(18,.int .i64 p.j.length),(19,.int .i64 t.1)] [(905,.bW 37 4 (t.2.map enc)),(2,.box (enc p))]
theorem Nz{xs:List aU} : ki xs.length (some (.bW 37 4 (xs.map enc)))=some (enc xs):=o7 4 rfl rfl
theorem GJ(p:bA)(b:Int):aZ Tryz.prog 51 [enc p,enc b] (.tuple [enc (jo p b).1,enc (jo p b).2]):=by
 refine aZ.b5 Tryz.func51 I7 Kb Lw (u8 rfl) (fun hwf W0 bG E1 =>?_);simp only[zE,Eu,bI,zz1];clear hwf;have hF1:=GU p b;by_cases hc:h4 p b=0
 rotate_left
 ·have hq:(h4 p b != 0)=true:=by simpa using hc
  rw[show jo p b=([],h4 p b) by simp only[jo,if_neg hc]];have R:=y6 @hq (y6 @cg (y6 @bm aC))
  repeat' ((first |refine ae.aE (by decide +kernel) rfl fun K hK =>?_|refine .flat _ (hF1) rfl ?_|(refine .av [0,1,2,4,5,6,7,9,14,17,18,19,20,26] hK ?_;clear hK K)|(with_reducible refine .done (hK _ ?_);clear hK K)|refine ae.of rfl ?_|(with_reducible refine ay.aD (fun h =>?_) (fun h =>?_) <;>try simp only[h])) <;>try simp only[aF,R,simprocAttr])
  all_goals clear R
  all_goals rfl
 rw[show jo p b=(p.j.filter fun x=>x.aH==b,0) by simp only[jo,if_pos hc]];have ao:p.j.length≤200:=by
  have:ez p=0:=by
   simp only[h4] at hc;split at hc
   ·assumption
   ·cases hc
  exact (nC this).2.1
 rw[hc] at hF1;have R:=y6 @cg (y6 @bm aC)
 repeat' ((first |refine ae.aE (by decide +kernel) rfl fun K hK =>?_|refine .flat _ (hF1) rfl ?_|(refine .av [0,1,2,4,5,6,7,9,14,17,18,19,20,26] hK ?_;clear hK K)|(with_reducible refine .done (hK _ ?_);clear hK K)|refine ae.of rfl ?_|(with_reducible refine ay.aD (fun h =>?_) (fun h =>?_) <;>try simp only[h])) <;>try simp only[aF,R,simprocAttr])
 all_goals clear R
 have hbs:∀ y:aU,fg 4 (some [enc y])=some (enc [y]):=fun y=>iy 4 y rfl;refine ae.loop (uI p b) (fun t=>t.1≤p.j.length∧t.2=(p.j.take t.1).filter (fun x=>x.aH==b)∧t.2.length≤t.1) (fun t=>p.j.length-t.1) (0,[]) ⟨zw2 _,rfl,zz4 _⟩ ?_ ?_
 ·refine bw.p9 7 905 37 4 4 rfl rfl ?_;simp only[uI];refine bw.dh ?_ ?_ ?_ ?_ <;>simp[cz,c6,cJ,cF,aw,cu,dE,I.only,I.cv,aq.only,cA]
 rintro ⟨i,xs⟩ ⟨hi,hxs,hxl⟩;simp only at hi hxs hxl;simp only[uI];by_cases hlt:i<p.j.length
 ·have hlc:=ga hlt;have he:=fun A=>eM (A:=A) 4 hlt rfl;have hw:=fJ (i:=i) (by omega);have hsn:(p.j.take (i+1)).filter (fun x=>x.aH==b)=xs++if p.j[i].aH==b then [p.j[i]] else []:=by
   rw[zy0 hlt,List.filter_append,hxs,zw0,List.filter_nil]
  obtain ⟨x,hx⟩:∃ x,x=p.j[i]:=⟨_,rfl⟩
  rw[←hx] at he hsn;have hap:=fun (A:ai) d rest y=>oN (A:=A) (d:=d) 37 4 32 905 (l:=xs.length) (es:=xs) (ys:=[y]) (rest:=rest) rfl rfl (by simp) (by simp[maxLen];omega) (by simp;omega);rcases q:(x.aH==b)
  ·rw[q,if_neg (by decide),zv2] at hsn;have R:=y6 @hlc (y6 @he (y6 @hw (y6 @q (y6 @tY (y6 @cg (y6 @bm aC))))))
   repeat' ((first |refine ae.aE (by decide +kernel) rfl fun K hK =>?_|(refine .av [0,1,2,4,5,6,7,9,14,17,18,19,20,26] hK ?_;clear hK K)|(with_reducible refine .done (hK _ ?_);clear hK K)|refine ae.of rfl ?_|(with_reducible refine ay.aD (fun h =>?_) (fun h =>?_) <;>try simp only[h])) <;>try simp only[aF,R,simprocAttr])
   all_goals clear R
   refine ⟨(i+1,xs),⟨by simp only;omega,hsn.symm,by simp only;omega⟩,by simp only;omega,?_⟩;simp only[];clear hxs hsn hx;refine bw.dh ?_ ?_ ?_ ?_ <;>simp[cz,c6,cJ,cF,aw,cu,dE,I.only,aq.only,fR,cA]
  ·rw[q,if_pos rfl] at hsn;have R:=y6 @hlc (y6 @he (y6 @hw (y6 @q (y6 @hbs (y6 @hap (y6 @tY (y6 @cg (y6 @bm aC))))))))
   repeat' ((first |refine ae.aE (by decide +kernel) rfl fun K hK =>?_|(refine .av [0,1,2,4,5,6,7,9,14,17,18,19,20,26] hK ?_;clear hK K)|(with_reducible refine .done (hK _ ?_);clear hK K)|refine ae.of rfl ?_|(with_reducible refine ay.aD (fun h =>?_) (fun h =>?_) <;>try simp only[h])) <;>try simp only[aF,R,simprocAttr])
   all_goals clear R
   refine ⟨(i+1,xs++[x]),⟨by simp only;omega,hsn.symm,by simp only[zz7,List.length_singleton];omega⟩,by simp only;omega,?_⟩;simp only[];clear hxs hsn hx;refine bw.dh ?_ ?_ ?_ ?_ <;>simp[cz,c6,cJ,cF,aw,cu,dE,I.only,I.cv,aq.only,fR,nZ,cA]
 ·have hlc:=gp hlt;have hge:i=p.j.length:=by omega
  rw[show (p.j.filter fun x=>x.aH==b)=xs by rw[hxs,hge,zv0]];have R:=y6 @hlc (y6 @Nz (y6 @cg (y6 @bm aC)))
  repeat' ((first |refine ae.aE (by decide +kernel) rfl fun K hK =>?_|(refine .av [0,1,2,4,5,6,7,9,14,17,18,19,20,26] hK ?_;clear hK K)|(with_reducible refine .done (hK _ ?_);clear hK K)|refine ae.of rfl ?_|(with_reducible refine ay.aD (fun h =>?_) (fun h =>?_) <;>try simp only[h])) <;>try simp only[aF,R,simprocAttr])
  all_goals clear R
end Go.Proofs.YthbdbocionnfgaaGreatDoor
