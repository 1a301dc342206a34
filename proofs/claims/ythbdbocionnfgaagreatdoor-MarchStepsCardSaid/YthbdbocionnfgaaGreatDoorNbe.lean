/-
  A part of the proof that the law MarchSteps returns true for every input; three tables of Go's library start as the text lays them (the card ties them); conditions: none beyond the statement's own. (part 5 of 6)
-/
import Derived.Shelf.Sort.Plain
import Derived.Shelf.Slices.In.SortNone
import Derived.Shelf.Strconv.Itoa3
import Derived.Lib.ItoaLen
import Derived.Test.YthbdbocionnfgaaGreatDoorNbd
set_option linter.unusedSimpArgs false
set_option linter.unusedVariables false
set_option maxHeartbeats 16000000
set_option maxRecDepth 100000
namespace Go.Proofs.YthbdbocionnfgaaGreatDoor
open Go Go.Abs
open Go.Abs.Enc (enc)
theorem Fu{ts:List (Nat×I)}{os0:List (Nat×aq)}{s:aG}(hno:∀ m,2000≤m→aj os0 m=none):au ts (dn s++os0)=au ts (os0++dn s):=by
 simp only[au,ai.mk.injEq,true_and]
 funext n
 rw[fF,fF];cases J:aj (dn s) n with
 |none=>simp only;cases aj os0 n <;>rfl
 |some y=>rw[hno n (xF (s:=s) (by simp[az,J])).1]
theorem aS.YA{K:ai→Prop}{p:bx}{avs:List I}{a1 a2:Option (List I)}{dst:Option Nat}{rest:List aH}{ts:List (Nat×I)}{os0:List (Nat×aq)}(ho:da p=none)(hav:avs=[enc p])
  (h:aS Tryz.prog dq false K (aB rest ((au ts os0).aU dst (.tuple [.nilp,.int .i64 91])))):aS Tryz.prog dq false K (.call 69 avs a1 a2 dst rest (au ts os0)):=by
 subst hav;refine .bQ false [] [] [enc p] _ rfl (xZ p) ⟨fun m x hx=>by simp[aj] at hx,fun m m' hm=>by simp[az,aj] at hm⟩ ⟨.inl ⟨(kS _ _).symm,cJ _ _,er _⟩,trivial⟩ ?_ ?_
 ·intro r os' hp;unfold mR at hp;rw[ho] at hp;obtain ⟨rfl,rfl⟩:=hp;exact ⟨fun m y hy=>by simp[aj] at hy,fun m m' hm=>by simp[az,aj] at hm,fun m hm=>hm,fun m hm=>by simp[az,aj] at hm,rfl,fun h=>by cases h⟩
 ·intro r os' hp;unfold mR at hp;rw[ho] at hp;obtain ⟨rfl,rfl⟩:=hp;exact h
theorem aS.tm{K:ai→Prop}{p:bx}{s:aG}{avs:List I}{a1 a2:Option (List I)}{dst:Option Nat}{rest:List aH}{ts:List (Nat×I)}{os0:List (Nat×aq)}(ho:da p=some s)(hav:avs=[enc p])(hno:∀ m,2000≤m→aj os0 m=none)
  (h:aS Tryz.prog dq false K (aB rest ((au ts (os0++dn s)).aU dst (.tuple [.ptr 2000 [],.int .i64 0])))):aS Tryz.prog dq false K (.call 69 avs a1 a2 dst rest (au ts os0)):=by
 subst hav;obtain ⟨hk,_,ah,ar,_⟩:=ij ho;refine .bQ false [] [] [enc p] _ rfl (xZ p) ⟨fun m x hx=>by simp[aj] at hx,fun m m' hm=>by simp[az,aj] at hm⟩ ⟨.inl ⟨(kS _ _).symm,cJ _ _,er _⟩,trivial⟩ ?_ ?_
 ·intro r os' hp;unfold mR at hp;rw[ho] at hp;obtain ⟨rfl,rfl⟩:=hp;refine ⟨fun m y hy=>⟨(lv hk hy).1,(lv hk hy).2,fun h=>by cases h⟩,fun m m' _ _ h=>h,fun m hm=>by simp[az,aj] at hm,fun m hm _ =>?_,?_,fun h=>by cases h⟩
  ·have:=xF hm;exact ⟨hno m this.1,by simp only[bK];omega⟩
  ·have:=(dL (iF s.all.length) (n:=2000)).2 (.inl (by omega));simp[I.only,I.cv,this]
 ·intro r os' hp;unfold mR at hp;rw[ho] at hp;obtain ⟨rfl,rfl⟩:=hp;rw[l6,Fu hno];exact h
theorem aS.Fv{K:ai→Prop}{s s2:aG}{b:Bool}{x:bh}{avs:List I}{a1 a2:Option (List I)}{dst:Option Nat}{rest:List aH}{ts:List (Nat×I)}{ow:List (Nat×aq)}(hk:cw s)(hlen:s.all.length≤300)(hav:avs=[.ptr 2000 [],enc x])(how:∀ m,2000≤m→aj ow m=none)(hst:ee s x=(s2,b))
  (h:aS Tryz.prog dq false K (aB rest ((au ts (ow++dn s2)).aU dst (.bool b)))):aS Tryz.prog dq false K (.call 81 avs a1 a2 dst rest (au ts (ow++dn s))):=by
 refine aS.rN hk hlen hav how hst ?_;have hso:=rJ hk x;rw[hst] at hso;obtain ⟨k1,k2,k3,k4⟩:=hso;have e:au ts (dn s2++(ow++dn s))=au ts (ow++dn s2):=by
  rw[←Fu how];simp only[au,ai.mk.injEq,true_and]
  funext n
  rw[fF (dn s2) (ow++dn s),fF (dn s2) ow,fF ow (dn s)];cases J:aj (dn s2) n with
  |some y=>rfl
  |none =>
   simp only;have:aj (dn s) n=none:=by
    cases U:aj (dn s) n with
    |none=>rfl
    |some y =>
     exfalso
     have hin:az (dn s) n=true:=by simp[az,U]
     have:az (dn s2) n=true:=by
      rcases (dL (iF _)).1 hin with h5 | ⟨i,hi,rfl⟩
      ·exact (dL (iF _)).2 (.inl h5)
      ·exact (dL (iF _)).2 (.inr ⟨i,Nat.lt_of_lt_of_le hi k3,rfl⟩)
     simp[az,J] at this
   rw[this];cases aj ow n <;>rfl
 rw[e];exact h
theorem uk(p:bx)(r:dB):bf Tryz.prog 35 [enc p,enc r] (.tuple [enc (iG p r).1,enc (iG p r).2]):=by
 refine bf.bZ Tryz.func35 Iv JD KY (u8 rfl) (fun hwf W0 bF E1 =>?_);simp only[zb,DT,bJ,zz1];clear hwf;simp only[iG];have how:∀ (a b c:aq) m,2000≤m→aj [(4,a),(3,b),(2,c)] m=none:=fun a b c m hm=>by simp only[aj];rw[if_neg (by omega),if_neg (by omega),if_neg (by omega)]
 have how2:∀ (a b c d e:aq) m,2000≤m→aj [(8,a),(8,b),(4,c),(3,d),(2,e)] m=none:=fun a b c d e m hm=>by simp only[aj];rw[if_neg (by omega),if_neg (by omega),if_neg (by omega),if_neg (by omega),if_neg (by omega)]
 cases ho:da p with
 |none =>
  have R:=y6 @ca (y6 @bl (y6 @bU (y6 @bw (y6 @bq aC))))
  repeat' ((first |(with_reducible refine .guard (fun hb =>?_) (fun hb =>?_) <;>try simp only[hb])|refine ae.aE (by decide +kernel) rfl fun K hK =>?_|refine aS.YA ho rfl ?_|(refine .av [0,1,2,3,4,5,6,7,8,14,19,44] hK ?_;clear hK K)|(with_reducible refine .done (hK _ ?_);clear hK K)|refine ae.of rfl ?_|(with_reducible refine aA.aD (fun h =>?_) (fun h =>?_) <;>try simp only[h])) <;>try simp only[aF,R,simprocAttr])
  all_goals clear R
  rfl
 |some s =>
  obtain ⟨hk,hme,ah,hjl,_⟩:=ij ho
  dsimp only
  have hR:=Gs r;have n8:aj (dn s) 8=none:=eI (.inl (by omega)) fun i _=>by simp only[bB];omega
  rcases q1:lW r
  ·rw[q1] at hR;simp only[true_or,if_true];have R:=y6 @n8 (y6 @ca (y6 @bl (y6 @bU (y6 @bw (y6 @bq aC)))))
   repeat' ((first |(with_reducible refine .guard (fun hb =>?_) (fun hb =>?_) <;>try simp only[hb])|refine ae.aE (by decide +kernel) rfl fun K hK =>?_|refine aS.tm ho rfl (how _ _ _) ?_|refine .flat _ (hR) rfl ?_|(refine .av [0,1,2,3,4,5,6,7,8,14,19,44] hK ?_;clear hK K)|(with_reducible refine .done (hK _ ?_);clear hK K)|refine ae.of rfl ?_|(with_reducible refine aA.aD (fun h =>?_) (fun h =>?_) <;>try simp only[h])) <;>try simp only[aF,R,zz9,simprocAttr])
   all_goals clear R
   rfl
  rw[q1] at hR;rcases q2:(r.to != p.aw)
  case true =>
   have e:r.to≠p.aw:=by simpa using q2
   simp only[zx3,false_or,if_pos e];have R:=y6 @n8 (y6 @q2 (y6 @ca (y6 @bl (y6 @bU (y6 @bw (y6 @bq aC))))))
   repeat' ((first |(with_reducible refine .guard (fun hb =>?_) (fun hb =>?_) <;>try simp only[hb])|refine ae.aE (by decide +kernel) rfl fun K hK =>?_|refine aS.tm ho rfl (how _ _ _) ?_|refine .flat _ (hR) rfl ?_|(refine .av [0,1,2,3,4,5,6,7,8,14,19,44] hK ?_;clear hK K)|(with_reducible refine .done (hK _ ?_);clear hK K)|refine ae.of rfl ?_|(with_reducible refine aA.aD (fun h =>?_) (fun h =>?_) <;>try simp only[h])) <;>try simp only[aF,R,zz9,simprocAttr])
   all_goals clear R
   rfl
  have e:¬ r.to≠p.aw:=by simpa using q2
  simp only[zx3,false_or,if_neg e];have hKd:=GB r.kind;have hst:∀ A rest b,df A (some 4) 8 [] b (enc (gS r)) rest (some (.agg [.int .i64 0,.int .i64 0,.int .i64 0,.int .i64 0]))=aB rest (A.aV 8 (.box (enc (gS r)))):=fun A rest b=>dE (er _) (by rw[fg];rfl) (eJ _);have hbl:(dK [.int .i64 0,.int .i64 0,.int .i64 0,.int .i64 0] [(0,.int .i64 (km r.kind)),(1,.int .i64 r.aK),(2,.int .i64 r.c6),(3,.int .i64 r.no)]).map I.agg=some (enc (gS r)):=sk _ _ _ _;cases ht:fS s (gS r) with
  |none =>
   have ab:ee s (gS r)=(s,false):=by simp[ee,ht]
   have R:=y6 @n8 (y6 @q2 (y6 @hst (y6 @hbl (y6 @ca (y6 @bl (y6 @bU (y6 @bw (y6 @bq aC))))))))
   repeat' ((first |(with_reducible refine .guard (fun hb =>?_) (fun hb =>?_) <;>try simp only[hb])|refine ae.aE (by decide +kernel) rfl fun K hK =>?_|refine aS.tm ho rfl (how _ _ _) ?_|refine .flat _ (hR) rfl ?_|refine .flat _ (hKd) rfl ?_|refine aS.Fv (ow:=[(8,_),(8,_),(4,_),(3,_),(2,_)]) hk (by omega) rfl (how2 _ _ _ _ _) ab ?_|refine .lead _ (xX p (by omega)) ?_|(refine .av [0,1,2,3,4,5,6,7,8,14,19,44] hK ?_;clear hK K)|(with_reducible refine .done (hK _ ?_);clear hK K)|refine ae.of rfl ?_|(with_reducible refine aA.aD (fun h =>?_) (fun h =>?_) <;>try simp only[h])) <;>try simp only[aF,R,zz9,simprocAttr])
   all_goals clear R
  |some s2 =>
   have ab:ee s (gS r)=(s2,true):=by simp[ee,ht]
   have hW:=pX p (gS r) hjl;have R:=y6 @n8 (y6 @q2 (y6 @hst (y6 @hbl (y6 @ca (y6 @bl (y6 @bU (y6 @bw (y6 @bq aC))))))))
   repeat' ((first |(with_reducible refine .guard (fun hb =>?_) (fun hb =>?_) <;>try simp only[hb])|refine ae.aE (by decide +kernel) rfl fun K hK =>?_|refine aS.tm ho rfl (how _ _ _) ?_|refine .flat _ (hR) rfl ?_|refine .flat _ (hKd) rfl ?_|refine aS.Fv (ow:=[(8,_),(8,_),(4,_),(3,_),(2,_)]) hk (by omega) rfl (how2 _ _ _ _ _) ab ?_|refine .lead _ (hW) ?_|(refine .av [0,1,2,3,4,5,6,7,8,14,19,44] hK ?_;clear hK K)|(with_reducible refine .done (hK _ ?_);clear hK K)|refine ae.of rfl ?_|(with_reducible refine aA.aD (fun h =>?_) (fun h =>?_) <;>try simp only[h])) <;>try simp only[aF,R,zz9,simprocAttr])
   all_goals clear R
end Go.Proofs.YthbdbocionnfgaaGreatDoor
namespace Go.Proofs.YthbdbocionnfgaaGreatDoor
open Go Go.Abs Go.Shelf
open Go.Abs.Enc (enc)
def Xb:Go.Shelf.Ren:=⟨fun | 189=>89 | 125=>117 | 257=>116 | 128=>142 | 129=>143 | 294=>133 | 295=>134 | 296=>135 | 297=>136 | 298=>137 | 299=>138 | 216=>139 | 300=>140 | 301=>141 | 328=>153 | 329=>154 | 330=>155 | 331=>156 | 332=>157 | 215=>158 | 343=>169 | n=>n,fun | 28=>54 | 3=>3 | 46=>151 | 0=>0 | 51=>169 | 53=>171 | 4=>4 | 183=>161 | 182=>160 | 131=>166 | 5=>5 | 9=>9 | 218=>178 | 222=>182 | 228=>195 | 229=>196 | n=>n,fun | n=>n⟩
theorem B1:Go.Proofs.Lays.n189 Tryz.prog Xb := {
 mixed:=by kernel_rfl
 f125:=Tryz.func117.trans (congrArg some (by kernel_rfl))
 f128:=Tryz.func142.trans (congrArg some (by kernel_rfl))
 f129:=Tryz.func143.trans (congrArg some (by kernel_rfl))
 f189:=Tryz.func89.trans (congrArg some (by kernel_rfl))
 f215:=Tryz.func158.trans (congrArg some (by kernel_rfl))
 f216:=Tryz.func139.trans (congrArg some (by kernel_rfl))
 f257:=Tryz.func116.trans (congrArg some (by kernel_rfl))
 f294:=Tryz.func133.trans (congrArg some (by kernel_rfl))
 f295:=Tryz.func134.trans (congrArg some (by kernel_rfl))
 f296:=Tryz.func135.trans (congrArg some (by kernel_rfl))
 f297:=Tryz.func136.trans (congrArg some (by kernel_rfl))
 f298:=Tryz.func137.trans (congrArg some (by kernel_rfl))
 f299:=Tryz.func138.trans (congrArg some (by kernel_rfl))
 f300:=Tryz.func140.trans (congrArg some (by kernel_rfl))
 f301:=Tryz.func141.trans (congrArg some (by kernel_rfl))
 f328:=Tryz.func153.trans (congrArg some (by kernel_rfl))
 f329:=Tryz.func154.trans (congrArg some (by kernel_rfl))
 f330:=Tryz.func155.trans (congrArg some (by kernel_rfl))
 f331:=Tryz.func156.trans (congrArg some (by kernel_rfl))
 f332:=Tryz.func157.trans (congrArg some (by kernel_rfl))
 f343:=Tryz.func169.trans (congrArg some (by kernel_rfl))
 t0:=Tryz.underlying0
 a0:=Tryz.isAgg0
 z0:=Tryz.sizeOf0
 v0:=Tryz.zeroValue0
 t3:=Tryz.underlying3
 a3:=Tryz.isAgg3
 z3:=Tryz.sizeOf3
 v3:=Tryz.zeroValue3
 t4:=Tryz.underlying4
 a4:=Tryz.isAgg4
 z4:=Tryz.sizeOf4
 v4:=Tryz.zeroValue4
 t5:=Tryz.underlying5
 a5:=Tryz.isAgg5
 z5:=Tryz.sizeOf5
 v5:=Tryz.zeroValue5
 t9:=Tryz.underlying9
 a9:=Tryz.isAgg9
 z9:=Tryz.sizeOf9
 v9:=Tryz.zeroValue9
 t28:=Tryz.underlying54
 a28:=Tryz.isAgg54
 z28:=Tryz.sizeOf54
 v28:=Tryz.zeroValue54
 t46:=Tryz.underlying151
 a46:=Tryz.isAgg151
 z46:=Tryz.sizeOf151
 v46:=Tryz.zeroValue151
 t51:=Tryz.underlying169
 a51:=Tryz.isAgg169
 z51:=Tryz.sizeOf169
 v51:=Tryz.zeroValue169
 t53:=Tryz.underlying171
 a53:=Tryz.isAgg171
 z53:=Tryz.sizeOf171
 v53:=Tryz.zeroValue171
 t131:=Tryz.underlying166
 a131:=Tryz.isAgg166
 z131:=Tryz.sizeOf166
 v131:=Tryz.zeroValue166
 t182:=Tryz.underlying160
 a182:=Tryz.isAgg160
 z182:=Tryz.sizeOf160
 v182:=Tryz.zeroValue160
 t183:=Tryz.underlying161
 a183:=Tryz.isAgg161
 z183:=Tryz.sizeOf161
 v183:=Tryz.zeroValue161
 t218:=Tryz.underlying178
 a218:=Tryz.isAgg178
 z218:=Tryz.sizeOf178
 v218:=Tryz.zeroValue178
 t222:=Tryz.underlying182
 a222:=Tryz.isAgg182
 z222:=Tryz.sizeOf182
 v222:=Tryz.zeroValue182
 t228:=Tryz.underlying195
 a228:=Tryz.isAgg195
 z228:=Tryz.sizeOf195
 v228:=Tryz.zeroValue195
 t229:=Tryz.underlying196
 a229:=Tryz.isAgg196
 z229:=Tryz.sizeOf196
 v229:=Tryz.zeroValue196 }
def j9(k:Nat)(ws:List Int):List (Nat×aq):=[(k,.box (.agg (ws.map enc)))]
theorem Cl(p:Nat→Bool)(l:List Int):(I.agg (l.map enc)).only p=true:=by simp only[I.only];exact ic p l
def Zz(ws:List Int):cC:=fun r os'=>r=.tuple []∧os'=j9 1000000 ws
def cu(xs:List Int):List Int:=xs.mergeSort fun x y=>decide (x≤y)
theorem Ez{w:World}{D:aR}{E:a8} : ∀ {xs:List Int} {cs:List Value},aM w D E (xs.map enc) cs→cs=xs.map (Value.int .i64)∧∀ x∈xs,IntKind.i64.min≤x∧x≤IntKind.i64.max
 | [],cs,h=>by
  simp only[zx8,aM] at h;subst h;exact ⟨rfl,by simp⟩
 |x::xs,cs,h=>by
  simp only[zz4,aM] at h;obtain ⟨c1,c2,rfl,J,U⟩:=h;obtain ⟨rfl,ah⟩:=Ez U;have h1':c1=[.int .i64 x]∧IntKind.i64.min≤x∧x≤IntKind.i64.max:=J;obtain ⟨rfl,ar⟩:=h1';refine ⟨rfl,fun y hy =>?_⟩;rcases zw4.1 hy with rfl | hy
  ·exact ar
  ·exact ah y hy
theorem rm{w:World}{D:aR}{E:a8} : ∀ {xs:List Int},(∀ x∈xs,IntKind.i64.min≤x∧x≤IntKind.i64.max)→aM w D E (xs.map enc) (xs.map (Value.int .i64))
 | [],_=>rfl
 |x::xs,h=>⟨[.int .i64 x],xs.map (Value.int .i64),rfl,⟨rfl,h x (by simp)⟩,rm fun y hy=>h y (by simp[hy])⟩
theorem rG(xs:List Int):(I.agg (xs.map enc)).aX=.eH (List.replicate xs.length .one):=by
 show cO.eH (I.cT _)=_
 congr 1
 induction xs with
 |nil=>rfl
 |cons x xs ih=>simp only[zz4,I.cT,ih,zw2,List.replicate_succ];rfl
theorem Y1{xs ys q:List Int}(ao:ys.length=xs.length){cs:Array Value}(hc:cs.toList=(xs++q).map (Value.int .i64)):(Sort.putCells (Value.int .i64) 0 ys.toArray cs).toList=(ys++q).map (Value.int .i64):=by
 apply List.ext_getElem?;intro k;have J:cs[k]?=((xs++q).map (Value.int .i64))[k]?:=by rw[←hc,zx9]
 rw[zx9,Sort.putCells,Array.getElem?_mapIdx,J];simp only[zy9,List.size_toArray,zw8,true_and,zz1,Nat.sub_zero];by_cases hk:k<ys.length
 ·simp only[hk,if_true];rw[zy6 (by omega),zy6 hk,zy4 (by omega),zy4 hk];simp[hk]
 ·simp only[hk,if_false];rw[zw1 (by omega),zw1 (by omega),ao];cases (q[k-xs.length]?) <;>rfl
open Go.Sort Go.RowKit in
theorem GG(xs q:List Int)(hn:xs.length≤1000):cR Tryz.prog 89 [.view 1000000 [] 1 0 xs.length] (j9 1000000 (xs++q)) (Zz (cu xs++q)):=by
 refine ⟨Aa,fun w D E vs _ hD hO hv =>?_⟩;have ho:=hO.bQ 1000000;simp only[j9,aj,if_true] at ho;obtain ⟨b,cs,T,ay,-,hb,hr,hnD⟩:=ho;have hEn:∀ n,n≠1000000→E n=none:=fun n hn=>by
  have:=hO.bQ n;simpa only[j9,aj,if_neg hn,cV] using this
 simp only[aI] at hv;obtain ⟨v,rest,cs',rfl,hp,hr',rfl⟩:=hv;obtain ⟨b',aX,off,l,hE',hoff,hpart,rfl,hl1,hl2,hl3⟩:=hr';rw[ay] at hE';simp only[v6,bO.aN.injEq] at hE';obtain ⟨rfl,rfl⟩:=hE';have hoff':off=0:=by
  have:(some 0:Option Nat)=some off:=by rw[←hoff];rw[rG];rfl
  injection this with this;exact this.symm
 subst hoff';have hp':v=.slice (some ⟨b,0,none⟩) xs.length (l.length-0):=by
  have:[Value.slice (some ⟨b,0+0*1,none⟩) xs.length (l.length-0)]=[v]:=hp;simpa using this.symm
 subst hp';obtain ⟨hcs,hrg⟩:=Ez hr;have hbs:b<w.heap.size:=(zy0.1 hb).1;have hH:Holds (Value.int .i64) w b 0 xs.toArray:=fun j hj=>by
  simp only[List.size_toArray] at hj;constructor
  ·simp only[World.cell?,hb,Option.isSome_none,zz2,if_false,zz1];rw[←zx9,hcs];rw[zy5,zy6 (by simpa using hj)];simp[hj]
  ·simp[World.frozen?,hb]
 have hlen:(cu xs).length=xs.length:=by simp[cu]
 refine (Any.slices_Sort_int B1 b 0 (l.length-0) xs w hH hbs (by omega)).mono ?_;rintro e w' ⟨rfl,n,os,rfl⟩;have hb1:(putRow (Value.int .i64) (Sort.ahead w n) b 0 (cu xs).toArray).heap[b]?=some (.cells (putCells (Value.int .i64) 0 (cu xs).toArray cs) T (0,0)):=by
  simp[putRow,mapBlock,Sort.ahead,Array.getElem?_modify,hb,onCells]
 have hother:∀ k,k<w.heap.size→k≠b→(grow (putRow (Value.int .i64) (Sort.ahead w n) b 0 (cu xs).toArray) os).heap[k]?=w.heap[k]?:=fun k hk hkb=>by
  rw[heap_grow_old _ _ (by simpa[Sort.ahead] using hk)];simp[putRow,mapBlock,Sort.ahead,Array.getElem?_modify,Ne.symm hkb]
 have hb2:(grow (putRow (Value.int .i64) (Sort.ahead w n) b 0 (cu xs).toArray) os).heap[b]?=some (.cells (putCells (Value.int .i64) 0 (cu xs).toArray cs) T (0,0)):=by
  rw[heap_grow_old _ _ (by simpa[Sort.ahead] using hbs)];exact hb1
 have hsz:w.heap.size≤(grow (putRow (Value.int .i64) (Sort.ahead w n) b 0 (cu xs).toArray) os).heap.size:=by simp[Sort.ahead]
 have hshow:(grow (putRow (Value.int .i64) (Sort.ahead w n) b 0 (xs.mergeSort fun x y=>decide (x≤y)).toArray) os)=(grow (putRow (Value.int .i64) (Sort.ahead w n) b 0 (cu xs).toArray) os):=rfl;rw[hshow];have hw1:(grow (putRow (Value.int .i64) (Sort.ahead w n) b 0 (cu xs).toArray) os).os=w.os:=rfl;have hw2:(grow (putRow (Value.int .i64) (Sort.ahead w n) b 0 (cu xs).toArray) os).tape=w.tape:=rfl;have hw3:(grow (putRow (Value.int .i64) (Sort.ahead w n) b 0 (cu xs).toArray) os).output=w.output:=rfl;revert hother hb2 hsz hw1 hw2 hw3;generalize grow (putRow (Value.int .i64) (Sort.ahead w n) b 0 (cu xs).toArray) os=w2;intro hother hb2 hsz hw1 hw2 hw3;have hmem:∀ x∈cu xs++q,IntKind.i64.min≤x∧x≤IntKind.i64.max:=fun x hx=>hrg x (by
  rcases zx6.1 hx with h | h
  ·exact List.mem_append_left _ (by simpa[cu] using h)
  ·exact List.mem_append_right _ h)
 refine ⟨.tuple #[],D,E,.tuple [],j9 1000000 (cu xs++q),rfl,⟨rfl,rfl⟩,⟨[],rfl,rfl⟩,⟨fun m =>?_,hO.cL⟩,⟨hw1,hw2,hw3,hsz,fun k hk =>?_⟩,fun _ _ h=>h,fun b0 o h=>Nat.lt_of_lt_of_le (hD b0 o h) hsz,fun _ _ h _ _=>h,fun m e h _=>⟨e,h,bO.le.refl e⟩,⟨fun b0 o u af hc =>?_,fun b0 es ck af hc =>?_⟩⟩
 ·by_cases hm:m=1000000
  ·subst hm;simp only[j9,aj,if_true];refine ⟨b,_,T,?_,.inr ⟨1000000,_,ay,rfl⟩,hb2,?_,hnD⟩
   ·rw[ay,rG,rG,zz6,zz6,hlen]
   ·show aM w2 D E _ _
    rw[Y1 hlen hcs];exact rm hmem
  ·simp only[j9,aj,if_neg hm,cV];exact hEn m hm
 ·by_cases hk2:k<w.heap.size
  ·exact hother k hk2 fun e=>hk (.inr ⟨1000000,_,ay,by rw[e];rfl⟩)
  ·exact absurd (.inl (Nat.le_of_not_lt hk2)) hk
 ·have hne:b0≠b:=fun e=>hnD o (e▸af);simp only[World.cell?,hother b0 (hD b0 o af) hne] at hc ⊢;exact hc
 ·have hne:b0≠b:=fun e=>hnD 0 (e▸af);rw[hother b0 (hD b0 0 af) hne];exact hc
theorem GH(v:I)(hv0:v=.nils 1∨v=enc ([]:List Int)):bf Tryz.prog 89 [v] (.tuple []):=by
 refine ⟨Aa,fun w D vs _ hD hv =>?_⟩;simp only[aI] at hv;obtain ⟨u,rest,cs',rfl,hp,hr',rfl⟩:=hv;have hu:∃ a cap,u=.slice a 0 cap:=by
  rcases hv0 with rfl | rfl
  ·have J:cs'=[.slice none 0 0]:=hr';have U:cs'=[u]:=hp;rw[J] at U;exact ⟨none,0,by simpa using U.symm⟩
  ·obtain ⟨a,cap,J,_⟩:=hr';have U:cs'=[u]:=hp;rw[J] at U;exact ⟨a,cap,by simpa using U.symm⟩
 obtain ⟨a,cap,rfl⟩:=hu;refine (Any.slices_Sort_int_none B1 a cap w).mono ?_;rintro e w' ⟨rfl,rfl⟩;exact ⟨.tuple #[],D,rfl,⟨[],rfl,rfl⟩,⟨rfl,rfl,rfl,zz3 _,fun _ _=>rfl⟩,hD,fun _ _ h _=>h⟩
end Go.Proofs.YthbdbocionnfgaaGreatDoor
namespace Go.Proofs.YthbdbocionnfgaaGreatDoor
open Go Go.Abs
open Go.Abs.Enc (enc)
theorem AV(n:Nat)(ts:List (Nat×I)):∀ t,Abs.bX (lL [n] ts) t=if (Abs.bX ts t).only (fun j => ![n].contains j)=true then Abs.bX ts t else .dp:=by
 intro t;simp only[lL]
 induction ts with
 |nil=>simp[Abs.bX]
 |cons q ts ih =>
  obtain ⟨k,v⟩:=q;simp only[zz4,Abs.bX];split
  ·rfl
  ·exact ih
theorem ud{p q:Nat→Bool}(h:∀ n,p n=true→q n=true){y:aq}(hy:y.only p=true):y.only q=true:=by
 cases y with
 |box x=>exact iO h _ hy
 |b5 T sz es=>exact ig h _ hy
 |dD o=>rfl
 |dG T xs=>rfl
 |bt ks vs=>simp only[aq.only,t8] at hy ⊢;exact ⟨ig h _ hy.1,ig h _ hy.2⟩
 |it ks vs l c=>simp only[aq.only,t8] at hy ⊢;exact ⟨ig h _ hy.1,ig h _ hy.2⟩
theorem CI{n k:Nat} : ∀ {ts:List (Nat×I)},(∀ q∈ts,qY n k q.2)→∀ t,qY n k (Abs.bX ts t)
 | [],_,_=>.inr rfl
 |(a,v)::ts,h,t=>by
  simp only[Abs.bX];split
  ·exact h (a,v) (by simp)
  ·exact CI (fun q hq=>h q (by simp[hq])) t
theorem tl{p:Nat→Bool}{n k:Nat}(hp:p=fun j => ![n].contains j)(f:aq→aq)(hf:∀ y:aq,y.only p=true→f y=y):∀ {os:List (Nat×aq)},cY p (eL [n] os)→cY p (eL [n] (os.map fun q=>(q.1,f q.2)))
 | [],_=>trivial
 |(m,y)::os,h=>by
  simp only[zz4,eL,List.filter_cons] at h ⊢;split
  ·rename_i hm;rw[if_pos hm] at h;refine ⟨?_,tl (k:=k) hp f hf h.2⟩;rw[hf y h.1];exact h.1
  ·rename_i hm;rw[if_neg hm] at h;exact tl (k:=k) hp f hf h
theorem M9{ys q:List Int}{k:Nat}(hk:ys.length=k):lM 1 0 k (some ((ys++q).map enc))=some (enc ys):=by
 have h:(((ys++q).map (enc (α:=Int))).drop 0).take k=ys.map enc:=by
  rw[List.drop_zero,zy5,List.take_append_of_le_length (by simp[hk]),List.take_of_length_le (by simp[hk])]
 simp only[lM,h];rw[if_pos (iC ys),hh];rfl
theorem Fs{n k:Nat} : ∀ y:aq,y.only (fun j => ![n].contains j)=true→jL (ja n k) y=y:=fun y hy=>by
 cases y <;>try rfl
 simp only[aq.only] at hy;simp only[jL,tV (iO (fun j hj=>by simpa using hj) _ hy)]
theorem Fp{n:Nat} : ∀ y:aq,y.only (fun j => ![n].contains j)=true→jL (iZ n) y=y:=fun y hy=>by
 cases y <;>try rfl
 simp only[aq.only] at hy;simp only[jL,Fq (iO (fun j hj=>by simpa using hj) _ hy)]
theorem Fo{ts ts':List (Nat×I)}(h:∀ q∈ts',Abs.bX ts q.1=q.2):cG ts ts':=by
 induction ts' with
 |nil=>trivial
 |cons q ts' ih=>exact ⟨h q (by simp),ih fun q hq=>h q (by simp[hq])⟩
theorem ae.ZP{W0:World}{bF:aR}{nn:Nat}{ow:Nat→Prop}{E1:a8}{Y:Value→List I→List (Nat×aq)→cC→Prop}{lj:Option Nat}{ba:Option (List Deferred)}{y:bo}{Q:Exit→ai→Prop}{ts:List (Nat×I)}{os:List (Nat×aq)}{a b d n:Nat}{xs:List Int}
  (af:Abs.bX ts d=.own n xs.length) (hn:aj os n=some (.dG 3 xs)) (hlt:n<1000000) (ao:xs.length≤1000) (ht:∀ t,qY n xs.length (Abs.bX ts t)) (ho:cY (fun j => ![n].contains j) (eL [n] os))
  (ts':List (Nat×I)) (J:∀ q∈ts',q.1≠a∧q.1≠b∧Abs.bX ts q.1=q.2∧q.2.only (fun j=>j != n)=true)
  (hda:d≠a) (hdb:d≠b)
  (h:ae ⟨Tryz.prog,W0,bF,nn,ow,E1,Y,lj,ba⟩ y Q (au ((d,enc (cu xs))::ts') (eL [n] os))) :
  ae ⟨Tryz.prog,W0,bF,nn,ow,E1,Y,lj,ba⟩ (.seq (.b9 none [⟨some a,.mv (.t d),none⟩,⟨some b,.call 89 [.t a],none⟩]) y) Q (au ts os):=by
 have hdrop:∀ m,aj (eL [n] os) m=if m=n then none else aj os m:=fun m=>by
  have:=nM [n] os m;simpa using this
 have ho':∀ m y,aj os m=some y→m≠n→y.only (fun j=>j != n)=true:=fun m y hy hm=>by
  have:=wP ho m y (by rw[hdrop,if_neg hm];exact hy);exact ud (fun j hj=>by simpa using hj) this
 by_cases hx:xs=[]
 ·subst hx;refine ae.sub (bH.Z8 hn (bH.refl _)) ?_;refine ae.seq (ae.b9 (cl:=[]) (by rfl) fun K hK =>?_);have hd':Abs.bX (ts.map fun q=>(q.1,iZ n q.2)) d=.nils 1:=by
   rw[ph _ rfl,af];simp[iZ]
  simp only[bI,simprocAttr,hd'];refine .flat _ (GH _ (.inr rfl)) rfl ?_
  try simp only[bI,simprocAttr]
  refine .done (hK _ ?_);clear hK K;refine ae.sub ((bH.jU [n] d (x:=.nils 1) (y:=enc ([]:List Int)) ?_ (by rfl) ?_).trans (bH.slots ?_ fun m =>?_)) h
  ·simp only[Abs.bX,hda,hdb,if_false];exact hd'
  ·exact tl (k:=0) rfl (jL (iZ n)) Fp ho
  ·refine ⟨by simp[Abs.bX,cu],Fo fun q hq =>?_⟩;obtain ⟨k1,k2,k3,k4⟩:=J q hq;have hqd:q.1≠d:=fun e=>by
    rw[e,af] at k3;rw[←k3] at k4;simp[I.only] at k4
   have h5:Abs.bX (ts.map fun p=>(p.1,iZ n p.2)) q.1=q.2:=by
    rw[ph _ rfl,k3,Fq k4]
   simp only[Abs.bX,AV,k1,k2,hqd,if_false,h5];rw[if_pos (iO (fun j hj=>by simpa using hj) _ k4)]
  ·rw[hdrop,nM,s7];by_cases hm:m=n
   ·simp[hm]
   ·cases h6:aj os m with
    |none=>simp[hm]
    |some y =>
     have h7:jL (iZ n) y=y:=Fp _ (ud (fun j hj=>by simpa using hj) (ho' _ _ h6 hm));simp[hm,h7]
 ·refine ae.Z7 hn hx hlt ht (fun m y hy hm=>.inr (ho' m y hy hm)) fun q =>?_;refine ae.seq (ae.b9 (cl:=[]) (by rfl) fun K hK =>?_);have hd':Abs.bX (ts.map fun p=>(p.1,ja n xs.length p.2)) d=.view n [] 1 0 xs.length:=by
   rw[ph _ rfl,af];simp[ja]
  simp only[bI,simprocAttr,hd'];refine .bQ false [(1000000,n)] (j9 1000000 (xs++List.replicate q 0)) [.view 1000000 [] 1 0 xs.length] _ rfl (GG xs _ (by omega)) ?_ ?_ ?_ ?_
  ·refine ⟨fun m y hy =>?_,fun m m' h h' _=>by rw[mH.1 h,mH.1 h']⟩;simp only[j9,aj] at hy;split at hy
   ·rename_i hm;cases hy;subst hm;exact ⟨by simp only[bK,if_true,aj,aq.bm,I.bm,tE],Cl _ _,rfl⟩
   ·cases hy
  ·exact ⟨.inl ⟨by simp[I.bm,bK],mH.2 rfl,rfl⟩,trivial⟩
  ·rintro rr os2 ⟨rfl,rfl⟩;refine ⟨fun m y hy =>?_,fun m m' h h' _=>by rw[mH.1 h,mH.1 h'],fun m hm=>by rw[mH.1 hm];exact mH.2 rfl,fun m a b=>by rw[mH.1 a] at b;simp[j9,az,aj] at b,rfl,fun _=>rfl⟩;simp only[j9,aj] at hy;split at hy
   ·cases hy;exact ⟨Cl _ _,rfl,fun h=>by cases h⟩
   ·cases hy
  ·rintro rr os2 ⟨rfl,rfl⟩
   try simp only[j9,dy,zz4,zx8,aq.bm,I.bm,tE,bK,reduceIte,zz9,List.nil_append,I.dR,bI,simprocAttr]
   refine .done (hK _ ?_);clear hK K;refine ae.sub ((bH.jU [n] d (x:=.view n [] 1 0 xs.length) (y:=enc (cu xs)) ?_ ?_ ?_).trans (bH.slots ?_ fun m =>?_)) h
   ·simp only[Abs.bX,hda,hdb,if_false];exact hd'
   ·have:aj (mK [n] ((n,aq.box (I.agg ((cu xs++List.replicate q 0).map enc)))::(n,aq.box (I.agg ((xs++List.replicate q 0).map enc)))::os.map fun p=>(p.1,jL (ja n xs.length) p.2))) n=some (.box (.agg ((cu xs++List.replicate q 0).map enc))):=by
     rw[pd];simp[aj]
    try simp only[this,bI,simprocAttr]
    exact M9 (by simp[cu])
   ·have:=tl (k:=0) rfl (jL (ja n xs.length)) Fs ho;simpa[eL] using this
   ·refine ⟨by simp[Abs.bX],Fo fun q hq =>?_⟩;obtain ⟨k1,k2,k3,k4⟩:=J q hq;have hqd:q.1≠d:=fun e=>by
     rw[e,af] at k3;rw[←k3] at k4;simp[I.only] at k4
    have h5:Abs.bX (ts.map fun p=>(p.1,ja n xs.length p.2)) q.1=q.2:=by
     rw[ph _ rfl,k3,tV k4]
    simp only[Abs.bX,AV,k1,k2,hqd,if_false,h5];rw[if_pos (iO (fun j hj=>by simpa using hj) _ k4)]
   ·rw[hdrop,nM];by_cases hm:m=n
    ·simp[hm]
    ·simp only[aj,if_neg hm,s7];cases h6:aj os m with
     |none=>simp[hm]
     |some y =>
      have h7:jL (ja n xs.length) y=y:=Fs _ (ud (fun j hj=>by simpa using hj) (ho' _ _ h6 hm));simp[hm,h7]
def iQ(ks:List Int)(av:List Nat):List Int:=av.map fun i=>ks.getD i 0
theorem YK(ks:List Int)(av:List Nat)(i:Nat):iQ ks (av++[i])=iQ ks av++[ks.getD i 0]:=by simp[iQ]
theorem YJ(ks:List Int)(av:List Nat):(iQ ks av).length=av.length:=by simp[iQ]
theorem YI{ks:List Int}{av:List Nat}(h:av.Perm (List.range ks.length)):(iQ ks av).Perm ks:=by
 have e:(List.range ks.length).map (fun i=>ks.getD i 0)=ks:=by
  refine List.ext_getElem (by simp) fun i J U =>?_;simp[zz0,U]
 simp only[iQ];have:=h.map fun i=>ks.getD i 0
 rwa [e] at this
theorem ZO{xs ys:List Int}(h:xs.Perm ys):cu xs=cu ys:=by
 unfold cu;have hx:=List.pairwise_mergeSort (le:=fun x y:Int=>decide (x≤y)) (by intro a b c;simp;omega) (by intro a b;simp;omega) xs;have hy:=List.pairwise_mergeSort (le:=fun x y:Int=>decide (x≤y)) (by intro a b c;simp;omega) (by intro a b;simp;omega) ys;refine List.Perm.eq_of_pairwise (fun a b _ _ h k =>?_) hx hy ((List.mergeSort_perm _ _).trans (h.trans (List.mergeSort_perm _ _).symm));simp only[decide_eq_true_eq] at h k;omega
theorem CN(p:Nat→Bool)(f:Nat→cZ):∀ l:List Nat,I.cv p (l.map fun i=>.ref (enc (f i)))=true
 | []=>rfl
 |i::l=>by simp[I.cv,I.only,cJ,CN p f l]
def ye(s:aG)(t:List Nat×List Nat×Option Nat):ai :=
 au [(3,.own 905 (iQ s.bD t.1).length),(9,.dk 9)] [(9,.it (s.bD.map enc) (s.aQ.map fun i=>.ref (enc (s.bV i))) t.2.1 t.2.2),(905,.dG 3 (iQ s.bD t.1))]
theorem x3(s:aG)(ao:s.aQ.length≤1000):bf Tryz.prog 85 [dz s] (enc (cu s.bD)):=by
 refine bf.bZ Tryz.func85 I1 J5 Lr (u8 rfl) (fun hwf W0 bF E1 =>?_);simp only[zF,Er,bJ];clear hwf;have hlen:s.bD.length=s.aQ.length:=by simp[aG.bD]
 refine .gw (by decide +kernel) fun K hK =>?_;simp only[Bq,bI,simprocAttr];refine .done (hK _ ?_);clear hK K;refine .gw (by decide +kernel) fun K hK =>?_;simp only[Br,bI,simprocAttr];refine .done (hK _ ?_);clear hK K;refine ae.seq (ae.seq ?_);refine .ku (by decide +kernel) fun K hK =>?_;simp only[Bt,bI,simprocAttr]
 try simp only[dY,jH,bq,mM,bI,simprocAttr]
 refine .done (hK _ ?_);clear hK K;try simp only[eB]
 refine ae.block (ae.loop (ye s) (fun t=>(t.1++t.2.1).Perm (List.range s.bD.length)) (fun t=>t.2.1.length) ([],List.range s.bD.length,none) (by simp) ?_ ?_)
 ·refine bH.GZ 3 905 3 1 rfl rfl ?_;refine bH.slots ?_ (fun n =>?_)
  ·simp[cG,cD,iQ]
  ·simp only[iQ,zx8,ez,qO,zz8,hlen]
   (repeat' split) <;>simp_all
 rintro ⟨av,left,cur⟩ hC;simp only at hC;have hdl:av.length+left.length=s.bD.length:=by simpa using hC.length_eq
 have hpl:=YJ s.bD av;simp only[ye];by_cases hn:left=[]
 ·subst hn;refine .gw (by decide +kernel) fun K hK =>?_;simp only[vS,bI,simprocAttr]
  try simp only[mM,CC,bI,simprocAttr]
  refine .done (hK _ ?_);clear hK K;refine ae.seq ?_;refine ae.jX ?_;simp only[aA,bI,simprocAttr];refine ⟨fun h =>?_,fun h =>?_⟩
  case refine_1=>cases h
  refine ae.exit ?_;try simp only[eB,jQ,simprocAttr]
  have hdn:(iQ s.bD av).Perm s.bD:=YI (by simpa using hC);rw[←ZO hdn];generalize iQ s.bD av=xs at hpl;refine ae.ZP (a:=18) (b:=19) (d:=3) (n:=905) (xs:=xs) rfl rfl (by decide) (by omega) (CI (by simp[qY,I.only,I.cv])) (by simp only[eL,List.filter_cons,List.filter_nil,List.contains_cons];simp[cY,aq.only,ic,CN,-List.map_map]) [] (by simp) (by decide) (by decide) ?_;have R:=aC
  repeat' ((first |refine ae.aE (by decide +kernel) rfl fun K hK =>?_|(refine .av [0,2,3,4,9,11] hK ?_;clear hK K)|(with_reducible refine .done (hK _ ?_);clear hK K)|refine ae.of rfl ?_|(with_reducible refine aA.aD (fun h =>?_) (fun h =>?_) <;>try simp only[h])) <;>try simp only[aF,R,simprocAttr])
  all_goals clear R
 ·refine .gw (by decide +kernel) fun K hK =>?_;simp only[vS,bI,simprocAttr]
  try simp only[mM,bI,simprocAttr]
  refine aS.ib hn fun i hi =>?_;have hib:i<s.bD.length:=zw7.1 (hC.mem_iff.1 (by simp[hi]));have hib2:i<s.aQ.length:=by omega
  obtain ⟨hm,hC2⟩:=B9 hC hi;have hk1:(s.bD.map (enc (α:=Int)))[i]?=some (enc s.bD[i]):=by simp[hib]
  have hk2:(s.aQ.map fun i=>I.ref (enc (s.bV i)))[i]?=some (.ref (enc (s.bV s.aQ[i]))):=by simp[hib2]
  refine ⟨_,_,hk1,hk2,?_⟩;have hent:mB (s.bD.map enc) (s.aQ.map fun i=>I.ref (enc (s.bV i))) (some i)=some (.tuple [enc s.bD[i],.ref (enc (s.bV s.aQ[i]))]):=by
   simp only[mB,hk1,hk2]
  have hx:s.bD.getD i 0=s.bD[i]:=by simp[zz0,hib]
  have hsn:=YK s.bD av i;rw[hx] at hsn;have hbs:fA 1 (some [.int .i64 s.bD[i]])=some (enc [s.bD[i]]):=jf 1 s.bD[i] rfl;have hap:=fun (A:ai) d rest=>Ha (A:=A) (d:=d) (e:=3) (bytes:=8) (n:=905) (l:=(iQ s.bD av).length) (xs:=iQ s.bD av) (y:=s.bD[i]) (rest:=rest) rfl (by simp[maxLen];omega) (by omega)
  try simp only[bI,simprocAttr]
  refine .done (hK _ ?_);clear hK K;refine ae.seq ?_;refine ae.jX ?_;simp only[aA,bI,simprocAttr];refine ⟨fun h =>?_,fun h =>?_⟩
  case refine_2=>cases h
  refine ae.skip ?_;try simp only[eB,simprocAttr]
  refine ae.block ?_;have R:=y6 @hent (y6 @hbs (y6 @hap aC))
  repeat' ((first |refine ae.aE (by decide +kernel) rfl fun K hK =>?_|(refine .av [0,2,3,4,9,11] hK ?_;clear hK K)|(with_reducible refine .done (hK _ ?_);clear hK K)|refine ae.of rfl ?_|(with_reducible refine aA.aD (fun h =>?_) (fun h =>?_) <;>try simp only[h])) <;>try simp only[aF,R,simprocAttr])
  all_goals clear R
  refine ⟨(av++[i],left.filter (· != i),some i),hC2,hm,?_⟩;simp only[hsn];refine bH.slots ?_ (fun n =>?_)
  ·simp[cG,cD]
  ·simp only[ez,qO];(repeat' split) <;>simp_all
theorem Zx:(∀ A d rest l,tI A d rest (jV l)=aB rest ((A.aV d (.it (l.map enc) (List.replicate l.length (.bool true)) (List.range (l.map (enc (α:=Int))).length) none)).put d (.dk d))):=fun _ _ _ _=>rfl
def mW(s:aG):List cZ:=(cu s.bD).map fun n=>s.bV (n.toNat-1)
def tG(p:bx):List cZ×Int:=match da p with
 |none=>([],91)
 |some s=>(mW s,0)
theorem Hm{s:aG}{n:Int}(h:n∈s.bD):∃ j,s.at n=some j∧n=(j:Int)+1∧j∈s.aQ:=by
 obtain ⟨j,hj,rfl⟩:=zx1.1 h;have ab:(s.at ((j:Int)+1)).isSome=true:=by
  simp only[aG.at,List.find?_isSome];exact ⟨j,hj,by simp⟩
 obtain ⟨k,hk⟩:=zy8.1 ab;obtain ⟨J,U⟩:=js hk;exact ⟨k,hk,U,J⟩
theorem ZN{l:List Int}{n:Int} : n∈cu l↔n∈l:=by simp[cu]
theorem xl:∀ {l:List bh} {s s':aG},fY s l=some s'→s'.aQ.length≤s.aQ.length+l.length
 | [],s,s',h=>by cases h;simp
 |x::l,s,s',h=>by
  simp only[fY] at h;cases hx:fS s x with
  |none=>rw[hx] at h;cases h
  |some s2 =>
   rw[hx] at h;have J:=xl h;have he:∀ b,(s.aQ.erase b).length≤s.aQ.length:=fun b=>List.length_erase_le;have U:s2.aQ.length≤s.aQ.length+1:=by
    simp only[fS] at hx;split at hx
    ·simp only[ec] at hx
     (repeat' split at hx) <;>first
      |(cases hx;done)
      |(cases hx;exact zv0 (he _) (Nat.le_succ _))
      |(cases hx;exact Nat.le_succ _)
      |(cases hx;simp)
    ·cases hx
   simp only[zw2];omega
theorem YB{p:bx}{s:aG}(h:da p=some s):s.aQ.length≤200:=by
 obtain ⟨_,_,_,ar,_,h6⟩:=ij h;have:=xl h6;simp only[eU,List.length_nil] at this;omega
theorem Cd(s:aG){i:Nat}(h:i<(cu s.bD).length):fo (.i .i64) .nilp (.int .i64 (cu s.bD)[i]) (s.bD.map enc) (s.aQ.map fun i=>.ref (enc (s.bV i)))=some (.ref (enc (s.bV ((cu s.bD)[i].toNat-1))),true):=by
 have hm:(cu s.bD)[i]∈s.bD:=ZN.1 (List.getElem_mem h);obtain ⟨j,hj,e,_⟩:=Hm hm;rw[sZ (s:=s) (fun i=>.ref (enc (s.bV i))),hj];have:(cu s.bD)[i].toNat-1=j:=by omega
 simp only[this]
theorem M8{xs:List cZ} : kU xs.length (some (.b5 48 4 (xs.map enc)))=some (enc xs):=qn 4 rfl rfl
def uw(p:bx)(s:aG)(t:Nat×List cZ):ai :=
 au [(1,.ptr 1 []),(4,dz s),(6,.own 905 t.2.length),(18,enc (cu s.bD)),(19,.int .i64 (cu s.bD).length),(20,.int .i64 t.1)] [(905,.b5 48 4 (t.2.map enc)),(1,.box (enc p))]
theorem Gf(p:bx):bf Tryz.prog 46 [enc p] (.tuple [enc (tG p).1,enc (tG p).2]):=by
 refine bf.bZ Tryz.func46 IA JH K2 (u8 rfl) (fun hwf W0 bF E1 =>?_);simp only[zf,DX,bJ];clear hwf;have hF:=nl p;simp only[tG];cases ho:da p with
 |none =>
  rw[ho] at hF;simp only[iP] at hF;have R:=y6 @ca (y6 @bl (y6 @bU (y6 @bw (y6 @bq aC))))
  repeat' ((first |refine ae.aE (by decide +kernel) rfl fun K hK =>?_|refine .lead _ (hF) ?_|(refine .av [0,1,2,3,4,5,6,8,15,18,19,20,21] hK ?_;clear hK K)|(with_reducible refine .done (hK _ ?_);clear hK K)|refine ae.of rfl ?_|(with_reducible refine aA.aD (fun h =>?_) (fun h =>?_) <;>try simp only[h])) <;>try simp only[aF,R,simprocAttr])
  all_goals clear R
  rfl
 |some s =>
  have ao:=YB ho;have hN:=x3 s (by omega);have hlen:(cu s.bD).length=s.aQ.length:=by simp[cu,aG.bD]
  have hrl:(mW s).length=(cu s.bD).length:=by simp[mW]
  have hso:∀ p,(dz s).only p=true:=fun p=>kr p _ (oo s);rw[ho] at hF;simp only[iP] at hF;have R:=y6 @Zx (y6 @dY (y6 @ca (y6 @bl (y6 @bU (y6 @bw (y6 @bq aC))))))
  repeat' ((first |refine ae.aE (by decide +kernel) rfl fun K hK =>?_|refine .lead _ (hF) ?_|refine .lead _ (hN) ?_|(refine .av [0,1,2,3,4,5,6,8,15,18,19,20,21] hK ?_;clear hK K)|(with_reducible refine .done (hK _ ?_);clear hK K)|refine ae.of rfl ?_|(with_reducible refine aA.aD (fun h =>?_) (fun h =>?_) <;>try simp only[h])) <;>try simp only[aF,R,simprocAttr])
  all_goals clear R
  refine ae.loop (uw p s) (fun t=>t.1≤(cu s.bD).length∧t.2=(mW s).take t.1) (fun t=>(cu s.bD).length-t.1) (0,[]) ⟨zw8 _,rfl⟩ ?_ ?_
  ·refine bH.sa 6 905 48 4 4 rfl rfl ?_;simp only[uw];refine bH.dW ?_ ?_ ?_ ?_ <;>simp[*,cG,dF,cW,cY,az,cD,ez,I.only,I.cv,aq.only,cJ]
  rintro ⟨i,xs⟩ ⟨hi,hxs⟩;simp only at hi hxs;have htl:xs.length=i:=by rw[hxs,zx7];omega
  simp only[uw];by_cases hlt:i<(cu s.bD).length
  ·have hc:=gV hlt;have he:=fun A=>fh (A:=A) 1 hlt rfl;have hw:=gZ (i:=i) (by omega);have hlk:=Cd s hlt;obtain ⟨r,hr⟩:∃ r,r=s.bV ((cu s.bD)[i].toNat-1):=⟨_,rfl⟩
   rw[←hr] at hlk;have hbs:fA 4 (some [enc r])=some (enc [r]):=jf 4 _ rfl;have hap:=fun (A:ai) d rest=>p7 (A:=A) (d:=d) 48 4 32 905 (l:=xs.length) (es:=xs) (ys:=[r]) (rest:=rest) rfl rfl (by simp) (by simp[maxLen];omega) (by simp;omega);have htk:(mW s).take (i+1)=xs++[r]:=by
    have hik:i<(mW s).length:=by rw[hrl];exact hlt
    rw[zy7 hik,hxs,hr];simp[mW]
   have R:=y6 @hc (y6 @he (y6 @hw (y6 @hlk (y6 @hbs (y6 @hap (y6 @dY (y6 @ca (y6 @bl (y6 @bU (y6 @bw (y6 @bq aC)))))))))))
   repeat' ((first |refine ae.aE (by decide +kernel) rfl fun K hK =>?_|(refine .av [0,1,2,3,4,5,6,8,15,18,19,20,21] hK ?_;clear hK K)|(with_reducible refine .done (hK _ ?_);clear hK K)|refine ae.of rfl ?_|(with_reducible refine aA.aD (fun h =>?_) (fun h =>?_) <;>try simp only[h])) <;>try simp only[aF,R,simprocAttr])
   all_goals clear R
   refine ⟨(i+1,xs++[r]),⟨by simp only;omega,htk.symm⟩,by simp only;omega,?_⟩;simp only;clear hxs htk htl;refine bH.dW ?_ ?_ ?_ ?_ <;>simp[*,cG,dF,cW,cY,az,cD,ez,I.only,I.cv,aq.only,ic,qZ,cJ]
  ·have hge:i=(cu s.bD).length:=by omega
   have hc:=hE hlt;have htk:xs=mW s:=by rw[hxs];exact List.take_of_length_le (by omega)
   rw[←htk];have R:=y6 @hc (y6 @M8 (y6 @dY (y6 @ca (y6 @bl (y6 @bU (y6 @bw (y6 @bq aC)))))))
   repeat' ((first |refine ae.aE (by decide +kernel) rfl fun K hK =>?_|(refine .av [0,1,2,3,4,5,6,8,15,18,19,20,21] hK ?_;clear hK K)|(with_reducible refine .done (hK _ ?_);clear hK K)|refine ae.of rfl ?_|(with_reducible refine aA.aD (fun h =>?_) (fun h =>?_) <;>try simp only[h])) <;>try simp only[aF,R,simprocAttr])
   all_goals clear R
theorem uH(a b:Int):(dK [.int .i64 0,.int .i64 0] [(0,.int .i64 a),(1,.int .i64 b)]).map I.agg=some (.agg [.int .i64 a,.int .i64 b]):=by simp[dK,I.bT,I.size]
instance:Enc aG where
 enc s:=dz s
 sz:=1
 aX:=.one
 gG:=false
 done s:=by simp only[dz,I.done,Av]
 size _:=rfl
 iq _:=rfl
 agg _:=rfl
theorem MF(s:aG):(enc s:I)=dz s:=rfl
def h0(l:List bx)(i:Nat):bx:=l.getD i default
theorem wV{l:List bx}{i:Nat}(h:i<l.length):l[i]=h0 l i:=by simp[h0,zz0,h]
def iE(l:List bx)(i:Nat):Bool:=(da (h0 l i)).isSome&&(i==0||decide ((h0 l (i-1)).aw<(h0 l i).aw))
def sc(l:List bx):Bool:=(List.range l.length).all (iE l)
def nj(l:List bx):List aG:=l.filterMap da
def kd(l:List bx)(b:Int):List aG×Int:=if sc l then (if cK 1 9999 b then (nj l,0) else ([],1)) else ([],96)
theorem CP{p:bx}(h:(da p).isSome=true):0≤p.aw∧p.aw≤5:=by
 obtain ⟨s,ab⟩:=zy8.1 h;have h5:=(ij ab).2.2.2.2.1;simp only[iN,cK,t8,decide_eq_true_eq] at h5;exact h5.1
theorem WJ{l:List bx}{n:Nat}(h:∀ j,j<n→iE l j=true):∀ j,j<n→(j:Int)≤(h0 l j).aw:=by
 intro j
 induction j with
 |zero =>
  intro hj;have aY:=h 0 hj;simp only[iE,t8] at aY;exact (CP aY.1).1
 |succ j ih =>
  intro hj;have J:=ih (by omega);have U:=h (j+1) hj;simp only[iE,t8,Bool.or_eq_true,beq_iff_eq,decide_eq_true_eq] at U;rcases U.2 with ah | ah
  ·omega
  ·have:j+1-1=j:=rfl;rw[this] at ah;omega
theorem BH{l:List bx}{n:Nat}(h:∀ j,j<n→iE l j=true):n≤6:=by
 rcases Nat.lt_or_ge 6 n with hn | hn
 ·have J:=WJ h 6 hn;have U:=h 6 hn;simp only[iE,t8] at U;have:=(CP U.1).2;omega
 ·exact hn
theorem Z0{l:List bx}{i:Nat}(h:i<l.length):nj (l.take (i+1))=nj (l.take i)++(match da (h0 l i) with | some s=>[s] | none=>[]):=by
 rw[zy7 h,wV h];simp only[nj,List.filterMap_append,List.filterMap_cons,List.filterMap_nil];cases da (h0 l i) <;>rfl
theorem Fl(l:List bx):(nj l).length≤l.length:=List.length_filterMap_le _ _
theorem AZ{xs:List aG} : kU xs.length (some (.b5 80 1 (xs.map enc)))=some (enc xs):=qn 1 rfl rfl
def uy(l:List bx)(b:Int)(t:Nat×List aG):ai :=
 au [(0,enc l),(1,.int .i64 b),(6,.own 905 t.2.length),(11,enc l),(12,.int .i64 l.length),(13,.int .i64 t.1)] [(905,.b5 80 1 (t.2.map enc))]
theorem GF(l:List bx)(b:Int):bf Tryz.prog 83 [enc l,enc b] (.tuple [enc (kd l b).1,enc (kd l b).2]):=by
 refine bf.bZ Tryz.func83 I0 J4 Lq (u8 rfl) (fun hwf W0 bF E1 =>?_);simp only[zE,Ep,bJ,zz1];have hlen:l.length≤maxLen:=((nk l).1 hwf.1).1;simp only[maxLen] at hlen;clear hwf;have R:=y6 @ca (y6 @bl (y6 @bU (y6 @bw (y6 @bq aC))))
 repeat' ((first |(with_reducible refine .guard (fun hb =>?_) (fun hb =>?_) <;>try simp only[hb])|refine ae.aE (by decide +kernel) rfl fun K hK =>?_|(refine .av [0,1,4,5,6,7,8,9,10,11,12,13,14,39,47] hK ?_;clear hK K)|(with_reducible refine .done (hK _ ?_);clear hK K)|refine ae.of rfl ?_|(with_reducible refine aA.aD (fun h =>?_) (fun h =>?_) <;>try simp only[h])) <;>try simp only[aF,R,simprocAttr])
 all_goals clear R
 refine ae.loop (uy l b) (fun t=>t.1≤l.length∧(∀ j,j<t.1→iE l j=true)∧t.2=nj (l.take t.1)) (fun t=>l.length-t.1) (0,[]) ⟨zw8 _,by simp,rfl⟩ ?_ ?_
 ·refine bH.sa 6 905 80 1 1 rfl rfl ?_;simp only[uy];refine bH.dW ?_ ?_ ?_ ?_ <;>simp[cG,dF,cW,cY,az,cD,ez,I.only,I.cv,aq.only,cJ]
  all_goals rfl
 rintro ⟨i,xs⟩ ⟨hi,hg,hxs⟩;simp only at hi hg hxs;have hi6:=BH hg;have hxl:xs.length≤i:=by
  rw[hxs];refine zv0 (Fl _) ?_;rw[zx7];omega
 simp only[uy];by_cases hlt:i<l.length
 ·have hc:=gV hlt;have he:=fun A=>fh (A:=A) 3 hlt rfl;rw[wV hlt] at he;have hw:=gZ (i:=i) (by omega);have hF:=nl (h0 l i);have hbad:iE l i=false→kd l b=([],96):=fun h=>by
   have:sc l=false:=by
    simp only[sc,List.all_eq_false];exact ⟨i,zw7.2 hlt,by simp[h]⟩
   simp[kd,this]
  cases ho:da (h0 l i) with
  |none =>
   rw[ho] at hF;simp only[iP] at hF;rw[hbad (by simp[iE,ho])];have R:=y6 @hc (y6 @he (y6 @ca (y6 @bl (y6 @bU (y6 @bw (y6 @bq aC))))))
   repeat' ((first |(with_reducible refine .guard (fun hb =>?_) (fun hb =>?_) <;>try simp only[hb])|refine ae.aE (by decide +kernel) rfl fun K hK =>?_|refine .lead _ (hF) ?_|(refine .av [0,1,4,5,6,7,8,9,10,11,12,13,14,39,47] hK ?_;clear hK K)|(with_reducible refine .done (hK _ ?_);clear hK K)|refine ae.of rfl ?_|(with_reducible refine aA.aD (fun h =>?_) (fun h =>?_) <;>try simp only[h])) <;>try simp only[aF,R,simprocAttr])
   all_goals clear R
   rfl
  |some s =>
   rw[ho] at hF;simp only[iP] at hF;have hbs:fA 1 (some [dz s])=some (enc [s]):=jf 1 s rfl;have hap:=fun (A:ai) d rest=>p7 (A:=A) (d:=d) 80 1 8 905 (l:=xs.length) (es:=xs) (ys:=[s]) (rest:=rest) rfl rfl (by simp) (by simp[maxLen];omega) (by simp;omega);have hst:nj (l.take (i+1))=xs++[s]:=by rw[Z0 hlt,ho,hxs]
   have hso:∀ p,(dz s).only p=true:=fun p=>kr p _ (oo s);by_cases aY:i=0
   ·have hz:decide ((i:Int)>0)=false:=by simp;omega
    have hgi:iE l i=true:=by simp only[iE,ho];simp[aY]
    have R:=y6 @hc (y6 @he (y6 @hz (y6 @hw (y6 @hbs (y6 @hap (y6 @ca (y6 @dY (y6 @bl (y6 @bU (y6 @bw (y6 @bq aC)))))))))))
    repeat' ((first |(with_reducible refine .guard (fun hb =>?_) (fun hb =>?_) <;>try simp only[hb])|refine ae.aE (by decide +kernel) rfl fun K hK =>?_|refine .lead _ (hF) ?_|(refine .av [0,1,4,5,6,7,8,9,10,11,12,13,14,39,47] hK ?_;clear hK K)|(with_reducible refine .done (hK _ ?_);clear hK K)|refine ae.of rfl ?_|(with_reducible refine aA.aD (fun h =>?_) (fun h =>?_) <;>try simp only[h])) <;>try simp only[aF,R,simprocAttr])
    all_goals clear R
    refine ⟨(i+1,xs++[s]),⟨by simp only;omega,fun j hj =>?_,hst.symm⟩,by simp only;omega,?_⟩
    ·by_cases e:j=i
     ·rw[e];exact hgi
     ·exact hg j (by simp only at hj;omega)
    ·simp only;clear hxs hst;refine bH.dW ?_ ?_ ?_ ?_ <;>simp[*,cG,dF,cW,cY,az,cD,ez,I.only,I.cv,aq.only,ic,qZ,cJ]
   ·have hz:decide ((i:Int)>0)=true:=by simp;omega
    have hw1:IntKind.i64.wrap ((i:Int)-1)=((i-1:Nat):Int):=by rw[lA _ (by omega) (by omega)];omega
    have he1:∀ A,jW A 3 ((i-1:Nat):Int) (enc l)=some (.ref (enc (h0 l (i-1)))):=fun A=>by
     have hlt1:i-1<l.length:=by omega
     have:=fh (A:=A) 3 hlt1 rfl;rw[wV hlt1] at this;exact this
    rcases q:decide ((h0 l (i-1)).aw≥(h0 l i).aw)
    ·have hgi:iE l i=true:=by
      have:(h0 l (i-1)).aw<(h0 l i).aw:=by have:=of_decide_eq_false q;omega
      simp[iE,ho,this]
     have R:=y6 @hc (y6 @he (y6 @hz (y6 @hw1 (y6 @he1 (y6 @q (y6 @hw (y6 @hbs (y6 @hap (y6 @ca (y6 @dY (y6 @bl (y6 @bU (y6 @bw (y6 @bq aC))))))))))))))
     repeat' ((first |(with_reducible refine .guard (fun hb =>?_) (fun hb =>?_) <;>try simp only[hb])|refine ae.aE (by decide +kernel) rfl fun K hK =>?_|refine .lead _ (hF) ?_|(refine .av [0,1,4,5,6,7,8,9,10,11,12,13,14,39,47] hK ?_;clear hK K)|(with_reducible refine .done (hK _ ?_);clear hK K)|refine ae.of rfl ?_|(with_reducible refine aA.aD (fun h =>?_) (fun h =>?_) <;>try simp only[h])) <;>try simp only[aF,R,simprocAttr])
     all_goals clear R
     refine ⟨(i+1,xs++[s]),⟨by simp only;omega,fun j hj =>?_,hst.symm⟩,by simp only;omega,?_⟩
     ·by_cases e:j=i
      ·rw[e];exact hgi
      ·exact hg j (by simp only at hj;omega)
     ·simp only;clear hxs hst;refine bH.dW ?_ ?_ ?_ ?_ <;>simp[*,cG,dF,cW,cY,az,cD,ez,I.only,I.cv,aq.only,ic,qZ,cJ]
    ·have hgi:iE l i=false:=by
      have:¬ (h0 l (i-1)).aw<(h0 l i).aw:=by have:=of_decide_eq_true q;omega
      simp[iE,this,aY]
     rw[hbad hgi];have R:=y6 @hc (y6 @he (y6 @hz (y6 @hw1 (y6 @he1 (y6 @q (y6 @hw (y6 @hbs (y6 @hap (y6 @ca (y6 @dY (y6 @bl (y6 @bU (y6 @bw (y6 @bq aC))))))))))))))
     repeat' ((first |(with_reducible refine .guard (fun hb =>?_) (fun hb =>?_) <;>try simp only[hb])|refine ae.aE (by decide +kernel) rfl fun K hK =>?_|refine .lead _ (hF) ?_|(refine .av [0,1,4,5,6,7,8,9,10,11,12,13,14,39,47] hK ?_;clear hK K)|(with_reducible refine .done (hK _ ?_);clear hK K)|refine ae.of rfl ?_|(with_reducible refine aA.aD (fun h =>?_) (fun h =>?_) <;>try simp only[h])) <;>try simp only[aF,R,simprocAttr])
     all_goals clear R
     rfl
 ·have hge:i=l.length:=by omega
  have hc:=hE hlt;have hx2:xs=nj l:=by rw[hxs,hge,List.take_length]
  have hgood:sc l=true:=zx0.2 fun j hj=>hg j (by have:=zw7.1 hj;omega);have hB:=oC b;simp only[kd,hgood,if_true,←hx2];rw[hge];rw[hge] at hc;rcases q:cK 1 9999 b
  ·rw[q] at hB;have R:=y6 @hc (y6 @AZ (y6 @ca (y6 @bl (y6 @bU (y6 @bw (y6 @bq aC))))))
   repeat' ((first |(with_reducible refine .guard (fun hb =>?_) (fun hb =>?_) <;>try simp only[hb])|refine ae.aE (by decide +kernel) rfl fun K hK =>?_|refine .flat _ (hB) rfl ?_|(refine .av [0,1,4,5,6,7,8,9,10,11,12,13,14,39,47] hK ?_;clear hK K)|(with_reducible refine .done (hK _ ?_);clear hK K)|refine ae.of rfl ?_|(with_reducible refine aA.aD (fun h =>?_) (fun h =>?_) <;>try simp only[h])) <;>try simp only[aF,R,simprocAttr])
   all_goals clear R
   rfl
  ·rw[q] at hB;have R:=y6 @hc (y6 @AZ (y6 @ca (y6 @bl (y6 @bU (y6 @bw (y6 @bq aC))))))
   repeat' ((first |(with_reducible refine .guard (fun hb =>?_) (fun hb =>?_) <;>try simp only[hb])|refine ae.aE (by decide +kernel) rfl fun K hK =>?_|refine .flat _ (hB) rfl ?_|(refine .av [0,1,4,5,6,7,8,9,10,11,12,13,14,39,47] hK ?_;clear hK K)|(with_reducible refine .done (hK _ ?_);clear hK K)|refine ae.of rfl ?_|(with_reducible refine aA.aD (fun h =>?_) (fun h =>?_) <;>try simp only[h])) <;>try simp only[aF,R,simprocAttr])
   all_goals clear R
def tZ(l:List bx)(b:Int):List Int×Int:=(((kd l b).1.filter fun s=>decide (b∈s.here)).map (·.aw),(kd l b).2)
theorem G0(l:List bx)(b:Int):(kd l b).1.length≤6:=by
 simp only[kd];split
 ·rename_i hg;split
  ·have J:=BH (l:=l) (n:=l.length) fun j hj=>zx0.1 hg j (zw7.2 hj);exact zv0 (Fl l) J
  ·simp
 ·simp
def pQ(all:List aG)(b:Int):List Int:=(all.filter fun s=>decide (b∈s.here)).map (·.aw)
theorem aaf(all:List aG)(b:Int){i:Nat}(h:i<all.length):pQ (all.take (i+1)) b=pQ (all.take i) b++if b∈all[i].here then [all[i].aw] else []:=by
 rw[zy7 h];simp only[pQ,List.filter_append,zy5,List.filter_cons,List.filter_nil,decide_eq_true_eq]
 congr 1
 split <;>rfl
def uv(all:List aG)(e b:Int)(t:Nat×List Int):ai :=
 au [(1,.int .i64 b),(7,.int .i64 e),(8,.own 905 t.2.length),(17,enc all),(18,.int .i64 all.length),(19,.int .i64 t.1)] [(905,.b5 3 1 (t.2.map enc))]
theorem AX{xs:List Int} : kU xs.length (some (.b5 3 1 (xs.map enc)))=some (enc xs):=qn 1 rfl rfl
theorem Gd(l:List bx)(b:Int):bf Tryz.prog 37 [enc l,enc b] (.tuple [enc (tZ l b).1,enc (tZ l b).2]):=by
 refine bf.bZ Tryz.func37 Iy JF K0 (u8 rfl) (fun hwf W0 bF E1 =>?_);simp only[zd,DV,bJ,zz1];clear hwf;have hF:=GF l b;have hal:=G0 l b;simp only[tZ];generalize (kd l b).1=all at *;generalize (kd l b).2=e at *;have R:=y6 @ca (y6 @bl (y6 @bU (y6 @bw (y6 @bq aC))))
 repeat' ((first |refine ae.aE (by decide +kernel) rfl fun K hK =>?_|refine .lead _ (hF) ?_|(refine .av [0,1,4,5,6,7,8,10,17,18,19,20,28] hK ?_;clear hK K)|(with_reducible refine .done (hK _ ?_);clear hK K)|refine ae.of rfl ?_|(with_reducible refine aA.aD (fun h =>?_) (fun h =>?_) <;>try simp only[h])) <;>try simp only[aF,R,simprocAttr])
 all_goals clear R
 refine ae.loop (uv all e b) (fun t=>t.1≤all.length∧t.2=pQ (all.take t.1) b) (fun t=>all.length-t.1) (0,[]) ⟨zw8 _,rfl⟩ ?_ ?_
 ·refine bH.sa 8 905 3 1 1 rfl rfl ?_;simp only[uv];refine bH.dW ?_ ?_ ?_ ?_ <;>simp[cG,dF,cW,cY,az,cD,ez,I.only,I.cv,aq.only,cJ]
  all_goals rfl
 rintro ⟨i,xs⟩ ⟨hi,hxs⟩;simp only at hi hxs;have hxl:xs.length≤i:=by
  rw[hxs,pQ,zz8];refine zv0 (List.length_filter_le _ _) ?_;rw[zx7];omega
 simp only[uv];by_cases hlt:i<all.length
 ·have hc:=gV hlt;have he:=fun A=>fh (A:=A) 1 hlt rfl;have hw:=gZ (i:=i) (by omega);have hsn:=aaf all b hlt;rw[←hxs] at hsn;obtain ⟨s,ab⟩:∃ s,s=all[i]:=⟨_,rfl⟩
  rw[←ab] at he hsn;simp only[MF] at he;have hlk:=fW eN b s.here;rw[eF] at hlk;have hbs:fA 1 (some [.int .i64 s.aw])=some (enc [s.aw]):=jf 1 s.aw rfl;have hap:=fun (A:ai) d rest=>p7 (A:=A) (d:=d) 3 1 8 905 (l:=xs.length) (es:=xs) (ys:=[s.aw]) (rest:=rest) rfl rfl (by simp) (by simp[maxLen];omega) (by simp;omega);rcases q:decide (b∈s.here)
  ·have bG:b∉s.here:=of_decide_eq_false q;rw[if_neg bG,List.append_nil] at hsn;have R:=y6 @hc (y6 @he (y6 @hw (y6 @hlk (y6 @q (y6 @dY (y6 @ca (y6 @bl (y6 @bU (y6 @bw (y6 @bq aC))))))))))
   repeat' ((first |refine ae.aE (by decide +kernel) rfl fun K hK =>?_|(refine .av [0,1,4,5,6,7,8,10,17,18,19,20,28] hK ?_;clear hK K)|(with_reducible refine .done (hK _ ?_);clear hK K)|refine ae.of rfl ?_|(with_reducible refine aA.aD (fun h =>?_) (fun h =>?_) <;>try simp only[h])) <;>try simp only[aF,R,simprocAttr])
   all_goals clear R
   refine ⟨(i+1,xs),⟨by simp only;omega,hsn.symm⟩,by simp only;omega,?_⟩;simp only;clear hxs hsn;refine bH.dW ?_ ?_ ?_ ?_ <;>simp[cG,dF,cW,cY,az,cD,ez,I.only,aq.only,ic,cJ]
  ·have bG:b∈s.here:=of_decide_eq_true q;rw[if_pos bG] at hsn;have R:=y6 @hc (y6 @he (y6 @hw (y6 @hlk (y6 @q (y6 @hbs (y6 @hap (y6 @dY (y6 @ca (y6 @bl (y6 @bU (y6 @bw (y6 @bq aC))))))))))))
   repeat' ((first |refine ae.aE (by decide +kernel) rfl fun K hK =>?_|(refine .av [0,1,4,5,6,7,8,10,17,18,19,20,28] hK ?_;clear hK K)|(with_reducible refine .done (hK _ ?_);clear hK K)|refine ae.of rfl ?_|(with_reducible refine aA.aD (fun h =>?_) (fun h =>?_) <;>try simp only[h])) <;>try simp only[aF,R,simprocAttr])
   all_goals clear R
   refine ⟨(i+1,xs++[s.aw]),⟨by simp only;omega,hsn.symm⟩,by simp only;omega,?_⟩;simp only;clear hxs hsn;refine bH.dW ?_ ?_ ?_ ?_ <;>simp[cG,dF,cW,cY,az,cD,ez,I.only,I.cv,aq.only,ic,qZ,cJ,eF]
 ·have hge:i=all.length:=by omega
  have hc:=hE hlt;have hx2:xs=pQ all b:=by rw[hxs,hge,List.take_length]
  rw[show ((all.filter fun s=>decide (b∈s.here)).map (·.aw))=xs from hx2.symm];have R:=y6 @hc (y6 @AX (y6 @ca (y6 @bl (y6 @bU (y6 @bw (y6 @bq aC))))))
  repeat' ((first |refine ae.aE (by decide +kernel) rfl fun K hK =>?_|(refine .av [0,1,4,5,6,7,8,10,17,18,19,20,28] hK ?_;clear hK K)|(with_reducible refine .done (hK _ ?_);clear hK K)|refine ae.of rfl ?_|(with_reducible refine aA.aD (fun h =>?_) (fun h =>?_) <;>try simp only[h])) <;>try simp only[aF,R,simprocAttr])
  all_goals clear R
structure gn where
 kind:Int
 c6:Int
 no:Int
 aK:Int
 deriving DecidableEq,Inhabited
instance:Enc gn where
 enc g:=.agg [.int .i64 g.kind,.int .i64 g.c6,.int .i64 g.no,.int .i64 g.aK]
 sz:=4
 aX:=.eH [.one,.one,.one,.one]
 gG:=true
 done g:=by simp only[I.done,I.hd,Bool.and_self]
 size g:=by simp only[I.size,I.sizes]
 iq g:=by simp only[I.aX,I.cT]
 agg _:=rfl
structure cm where
 aw:Int
 here:List Int
 du:Int
 bz:List cZ
 bp:List gn
 deriving Inhabited
def gz(a:Int)(h:I)(s:Int)(r e:I):I:=.agg [.int .i64 a,h,.int .i64 s,r,e]
instance:Enc cm where
 enc g:=gz g.aw (enc g.here) g.du (enc g.bz) (enc g.bp)
 sz:=5
 aX:=.eH [.one,.one,.one,.one,.one]
 gG:=true
 done g:=by simp only[gz,I.done,I.hd,Enc.done,Bool.and_self]
 size g:=by simp only[gz,I.size,I.sizes,jT,jz]
 iq g:=by simp only[gz,I.aX,I.cT,eJ,mA]
 agg _:=rfl
theorem cq:(∀ g:cm,(enc g).dI=some [.int .i64 g.aw,enc g.here,.int .i64 g.du,enc g.bz,enc g.bp])∧(∀ a h s r e,(gz a h s r e).dI=some [.int .i64 a,h,.int .i64 s,r,e])∧(∀ g:gn,(enc g).dI=some [.int .i64 g.kind,.int .i64 g.c6,.int .i64 g.no,.int .i64 g.aK]) ∧
  (∀ g:cm,b6 (some 5) (enc g)=true)∧(∀ g:gn,b6 (some 4) (enc g)=true)∧(∀ g:List Int,b6 none (enc g)=true)∧(∀ g:List cZ,b6 none (enc g)=true)∧(∀ g:List gn,b6 none (enc g)=true) ∧
  (∀ (a b:Int) (h:List Int) (r:List cZ) (e:List gn) v,c9 [.int .i64 a,enc h,.int .i64 b,enc r,enc e] 0 0 v=some v)∧(∀ (a b:Int) (h:List Int) (r:List cZ) (e:List gn) v,c9 [.int .i64 a,enc h,.int .i64 b,enc r,enc e] 1 1 v=some v)∧(∀ (a b:Int) (h:List Int) (r:List cZ) (e:List gn) v,c9 [.int .i64 a,enc h,.int .i64 b,enc r,enc e] 2 2 v=some v) ∧
  (∀ (a b:Int) (h:List Int) (r:List cZ) (e:List gn) v,c9 [.int .i64 a,enc h,.int .i64 b,enc r,enc e] 3 3 v=some v)∧(∀ (a b:Int) (h:List Int) (r:List cZ) (e:List gn) v,c9 [.int .i64 a,enc h,.int .i64 b,enc r,enc e] 4 4 v=some v) ∧
  (∀ A n b rest (q:cm) x y,df A (some 5) n [] b (enc q) rest (some (.agg [.int .i64 x,.nils 1,.int .i64 y,.nils 4,.nils 4]))=aB rest (A.aV n (.box (enc q))))∧(∀ A n b rest (q r:cm),df A (some 5) n [] b (enc q) rest (some (enc r))=aB rest (A.aV n (.box (enc q)))) ∧
  (∀ A n b rest (q:cZ) x y z w,df A (some 4) n [] b (enc q) rest (some (.agg [.int .i64 x,.int .i64 y,.int .i64 z,.bool w]))=aB rest (A.aV n (.box (enc q))))∧(∀ A n b rest (q:gn) x y z w,df A (some 4) n [] b (enc q) rest (some (.agg [.int .i64 x,.int .i64 y,.int .i64 z,.int .i64 w]))=aB rest (A.aV n (.box (enc q)))) ∧
  (∀ (A:ai) n (q:cm) (l k:List Int) rest,df A none n [1] (enc q) (enc l) rest (some (enc k))=aB rest (A.aV n (.box (enc ({ q with here:=l } : cm)))))∧(∀ (A:ai) n (q:cm) (v u:Int) rest,df A none n [2] (enc q) (.int .i64 v) rest (some (.int .i64 u))=aB rest (A.aV n (.box (enc ({ q with du:=v } : cm))))) :=
 ⟨fun _=>rfl,fun _ _ _ _ _=>rfl,fun _=>rfl,fun _=>by rw[fg];rfl,fun _=>by rw[fg];rfl,fun _=>by simp[kj,ki],fun _=>by simp[kj,ki],fun _=>by simp[kj,ki],
  fun _ _ _ _ _ _=>iM (by simp) rfl,fun _ _ _ _ _ _=>iM (by simp) rfl,fun _ _ _ _ _ _=>iM (by simp) (by simp[I.sizes,I.size,jT,jz]),fun _ _ _ _ _ _=>iM (by simp) (by simp[I.sizes,I.size,jT,jz]),fun _ _ _ _ _ _=>iM (by simp) (by simp[I.sizes,I.size,jT,jz]),
  fun A n b rest q x y=>dE (er _) (by rw[fg];rfl) (eJ _),fun A n b rest q r=>dE (er _) (by rw[fg];rfl) ((eJ _).trans (eJ _).symm),fun A n b rest q x y z w=>dE (er _) (by rw[fg];rfl) (eJ _),fun A n b rest q x y z w=>dE (er _) (by rw[fg];rfl) (eJ _),
  fun A n q l k rest=>dE (er _) (by simp[kj,ki]) rfl,fun A n q v u rest=>dE rfl rfl rfl⟩
theorem x1(l:List Int)(n:Int):bf Tryz.prog 78 [enc l,enc n] (enc (decide (n∈l))):=by
 refine bf.bZ Tryz.func78 IV J0 Ll (u8 rfl) (fun hwf W0 bF E1 =>?_);simp only[zA,El,bJ,zz1];have hlen:l.length≤maxLen:=((nk l).1 hwf.1).1;simp only[maxLen] at hlen;clear hwf;have R:=y6 @bl aC
 repeat' ((first |refine ae.aE (by decide +kernel) rfl fun K hK =>?_|(refine .av [0,1,4,6,7,8,9,10,15] hK ?_;clear hK K)|(with_reducible refine .done (hK _ ?_);clear hK K)|refine ae.of rfl ?_|(with_reducible refine aA.aD (fun h =>?_) (fun h =>?_) <;>try simp only[h])) <;>try simp only[aF,R,simprocAttr])
 all_goals clear R
 refine ae.loop (fun i:Nat=>au [(1,.int .i64 n),(7,enc l),(8,.int .i64 l.length),(9,.int .i64 i)] []) (fun i=>i≤l.length∧n∉l.take i) (fun i=>l.length-i) 0 ⟨zw8 _,by simp⟩ ?_ (fun i hi =>?_)
 ·refine bH.dW ?_ ?_ ?_ ?_ <;>simp[cG,dF,cW,cY,cD,I.only,cJ]
 obtain ⟨hi1,hi2⟩:=hi;by_cases hlt:i<l.length
 ·have hc:=gV hlt;have he:=fun A=>fh (A:=A) 1 hlt rfl;have hw:=gZ (i:=i) (by omega);rcases hp:(l[i]==n)
  ·have R:=y6 @hc (y6 @he (y6 @hp (y6 @hw aC)))
   repeat' ((first |refine ae.aE (by decide +kernel) rfl fun K hK =>?_|(refine .av [0,1,4,6,7,8,9,10,15] hK ?_;clear hK K)|(with_reducible refine .done (hK _ ?_);clear hK K)|refine ae.of rfl ?_|(with_reducible refine aA.aD (fun h =>?_) (fun h =>?_) <;>try simp only[h])) <;>try simp only[aF,R,simprocAttr])
   all_goals clear R
   refine ⟨i+1,⟨by omega,?_⟩,by omega,?_⟩
   ·rw[zy7 hlt];have:¬ l[i]=n:=by simpa using hp
    simp only[zx6,zx4];exact fun h=>h.elim hi2 fun e=>this e.symm
   ·refine bH.dW ?_ ?_ ?_ ?_ <;>simp[cG,dF,cW,cY,cD,I.only,cJ]
  ·have hm:n∈l:=by
    have:l[i]=n:=by simpa using hp
    rw[←this];exact List.getElem_mem hlt
   have R:=y6 @hc (y6 @he (y6 @hp aC))
   repeat' ((first |refine ae.aE (by decide +kernel) rfl fun K hK =>?_|(refine .av [0,1,4,6,7,8,9,10,15] hK ?_;clear hK K)|(with_reducible refine .done (hK _ ?_);clear hK K)|refine ae.of rfl ?_|(with_reducible refine aA.aD (fun h =>?_) (fun h =>?_) <;>try simp only[h])) <;>try simp only[aF,R,simprocAttr])
   all_goals clear R
   simp[hm]
 ·have hc:=hE hlt;have hge:i=l.length:=by omega
  have R:=y6 @hc aC
  repeat' ((first |refine ae.aE (by decide +kernel) rfl fun K hK =>?_|(refine .av [0,1,4,6,7,8,9,10,15] hK ?_;clear hK K)|(with_reducible refine .done (hK _ ?_);clear hK K)|refine ae.of rfl ?_|(with_reducible refine aA.aD (fun h =>?_) (fun h =>?_) <;>try simp only[h])) <;>try simp only[aF,R,simprocAttr])
  all_goals clear R
  rw[hge,List.take_length] at hi2;simp[hi2]
def iy(s:cm)(b:Int):Bool:=s.bz.any fun r=>decide (r.aK=b)
theorem ug(s:cm)(b:Int)(hlen:s.bz.length≤1000):bf Tryz.prog 108 [enc s,enc b] (enc (iy s b)):=by
 refine bf.bZ Tryz.func108 H5 Jf Kq (u8 rfl) (fun hwf W0 bF E1 =>?_);simp only[yH,Dj,bJ,zz1];clear hwf;have R:=y6 @cq (y6 @bl aC)
 repeat' ((first |refine ae.aE (by decide +kernel) rfl fun K hK =>?_|(refine .av [0,1,2,4,6,8,9,10,11,17] hK ?_;clear hK K)|(with_reducible refine .done (hK _ ?_);clear hK K)|refine ae.of rfl ?_|(with_reducible refine aA.aD (fun h =>?_) (fun h =>?_) <;>try simp only[h])) <;>try simp only[aF,R,simprocAttr])
 all_goals clear R
 refine ae.loop (fun i:Nat=>au [(1,.int .i64 b),(2,.ptr 2 []),(8,enc s.bz),(9,.int .i64 s.bz.length),(10,.int .i64 i)] [(2,.box (enc s))]) (fun i=>i≤s.bz.length∧((s.bz.take i).any fun r=>decide (r.aK=b))=false) (fun i=>s.bz.length-i) 0 ⟨zw8 _,by simp⟩ ?_ (fun i hi =>?_)
 ·refine bH.dW ?_ ?_ ?_ ?_ <;>simp[cG,dF,cW,cY,az,cD,ez,I.only,aq.only,cJ]
 obtain ⟨hi1,hi2⟩:=hi;by_cases hlt:i<s.bz.length
 ·have hc:=gV hlt;have he:=fun A=>fh (A:=A) 4 hlt rfl;have hw:=gZ (i:=i) (by omega);rcases hp:((s.bz[i]).aK==b)
  ·have R:=y6 @hc (y6 @he (y6 @hp (y6 @hw (y6 @cq aC))))
   repeat' ((first |refine ae.aE (by decide +kernel) rfl fun K hK =>?_|(refine .av [0,1,2,4,6,8,9,10,11,17] hK ?_;clear hK K)|(with_reducible refine .done (hK _ ?_);clear hK K)|refine ae.of rfl ?_|(with_reducible refine aA.aD (fun h =>?_) (fun h =>?_) <;>try simp only[h])) <;>try simp only[aF,R,simprocAttr])
   all_goals clear R
   refine ⟨i+1,⟨by omega,?_⟩,by omega,?_⟩
   ·rw[zy7 hlt,List.any_append,hi2];have:¬ (s.bz[i]).aK=b:=by simpa using hp
    simp[this]
   ·refine bH.dW ?_ ?_ ?_ ?_ <;>simp[cG,dF,cW,cY,az,cD,ez,I.only,aq.only,cJ]
  ·have hm:iy s b=true:=by
    have:(s.bz[i]).aK=b:=by simpa using hp
    simp only[iy,List.any_eq_true];exact ⟨s.bz[i],List.getElem_mem hlt,by simp[this]⟩
   rw[hm];have R:=y6 @hc (y6 @he (y6 @hp (y6 @cq aC)))
   repeat' ((first |refine ae.aE (by decide +kernel) rfl fun K hK =>?_|(refine .av [0,1,2,4,6,8,9,10,11,17] hK ?_;clear hK K)|(with_reducible refine .done (hK _ ?_);clear hK K)|refine ae.of rfl ?_|(with_reducible refine aA.aD (fun h =>?_) (fun h =>?_) <;>try simp only[h])) <;>try simp only[aF,R,simprocAttr])
   all_goals clear R
 ·have hc:=hE hlt;have hge:i=s.bz.length:=by omega
  rw[hge,List.take_length] at hi2;rw[show iy s b=false from hi2];have R:=y6 @hc (y6 @cq aC)
  repeat' ((first |refine ae.aE (by decide +kernel) rfl fun K hK =>?_|(refine .av [0,1,2,4,6,8,9,10,11,17] hK ?_;clear hK K)|(with_reducible refine .done (hK _ ?_);clear hK K)|refine ae.of rfl ?_|(with_reducible refine aA.aD (fun h =>?_) (fun h =>?_) <;>try simp only[h])) <;>try simp only[aF,R,simprocAttr])
  all_goals clear R
def jG(s:cm)(no:Int):Option Nat:=s.bz.findIdx? fun r=>decide (r.no=no)
def iS(s:cm)(no:Int):Int:=match jG s no with
 |some i=>(i:Int)
 |none=>-1
theorem x2(s:cm)(no:Int)(hlen:s.bz.length≤1000):bf Tryz.prog 79 [enc s,enc no] (enc (iS s no)):=by
 refine bf.bZ Tryz.func79 IW J1 Lm (u8 rfl) (fun hwf W0 bF E1 =>?_);simp only[zB,Em,bJ,zz1];clear hwf;have R:=y6 @cq (y6 @bl aC)
 repeat' ((first |refine ae.aE (by decide +kernel) rfl fun K hK =>?_|(refine .av [0,1,2,4,5,6,8,9,10,11,18] hK ?_;clear hK K)|(with_reducible refine .done (hK _ ?_);clear hK K)|refine ae.of rfl ?_|(with_reducible refine aA.aD (fun h =>?_) (fun h =>?_) <;>try simp only[h])) <;>try simp only[aF,R,simprocAttr])
 all_goals clear R
 refine ae.loop (fun i:Nat=>au [(1,.int .i64 no),(2,.ptr 2 []),(8,enc s.bz),(9,.int .i64 s.bz.length),(10,.int .i64 i)] [(2,.box (enc s))]) (fun i=>i≤s.bz.length∧∀ k,k<i→∀ h:k<s.bz.length,(s.bz[k]).no≠no) (fun i=>s.bz.length-i) 0 ⟨zw8 _,fun k h=>by omega⟩ ?_ (fun i hi =>?_)
 ·refine bH.dW ?_ ?_ ?_ ?_ <;>simp[cG,dF,cW,cY,az,cD,ez,I.only,aq.only,cJ]
 obtain ⟨hi1,hi2⟩:=hi;by_cases hlt:i<s.bz.length
 ·have hc:=gV hlt;have he:=fun A=>fh (A:=A) 4 hlt rfl;have hw:=gZ (i:=i) (by omega);rcases hp:((s.bz[i]).no==no)
  ·have R:=y6 @hc (y6 @he (y6 @hp (y6 @hw (y6 @cq aC))))
   repeat' ((first |refine ae.aE (by decide +kernel) rfl fun K hK =>?_|(refine .av [0,1,2,4,5,6,8,9,10,11,18] hK ?_;clear hK K)|(with_reducible refine .done (hK _ ?_);clear hK K)|refine ae.of rfl ?_|(with_reducible refine aA.aD (fun h =>?_) (fun h =>?_) <;>try simp only[h])) <;>try simp only[aF,R,simprocAttr])
   all_goals clear R
   refine ⟨i+1,⟨by omega,fun k hk h =>?_⟩,by omega,?_⟩
   ·by_cases e:k=i
    ·subst e;simpa using hp
    ·exact hi2 k (by omega) h
   ·refine bH.dW ?_ ?_ ?_ ?_ <;>simp[cG,dF,cW,cY,az,cD,ez,I.only,aq.only,cJ]
  ·have hm:jG s no=some i:=by
    refine List.findIdx?_eq_some_iff_getElem.2 ⟨hlt,by simpa using hp,fun j hj =>?_⟩;simpa using hi2 j hj (by omega)
   rw[show iS s no=(i:Int) by simp[iS,hm]];have R:=y6 @hc (y6 @he (y6 @hp (y6 @cq aC)))
   repeat' ((first |refine ae.aE (by decide +kernel) rfl fun K hK =>?_|(refine .av [0,1,2,4,5,6,8,9,10,11,18] hK ?_;clear hK K)|(with_reducible refine .done (hK _ ?_);clear hK K)|refine ae.of rfl ?_|(with_reducible refine aA.aD (fun h =>?_) (fun h =>?_) <;>try simp only[h])) <;>try simp only[aF,R,simprocAttr])
   all_goals clear R
 ·have hc:=hE hlt;have hm:jG s no=none:=by
   refine List.findIdx?_eq_none_iff.2 fun x hx =>?_;obtain ⟨k,hk,rfl⟩:=List.mem_iff_getElem.1 hx;simpa using hi2 k (by omega) hk
  rw[show iS s no=-1 by simp[iS,hm]];have R:=y6 @hc (y6 @cq aC)
  repeat' ((first |refine ae.aE (by decide +kernel) rfl fun K hK =>?_|(refine .av [0,1,2,4,5,6,8,9,10,11,18] hK ?_;clear hK K)|(with_reducible refine .done (hK _ ?_);clear hK K)|refine ae.of rfl ?_|(with_reducible refine aA.aD (fun h =>?_) (fun h =>?_) <;>try simp only[h])) <;>try simp only[aF,R,simprocAttr])
  all_goals clear R
def jk(s:cm)(c6 no:Int):Int:=match s.bp.find? fun x=>decide (x.c6=c6∧x.no=no) with
 |some x=>x.kind
 |none=>0
theorem x4(s:cm)(c6 no:Int)(hlen:s.bp.length≤1000):bf Tryz.prog 88 [enc s,enc c6,enc no] (enc (jk s c6 no)):=by
 refine bf.bZ Tryz.func88 I2 J6 Ls (u8 rfl) (fun hwf W0 bF E1 =>?_);simp only[zG,Es,bJ,zz1,Nat.reduceAdd];clear hwf;have R:=y6 @cq (y6 @bl aC)
 repeat' ((first |(with_reducible refine .guard (fun hb =>?_) (fun hb =>?_) <;>try simp only[hb])|refine ae.aE (by decide +kernel) rfl fun K hK =>?_|(refine .av [0,1,2,3,6,8,10,11,12,13,25] hK ?_;clear hK K)|(with_reducible refine .done (hK _ ?_);clear hK K)|refine ae.of rfl ?_|(with_reducible refine aA.aD (fun h =>?_) (fun h =>?_) <;>try simp only[h])) <;>try simp only[aF,R,simprocAttr])
 all_goals clear R
 refine ae.loop (fun i:Nat=>au [(1,.int .i64 c6),(2,.int .i64 no),(3,.ptr 3 []),(10,enc s.bp),(11,.int .i64 s.bp.length),(12,.int .i64 i)] [(3,.box (enc s))]) (fun i=>i≤s.bp.length∧((s.bp.take i).find? fun x=>decide (x.c6=c6∧x.no=no))=none) (fun i=>s.bp.length-i) 0 ⟨zw8 _,by simp⟩ ?_ (fun i hi =>?_)
 ·refine bH.dW ?_ ?_ ?_ ?_ <;>simp[cG,dF,cW,cY,az,cD,ez,I.only,aq.only,cJ]
 obtain ⟨hi1,hi2⟩:=hi;by_cases hlt:i<s.bp.length
 ·have hc:=gV hlt;have he:=fun A=>fh (A:=A) 4 hlt rfl;have hw:=gZ (i:=i) (by omega);have hst:(s.bp.take (i+1)).find? (fun x=>decide (x.c6=c6∧x.no=no))=if (s.bp[i]).c6=c6∧(s.bp[i]).no=no then some s.bp[i] else none:=by
   rw[zy7 hlt,List.find?_append,hi2];simp only[Option.none_or,List.find?_cons,List.find?_nil];by_cases h:(s.bp[i]).c6=c6∧(s.bp[i]).no=no
   ·simp[h]
   ·rw[decide_eq_false h,if_neg h]
  rcases hp:((s.bp[i]).c6==c6)
  ·have J:¬ (s.bp[i]).c6=c6:=by simpa using hp
   rw[if_neg (fun h=>J h.1)] at hst;have R:=y6 @hc (y6 @he (y6 @hp (y6 @hw (y6 @cq aC))))
   repeat' ((first |(with_reducible refine .guard (fun hb =>?_) (fun hb =>?_) <;>try simp only[hb])|refine ae.aE (by decide +kernel) rfl fun K hK =>?_|(refine .av [0,1,2,3,6,8,10,11,12,13,25] hK ?_;clear hK K)|(with_reducible refine .done (hK _ ?_);clear hK K)|refine ae.of rfl ?_|(with_reducible refine aA.aD (fun h =>?_) (fun h =>?_) <;>try simp only[h])) <;>try simp only[aF,R,simprocAttr])
   all_goals clear R
   refine ⟨i+1,⟨by omega,hst⟩,by omega,?_⟩;refine bH.dW ?_ ?_ ?_ ?_ <;>simp[cG,dF,cW,cY,az,cD,ez,I.only,aq.only,cJ]
  ·have J:(s.bp[i]).c6=c6:=by simpa using hp
   rcases hp2:((s.bp[i]).no==no)
   ·have U:¬ (s.bp[i]).no=no:=by simpa using hp2
    rw[if_neg (fun h=>U h.2)] at hst;have R:=y6 @hc (y6 @he (y6 @hp (y6 @hp2 (y6 @hw (y6 @cq aC)))))
    repeat' ((first |(with_reducible refine .guard (fun hb =>?_) (fun hb =>?_) <;>try simp only[hb])|refine ae.aE (by decide +kernel) rfl fun K hK =>?_|(refine .av [0,1,2,3,6,8,10,11,12,13,25] hK ?_;clear hK K)|(with_reducible refine .done (hK _ ?_);clear hK K)|refine ae.of rfl ?_|(with_reducible refine aA.aD (fun h =>?_) (fun h =>?_) <;>try simp only[h])) <;>try simp only[aF,R,simprocAttr])
    all_goals clear R
    refine ⟨i+1,⟨by omega,hst⟩,by omega,?_⟩;refine bH.dW ?_ ?_ ?_ ?_ <;>simp[cG,dF,cW,cY,az,cD,ez,I.only,aq.only,cJ]
   ·have U:(s.bp[i]).no=no:=by simpa using hp2
    rw[if_pos ⟨J,U⟩] at hst;have hk:jk s c6 no=(s.bp[i]).kind:=by
     have:s.bp.find? (fun x=>decide (x.c6=c6∧x.no=no))=some s.bp[i]:=by
      have e:=congrArg (List.find? fun x=>decide (x.c6=c6∧x.no=no)) (List.take_append_drop (i+1) s.bp);rw[List.find?_append,hst,Option.some_or] at e;exact e.symm
     simp only[jk,this]
    rw[hk];have R:=y6 @hc (y6 @he (y6 @hp (y6 @hp2 (y6 @cq aC))))
    repeat' ((first |(with_reducible refine .guard (fun hb =>?_) (fun hb =>?_) <;>try simp only[hb])|refine ae.aE (by decide +kernel) rfl fun K hK =>?_|(refine .av [0,1,2,3,6,8,10,11,12,13,25] hK ?_;clear hK K)|(with_reducible refine .done (hK _ ?_);clear hK K)|refine ae.of rfl ?_|(with_reducible refine aA.aD (fun h =>?_) (fun h =>?_) <;>try simp only[h])) <;>try simp only[aF,R,simprocAttr])
    all_goals clear R
 ·have hc:=hE hlt;have hge:i=s.bp.length:=by omega
  rw[hge,List.take_length] at hi2;rw[show jk s c6 no=0 by simp only[jk,hi2]];have R:=y6 @hc (y6 @cq aC)
  repeat' ((first |(with_reducible refine .guard (fun hb =>?_) (fun hb =>?_) <;>try simp only[hb])|refine ae.aE (by decide +kernel) rfl fun K hK =>?_|(refine .av [0,1,2,3,6,8,10,11,12,13,25] hK ?_;clear hK K)|(with_reducible refine .done (hK _ ?_);clear hK K)|refine ae.of rfl ?_|(with_reducible refine aA.aD (fun h =>?_) (fun h =>?_) <;>try simp only[h])) <;>try simp only[aF,R,simprocAttr])
  all_goals clear R
def gU(l:List Int)(n:Int):List Int:=l.filter fun x=>x != n
def uu(l:List Int)(n:Int)(t:Nat×List Int):ai:=au [(1,.int .i64 n),(5,.own 905 t.2.length),(8,enc l),(9,.int .i64 l.length),(10,.int .i64 t.1)] [(905,.b5 3 1 (t.2.map enc))]
theorem xO(l:List Int)(n:Int)(hlen:l.length≤1000):bf Tryz.prog 110 [enc l,enc n] (enc (gU l n)):=by
 refine bf.bZ Tryz.func110 H7 Jh Ks (u8 rfl) (fun hwf W0 bF E1 =>?_);simp only[yJ,Dl,bJ,zz1];clear hwf;have R:=y6 @bl aC
 repeat' ((first |refine ae.aE (by decide +kernel) rfl fun K hK =>?_|(refine .av [0,1,4,5,7,8,9,10,11,16] hK ?_;clear hK K)|(with_reducible refine .done (hK _ ?_);clear hK K)|refine ae.of rfl ?_|(with_reducible refine aA.aD (fun h =>?_) (fun h =>?_) <;>try simp only[h])) <;>try simp only[aF,R,simprocAttr])
 all_goals clear R
 refine ae.loop (uu l n) (fun t=>t.1≤l.length∧t.2=gU (l.take t.1) n) (fun t=>l.length-t.1) (0,[]) ⟨zw8 _,rfl⟩ ?_ ?_
 ·refine bH.sa 5 905 3 1 1 rfl rfl ?_;simp only[uu];refine bH.dW ?_ ?_ ?_ ?_ <;>simp[cG,dF,cW,cY,az,cD,ez,I.only,I.cv,aq.only,cJ]
 rintro ⟨i,xs⟩ ⟨hi,hxs⟩;simp only at hi hxs;have hxl:xs.length≤i:=by
  rw[hxs,gU];refine zv0 (List.length_filter_le _ _) ?_;rw[zx7];omega
 simp only[uu];by_cases hlt:i<l.length
 ·have hc:=gV hlt;have he:=fun A=>fh (A:=A) 1 hlt rfl;have hw:=gZ (i:=i) (by omega);have hsn:gU (l.take (i+1)) n=xs++if l[i] != n then [l[i]] else []:=by
   rw[zy7 hlt,gU,List.filter_append,hxs];simp only[gU,List.filter_cons,List.filter_nil]
  obtain ⟨y,hy⟩:∃ y,y=l[i]:=⟨_,rfl⟩
  rw[←hy] at he hsn;have hbs:fA 1 (some [.int .i64 y])=some (enc [y]):=jf 1 y rfl;have hap:=fun (A:ai) d rest=>p7 (A:=A) (d:=d) 3 1 8 905 (l:=xs.length) (es:=xs) (ys:=[y]) (rest:=rest) rfl rfl (by simp) (by simp[maxLen];omega) (by simp;omega);rcases q:(y != n)
  ·rw[q,if_neg (by decide),List.append_nil] at hsn;have R:=y6 @hc (y6 @he (y6 @hw (y6 @q (y6 @bl aC))))
   repeat' ((first |refine ae.aE (by decide +kernel) rfl fun K hK =>?_|(refine .av [0,1,4,5,7,8,9,10,11,16] hK ?_;clear hK K)|(with_reducible refine .done (hK _ ?_);clear hK K)|refine ae.of rfl ?_|(with_reducible refine aA.aD (fun h =>?_) (fun h =>?_) <;>try simp only[h])) <;>try simp only[aF,R,simprocAttr])
   all_goals clear R
   refine ⟨(i+1,xs),⟨by simp only;omega,hsn.symm⟩,by simp only;omega,?_⟩;simp only;clear hxs hsn;refine bH.dW ?_ ?_ ?_ ?_ <;>simp[cG,dF,cW,cY,az,cD,ez,I.only,aq.only,ic,cJ]
  ·rw[q,if_pos rfl] at hsn;have R:=y6 @hc (y6 @he (y6 @hw (y6 @q (y6 @hbs (y6 @hap (y6 @bl aC))))))
   repeat' ((first |refine ae.aE (by decide +kernel) rfl fun K hK =>?_|(refine .av [0,1,4,5,7,8,9,10,11,16] hK ?_;clear hK K)|(with_reducible refine .done (hK _ ?_);clear hK K)|refine ae.of rfl ?_|(with_reducible refine aA.aD (fun h =>?_) (fun h =>?_) <;>try simp only[h])) <;>try simp only[aF,R,simprocAttr])
   all_goals clear R
   refine ⟨(i+1,xs++[y]),⟨by simp only;omega,hsn.symm⟩,by simp only;omega,?_⟩;simp only;clear hxs hsn;refine bH.dW ?_ ?_ ?_ ?_ <;>simp[cG,dF,cW,cY,az,cD,ez,I.only,I.cv,aq.only,ic,qZ,cJ,eF]
 ·have hge:i=l.length:=by omega
  have hc:=hE hlt;have hx2:xs=gU l n:=by rw[hxs,hge,List.take_length]
  rw[←hx2];have R:=y6 @hc (y6 @AX (y6 @bl aC))
  repeat' ((first |refine ae.aE (by decide +kernel) rfl fun K hK =>?_|(refine .av [0,1,4,5,7,8,9,10,11,16] hK ?_;clear hK K)|(with_reducible refine .done (hK _ ?_);clear hK K)|refine ae.of rfl ?_|(with_reducible refine aA.aD (fun h =>?_) (fun h =>?_) <;>try simp only[h])) <;>try simp only[aF,R,simprocAttr])
  all_goals clear R
section
variable {α:Type} [Enc α] {P:Program} {ab:List FuncId} {Y:Value→List I→List (Nat×aq)→cC→Prop} {K:ai→Prop} {rest:List aH} {d e esz bytes:Nat}
def kG(esz:Nat)(v:I)(os:List (Nat×aq))(l:List α)(S:List Nat):Prop:=(l=[]∧v=.c0 esz)∨∃ n q,n∈S∧v=.view n [] esz 0 l.length∧aj os n=some (.box (.agg ((l++q).map enc)))
theorem Hf{A:ai}{q:Nat}(z:I){l:List α}(hsz:Enc.sz α=esz)(ao:l≠[])(hf:A.o d=none)(hb:l.length*bytes≤140737488355328)(hml:l.length≤maxLen) :
  ∃ p:Nat→Prop,fI A (some d) e esz bytes z (enc l) rest (.c0 q)=.any p fun m=>aB rest ((A.aV d (.box (.agg (l.map enc++List.replicate m z)))).aU (some d) (.view d [] esz 0 l.length)):=by
 have hne:l.map (enc (α:=α))≠[]:=by simpa using ao
 have J:eK A esz (.c0 q)=some []:=rfl;refine ⟨fun m=>l.length+m≤maxLen,?_⟩;simp only[fI,J,ng A esz l hsz,e7,if_neg hne,fU,hf,List.length_nil,zz1,zz8,if_pos (y6 hb hml),List.nil_append]
theorem He{A:ai}(z:I)(hsz:Enc.sz α=esz){n l:Nat}{xs ys:List α}(hy:ys≠[])(ho:A.o n=some (.box (.agg (xs.map enc))))(ao:l≤xs.length)(hr:xs.length<l+ys.length)(hf:A.o d=none)(hb:(l+ys.length)*bytes≤140737488355328)(hml:l+ys.length≤maxLen) :
  ∃ p:Nat→Prop,fI A (some d) e esz bytes z (enc ys) rest (.view n [] esz 0 l)=.any p fun m=>aB rest ((A.aV d (.box (.agg ((xs.take l).map enc++(ys.map enc++List.replicate m z))))).aU (some d) (.view d [] esz 0 (l+ys.length))):=by
 have J:=tM (A:=A) (esz:=esz) (lo:=0) (k:=l) ho (by omega);have U:(I.agg (xs.map (enc (α:=α)))).at []=some (.agg (xs.map enc)):=rfl;have ar:(xs.take l).length=l:=by rw[zx7];omega
 refine ⟨fun m=>l+ys.length+m≤maxLen,?_⟩;simp only[fI,J,List.drop_zero,ng A esz ys hsz,e7];rw[if_neg (by simpa using hy)];simp only[ho,U,zz8,zz1];rw[if_neg (by omega)];simp only[fU,hf,zz8,ar];rw[if_pos ⟨hb,hml⟩]
theorem BI(z:α){ts:List (Nat×I)}{os:List (Nat×aq)}{v:I}{l ys:List α}{S:List Nat}(hsz:Enc.sz α=esz)(hg:kG esz v os l S)(hf:aj os d=none)(hb:(l.length+ys.length)*bytes≤140737488355328)(hml:l.length+ys.length≤maxLen) :
  (∃ v' os',fI (au ts os) (some d) e esz bytes (enc z) (enc ys) rest v=aB rest (au ((d,v')::ts) os')∧kG esz v' os' (l++ys) (d::S)∧∀ m,m∉d::S→aj os' m=aj os m) ∨
  (∃ p,∃ v':Nat→I,∃ os':Nat→List (Nat×aq),fI (au ts os) (some d) e esz bytes (enc z) (enc ys) rest v=.any p (fun m=>aB rest (au ((d,v' m)::ts) (os' m)))∧∀ k,kG esz (v' k) (os' k) (l++ys) (d::S)∧∀ m,m∉d::S→aj (os' k) m=aj os m):=by
 by_cases hy:ys=[]
 ·subst hy;rw[List.append_nil];rcases hg with ⟨rfl,rfl⟩ | ⟨n,q,hn,rfl,ho⟩
  ·exact .inl ⟨.c0 esz,os,Hg _ hsz,.inl ⟨rfl,rfl⟩,fun _ _=>rfl⟩
  ·refine .inl ⟨_,os,?_,.inr ⟨n,q,List.mem_cons_of_mem _ hn,rfl,ho⟩,fun _ _=>rfl⟩;have J:=tM (A:=au ts os) (esz:=esz) (lo:=0) (k:=l.length) ho (by simp);simp only[fI,J,ng _ esz ([]:List α) hsz,e7,zx8,if_true];rfl
 ·rcases hg with ⟨rfl,rfl⟩ | ⟨n,q,hn,rfl,ho⟩
  ·obtain ⟨p,J⟩:=Hf (A:=au ts os) (rest:=rest) (e:=e) (q:=esz) (enc z) hsz hy hf (by simpa using hb) (by simpa using hml);refine .inr ⟨p,fun m=>.view d [] esz 0 ys.length,fun m=>(d,.box (.agg (ys.map enc++List.replicate m (enc z))))::os,J,fun k=>⟨.inr ⟨d,List.replicate k z,List.mem_cons_self,by simp,?_⟩,fun m hm =>?_⟩⟩
   ·simp[aj]
   ·rw[ez,if_neg (fun h=>by rw[h] at hm;exact hm List.mem_cons_self)]
  ·by_cases hr:l.length+ys.length≤(l++q).length
   ·have J:=yk (A:=au ts os) (rest:=rest) (d:=some d) (e:=e) (bytes:=bytes) (esz:=esz) (enc z) hsz hy ho hr;have e1:(l++q).take l.length++(ys++(l++q).drop (l.length+ys.length))=(l++ys)++q.drop ys.length:=by simp[List.drop_append]
    rw[e1] at J;refine .inl ⟨_,(n,.box (.agg (((l++ys)++q.drop ys.length).map enc)))::os,J,.inr ⟨n,q.drop ys.length,List.mem_cons_of_mem _ hn,by simp,by simp[aj]⟩,fun m hm =>?_⟩;rw[ez,if_neg (fun h=>by rw[h] at hm;exact hm (List.mem_cons_of_mem _ hn))]
   ·obtain ⟨p,J⟩:=He (A:=au ts os) (rest:=rest) (d:=d) (e:=e) (bytes:=bytes) (esz:=esz) (enc z) hsz hy ho (by simp) (by omega) hf hb hml;refine .inr ⟨p,fun m=>.view d [] esz 0 (l.length+ys.length),fun m=>(d,.box (.agg (((l++q).take l.length).map enc++(ys.map enc++List.replicate m (enc z)))))::os,J,fun k=>⟨.inr ⟨d,List.replicate k z,List.mem_cons_self,by simp,?_⟩,fun m hm =>?_⟩⟩
    ·simp[aj]
    ·rw[ez,if_neg (fun h=>by rw[h] at hm;exact hm List.mem_cons_self)]
theorem bP.hJ(z:α){ts:List (Nat×I)}{os:List (Nat×aq)}{v:I}{l ys:List α}{S:List Nat}(hsz:Enc.sz α=esz)(hg:kG esz v os l S)(hf:aj os d=none)(hb:(l.length+ys.length)*bytes≤140737488355328)(hml:l.length+ys.length≤maxLen)
  (h:∀ v' os',kG esz v' os' (l++ys) (d::S)→(∀ m,m∉d::S→aj os' m=aj os m)→bP P Y ab K (aB rest (au ((d,v')::ts) os'))):bP P Y ab K (fI (au ts os) (some d) e esz bytes (enc z) (enc ys) rest v):=by
 rcases BI (rest:=rest) (e:=e) z hsz hg hf hb hml (ts:=ts) with ⟨v',os',J,U,ah⟩ | ⟨p,v',os',J,U⟩
 ·rw[J];exact h v' os' U ah
 ·rw[J];exact .any fun m _=>h _ _ (U m).1 (U m).2
theorem aS.hJ(z:α){ts:List (Nat×I)}{os:List (Nat×aq)}{v:I}{l ys:List α}{S:List Nat}(hsz:Enc.sz α=esz)(hg:kG esz v os l S)(hf:aj os d=none)(hb:(l.length+ys.length)*bytes≤140737488355328)(hml:l.length+ys.length≤maxLen)
  (h:∀ v' os',kG esz v' os' (l++ys) (d::S)→(∀ m,m∉d::S→aj os' m=aj os m)→aS P Y false K (aB rest (au ((d,v')::ts) os'))):aS P Y false K (fI (au ts os) (some d) e esz bytes (enc z) (enc ys) rest v):=by
 rcases BI (rest:=rest) (e:=e) z hsz hg hf hb hml (ts:=ts) with ⟨v',os',J,U,ah⟩ | ⟨p,v',os',J,U⟩
 ·rw[J];exact h v' os' U ah
 ·rw[J];exact .any rfl fun m _=>h _ _ (U m).1 (U m).2
theorem mE(os:List (Nat×aq))(S:List Nat):kG esz (.c0 esz) os ([]:List α) S:=.inl ⟨rfl,rfl⟩
theorem mD{v:I}{os:List (Nat×aq)}{l:List α}{S:List Nat}{A:ai}(hsz:Enc.sz α=esz)(h:kG esz v os l S)(hA:∀ m∈S,A.o m=aj os m):bg true A v=some (enc l):=by
 rcases h with ⟨rfl,rfl⟩ | ⟨n,q,hn,rfl,ho⟩
 ·simp only[bg,hh,zx8,hsz]
 ·have J:bg true A (.view n [] esz 0 l.length)=lM esz 0 l.length (some ((l++q).map enc)):=by
   rw[vD,hA n hn,ho];rfl
  rw[J,vC hsz,List.take_left]
end
def ej:List Int→Int→List Int
 | [],n=>[n]
 |x::l,n=>if x<n then x::ej l n else if x=n then x::l else n::x::l
theorem Db:∀ (l:List Int) (n:Int) (i:Nat) (h:i<l.length),(∀ k,k<i→∀ hk:k<l.length,l[k]<n)→l[i]=n→ej l n=l
 | [],_,_,h,_,_=>by simp at h
 |x::l,n,0,_,_,U=>by simp at U;simp[ej,U]
 |x::l,n,i+1,h,J,U=>by
  have hx:=J 0 (by omega) (by simp);simp only[List.getElem_cons_zero] at hx;rw[ej,if_pos hx,Db l n i (by simpa using h) (fun k hk ao=>J (k+1) (by omega) (by simpa using ao)) (by simpa using U)]
theorem w4:∀ (l:List Int) (n:Int) (i:Nat),i≤l.length→(∀ k,k<i→∀ hk:k<l.length,l[k]<n)→(∀ h:i<l.length,n<l[i])→ej l n=l.take i++n::l.drop i
 | [],n,i,h,_,_=>by simp[ej]
 |x::l,n,0,_,_,U=>by
  have:=U (by simp);simp only[List.getElem_cons_zero] at this;simp[ej,show ¬ x<n by omega,show ¬ x=n by omega]
 |x::l,n,i+1,h,J,U=>by
  have hx:=J 0 (by omega) (by simp);simp only[List.getElem_cons_zero] at hx;rw[ej,if_pos hx,w4 l n i (by simpa using h) (fun k hk ao=>J (k+1) (by omega) (by simpa using ao)) (fun ao=>U (by simpa using ao))];rfl
theorem xC{α:Type}[Enc α]{A:ai}(esz:Nat){l:List α}{i:Nat}(h:i≤l.length)(ab:Enc.sz α=esz):ka A esz (some (.int .i64 i)) none none (enc l)=some (enc (l.drop i)):=by
 simp only[ka,hh,ab,if_true,iV,jt,zz8];rw[if_pos ⟨by omega,by omega,by omega,by omega⟩];simp[List.take_of_length_le]
theorem rY(l:List Int)(n:Int)(ao:l.length≤1000):bf Tryz.prog 109 [enc l,enc n] (enc (ej l n)):=by
 refine bf.bZ Tryz.func109 H6 Jg Kr (u8 rfl) (fun hwf W0 bF E1 =>?_);simp only[yI,Dk,bJ,zz1];clear hwf;have R:=y6 @bl aC
 repeat' ((first |(with_reducible refine .guard (fun hb =>?_) (fun hb =>?_) <;>try simp only[hb])|refine ae.aE (by decide +kernel) rfl fun K hK =>?_|(refine .av [0,1,4,5,17,31] hK ?_;clear hK K)|(with_reducible refine .done (hK _ ?_);clear hK K)|refine ae.of rfl ?_|(with_reducible refine aA.aD (fun h =>?_) (fun h =>?_) <;>try simp only[h])) <;>try simp only[aF,R,simprocAttr])
 all_goals clear R
 refine ae.loop (fun i:Nat=>au [(0,enc l),(1,.int .i64 n),(5,.int .i64 i)] []) (fun i=>i≤l.length∧∀ k,k<i→∀ h:k<l.length,l[k]<n) (fun i=>l.length-i) 0 ⟨zw8 _,fun k h=>by omega⟩ ?_ (fun i hi =>?_)
 ·refine bH.dW ?_ ?_ ?_ ?_ <;>simp[cG,dF,cW,cY,cD,I.only,cJ]
 obtain ⟨hi1,hi2⟩:=hi;by_cases hlt:i<l.length
 ·have hc:=gV hlt;have he:=fun A=>fh (A:=A) 1 hlt rfl;have hw:=gZ (i:=i) (by omega);rcases hp:decide (l[i]<n)
  ·have hp0:=of_decide_eq_false hp;rcases hq:(l[i]==n)
   ·have hq0:¬ l[i]=n:=by simpa using hq
    have hm:ej l n=l.take i++n::l.drop i:=w4 l n i hi1 hi2 (fun h=>by omega);have R:=y6 @hc (y6 @he (y6 @hp (y6 @hq aC)))
    repeat' ((first |(with_reducible refine .guard (fun hb =>?_) (fun hb =>?_) <;>try simp only[hb])|refine ae.aE (by decide +kernel) rfl fun K hK =>?_|(refine .av [0,1,4,5,17,31] hK ?_;clear hK K)|(with_reducible refine .done (hK _ ?_);clear hK K)|refine ae.of rfl ?_|(with_reducible refine aA.aD (fun h =>?_) (fun h =>?_) <;>try simp only[h])) <;>try simp only[aF,R,simprocAttr])
    all_goals clear R
    refine ae.pF (gs:=qu) [] [(33,[]),(0,[]),(41,[])] [0,1,2,3,5,6,8,9,10,4,7,11,12] (by decide +kernel) (cN.of (by simp[e9,cD,pg,I.only,cJ])) fun K hK =>?_;have hbs:fA 1 (some [.int .i64 n])=some (enc [n]):=jf 1 n rfl
    try simp only[eQ,qu,zy2,zy3,xD 1 hi1 rfl,xC 1 hi1 rfl,Option.map_none,zz7,hbs,jN,bI,simprocAttr]
    refine bP.hJ (0:Int) rfl (mE _ []) rfl (by simp;omega) (by simp[maxLen];omega) fun v1 o1 g1 f1 =>?_
    try simp only[bI,simprocAttr]
    refine bP.hJ (0:Int) rfl g1 (f1 40 (by decide)) (by simp;omega) (by simp[maxLen];omega) fun v2 o2 g2 f2 =>?_
    try simp only[bI,simprocAttr]
    refine bP.hJ (0:Int) rfl g2 ((f2 44 (by decide)).trans (f1 44 (by decide))) (by simp;omega) (by simp[maxLen];omega) fun v3 o3 g3 f3 =>?_;have hf:=fun ts=>mD (A:=au ts o3) rfl g3 fun _ _=>rfl;rw[show ([]++List.take i l++[n]++List.drop i l)=ej l n by rw[hm];simp] at hf
    try simp only[bI,simprocAttr]
    refine .done (hK _ ?_);clear hK K;have R:=y6 @hf aC
    repeat' ((first |(with_reducible refine .guard (fun hb =>?_) (fun hb =>?_) <;>try simp only[hb])|refine ae.aE (by decide +kernel) rfl fun K hK =>?_|(refine .av [0,1,4,5,17,31] hK ?_;clear hK K)|(with_reducible refine .done (hK _ ?_);clear hK K)|refine ae.of rfl ?_|(with_reducible refine aA.aD (fun h =>?_) (fun h =>?_) <;>try simp only[h])) <;>try simp only[aF,R,simprocAttr])
    all_goals clear R
   ·have hm:ej l n=l:=Db l n i hlt hi2 (by simpa using hq);rw[hm];have R:=y6 @hc (y6 @he (y6 @hp (y6 @hq aC)))
    repeat' ((first |(with_reducible refine .guard (fun hb =>?_) (fun hb =>?_) <;>try simp only[hb])|refine ae.aE (by decide +kernel) rfl fun K hK =>?_|(refine .av [0,1,4,5,17,31] hK ?_;clear hK K)|(with_reducible refine .done (hK _ ?_);clear hK K)|refine ae.of rfl ?_|(with_reducible refine aA.aD (fun h =>?_) (fun h =>?_) <;>try simp only[h])) <;>try simp only[aF,R,simprocAttr])
    all_goals clear R
  ·have R:=y6 @hc (y6 @he (y6 @hp (y6 @hw aC)))
   repeat' ((first |(with_reducible refine .guard (fun hb =>?_) (fun hb =>?_) <;>try simp only[hb])|refine ae.aE (by decide +kernel) rfl fun K hK =>?_|(refine .av [0,1,4,5,17,31] hK ?_;clear hK K)|(with_reducible refine .done (hK _ ?_);clear hK K)|refine ae.of rfl ?_|(with_reducible refine aA.aD (fun h =>?_) (fun h =>?_) <;>try simp only[h])) <;>try simp only[aF,R,simprocAttr])
   all_goals clear R
   refine ⟨i+1,⟨by omega,fun k hk h =>?_⟩,by omega,?_⟩
   ·by_cases e:k=i
    ·subst e;exact of_decide_eq_true hp
    ·exact hi2 k (by omega) h
   ·refine bH.dW ?_ ?_ ?_ ?_ <;>simp[cG,dF,cW,cY,cD,I.only,cJ]
 ·have hc:=hE hlt;have hge:i=l.length:=by omega
  have hm:ej l n=l.take i++n::l.drop i:=w4 l n i hi1 hi2 (fun h=>absurd h hlt);have R:=y6 @hc aC
  repeat' ((first |(with_reducible refine .guard (fun hb =>?_) (fun hb =>?_) <;>try simp only[hb])|refine ae.aE (by decide +kernel) rfl fun K hK =>?_|(refine .av [0,1,4,5,17,31] hK ?_;clear hK K)|(with_reducible refine .done (hK _ ?_);clear hK K)|refine ae.of rfl ?_|(with_reducible refine aA.aD (fun h =>?_) (fun h =>?_) <;>try simp only[h])) <;>try simp only[aF,R,simprocAttr])
  all_goals clear R
  refine ae.pF (gs:=qu) [] [(33,[]),(0,[]),(41,[])] [0,1,2,3,5,6,8,9,10,4,7,11,12] (by decide +kernel) (cN.of (by simp[e9,cD,pg,I.only,cJ])) fun K hK =>?_;have hbs:fA 1 (some [.int .i64 n])=some (enc [n]):=jf 1 n rfl
  try simp only[eQ,qu,zy2,zy3,xD 1 hi1 rfl,xC 1 hi1 rfl,Option.map_none,zz7,hbs,jN,bI,simprocAttr]
  refine bP.hJ (0:Int) rfl (mE _ []) rfl (by simp;omega) (by simp[maxLen];omega) fun v1 o1 g1 f1 =>?_
  try simp only[bI,simprocAttr]
  refine bP.hJ (0:Int) rfl g1 (f1 40 (by decide)) (by simp;omega) (by simp[maxLen];omega) fun v2 o2 g2 f2 =>?_
  try simp only[bI,simprocAttr]
  refine bP.hJ (0:Int) rfl g2 ((f2 44 (by decide)).trans (f1 44 (by decide))) (by simp;omega) (by simp[maxLen];omega) fun v3 o3 g3 f3 =>?_;have hf:=fun ts=>mD (A:=au ts o3) rfl g3 fun _ _=>rfl;rw[show ([]++List.take i l++[n]++List.drop i l)=ej l n by rw[hm];simp] at hf
  try simp only[bI,simprocAttr]
  refine .done (hK _ ?_);clear hK K;have R:=y6 @hf aC
  repeat' ((first |(with_reducible refine .guard (fun hb =>?_) (fun hb =>?_) <;>try simp only[hb])|refine ae.aE (by decide +kernel) rfl fun K hK =>?_|(refine .av [0,1,4,5,17,31] hK ?_;clear hK K)|(with_reducible refine .done (hK _ ?_);clear hK K)|refine ae.of rfl ?_|(with_reducible refine aA.aD (fun h =>?_) (fun h =>?_) <;>try simp only[h])) <;>try simp only[aF,R,simprocAttr])
  all_goals clear R
def pH:cZ:=⟨0,0,0,false⟩
theorem vf:I.agg [.int .i64 0,.int .i64 0,.int .i64 0,.bool false]=enc pH:=rfl
def xv:gn:=⟨0,0,0,0⟩
theorem ME:I.agg [.int .i64 0,.int .i64 0,.int .i64 0,.int .i64 0]=enc xv:=rfl
def jg(s:cm)(i:Nat):cm := { s with bz:=s.bz.take i++s.bz.drop (i+1) }
def jb(v:I):Prop:=v.bT=true∧b6 none v=true∧v.aX=.one∧v.size=1
theorem Yy(l:List cZ):jb (enc l):=⟨er _,by simp[kj,ki],(eJ l).trans mA,by rw[jT,jz]⟩
theorem wO(l:List gn):jb (enc l):=⟨er _,by simp[kj,ki],(eJ l).trans mA,by rw[jT,jz]⟩
theorem kX{α:Type}[Enc α]{esz:Nat}{v:I}{os:List (Nat×aq)}{l:List α}{S:List Nat}(h:kG esz v os l S):jb v:=by
 rcases h with ⟨_,rfl⟩ | ⟨n,q,_,rfl,_⟩ <;>exact ⟨rfl,rfl,rfl,rfl⟩
theorem ZW{a s:Int}{h:List Int}{r e:I}(hr:jb r)(he:jb e):(gz a (enc h) s r e).aX=.eH [.one,.one,.one,.one,.one]:=by
 simp only[gz,I.aX,I.cT,eJ,mA,hr.2.2.1,he.2.2.1]
theorem Fk{a s:Int}{h:List Int}{r e:I}(hr:jb r)(he:jb e):b6 (some 5) (gz a (enc h) s r e)=true:=by
 simp[b6,gz,I.isAgg,I.size,I.sizes,jT,jz,hr.2.2.2,he.2.2.2]
theorem tQ{a s:Int}{h:List Int}{r e:I}(hr:jb r)(he:jb e):b6 (some 5) (gz a (enc h) s r e)=true∧(∀ A n rest x y,df A (some 5) n [] (.agg [.int .i64 x,.nils 1,.int .i64 y,.nils 4,.nils 4]) (gz a (enc h) s r e) rest (some (.agg [.int .i64 x,.nils 1,.int .i64 y,.nils 4,.nils 4]))=aB rest (A.aV n (.box (gz a (enc h) s r e)))) :=
 ⟨Fk hr he,fun A n rest x y=>dE rfl (Fk hr he) (ZW hr he)⟩
theorem xG{q:cm}{v:I}(hv:jb v):∀ A n rest,df A none n [3] (enc q) v rest (some (enc q.bz))=aB rest (A.aV n (.box (gz q.aw (enc q.here) q.du v (enc q.bp)))) :=
 fun A n rest=>(dE hv.1 hv.2.1 (hv.2.2.1.trans ((eJ _).trans mA).symm)).trans rfl
theorem ZV{q:cm}{v:I}(hv:jb v):∀ A n rest,df A none n [4] (enc q) v rest (some (enc q.bp))=aB rest (A.aV n (.box (gz q.aw (enc q.here) q.du (enc q.bz) v))) :=
 fun A n rest=>(dE hv.1 hv.2.1 (hv.2.2.1.trans ((eJ _).trans mA).symm)).trans rfl
theorem tR{A:ai}{a s:Int}{h:List Int}{r e:I}{rs:List cZ}{es:List gn}(hr:bg true A r=some (enc rs))(he:bg true A e=some (enc es)):bg true A (gz a (enc h) s r e)=some (enc (⟨a,h,s,rs,es⟩:cm)):=by
 have U:∀ k n,bg true A (.int k n)=some (.int k n):=fun k n=>by simp only[bg]
 have ah:bg true A (enc h)=some (enc h):=by simp only[lJ]
 simp only[gz,sE,sH,sJ,hr,he,U,ah,jS,zz7];rfl
theorem xP(s:cm)(i:Nat)(hi:i<s.bz.length)(ao:s.bz.length≤1000):bf Tryz.prog 111 [enc s,enc (i:Int)] (enc (jg s i)):=by
 refine bf.bZ Tryz.func111 H8 Ji Kt (u8 rfl) (fun hwf W0 bF E1 =>?_);simp only[yK,Dm,bJ,zz1];clear hwf;have hc:=gV hi;have hw:=gZ (i:=i) (by omega);have hle:i≤s.bz.length:=by omega
 have af:(s.bz.take i).length+(s.bz.drop (i+1)).length≤1000:=by rw[zx7,List.length_drop];omega
 have hd0:(s.bz.take i).length≤1000:=by omega
 have R:=y6 @hc (y6 @hw (y6 @cq aC))
 repeat' ((first |refine ae.aE (by decide +kernel) rfl fun K hK =>?_|(refine .av [0,1,2,4] hK ?_;clear hK K)|(with_reducible refine .done (hK _ ?_);clear hK K)|refine ae.of rfl ?_|(with_reducible refine aA.aD (fun h =>?_) (fun h =>?_) <;>try simp only[h])) <;>try simp only[aF,R,simprocAttr])
 all_goals clear R
 refine ae.pF (gs:=vH) [] [(5,[])] [0,1,2,3,4,6,7,8,9,10,5,11,12,13] (by decide +kernel) (cN.of (by simp[e9,cD,pg,I.only])) fun K hK =>?_
 try simp only[eQ,vH,zy2,zy3,xD 4 hle rfl,xC 4 (show i+1≤s.bz.length by omega) rfl,Option.map_none,zz7,hw,vf,jN,cq,aC,bI,simprocAttr]
 refine bP.hJ pH rfl (mE _ []) rfl (by simp;omega) (by simp[maxLen];omega) fun v1 o1 g1 f1 =>?_
 try simp only[bI,simprocAttr]
 refine bP.hJ pH rfl g1 (f1 16 (by decide)) (by simp;omega) (by simp[maxLen];omega) fun v2 o2 g2 f2 =>?_;have ho2:aj o2 2=some (.box (enc s)):=(f2 2 (by decide)).trans (f1 2 (by decide));have ho4:aj o2 4=some (.box (.agg [.int .i64 0,.nils 1,.int .i64 0,.nils 4,.nils 4])):=(f2 4 (by decide)).trans (f1 4 (by decide));have ab:=xG (q:=s) (kX g2);have ht:=tQ (a:=s.aw) (h:=s.here) (s:=s.du) (kX g2) (wO s.bp);have hf:∀ ts os,aj os 10=aj o2 10→aj os 16=aj o2 16→bg true (au ts os) (gz s.aw (enc s.here) s.du v2 (enc s.bp))=some (enc (jg s i)):=fun ts os J U =>
  (tR (mD rfl g2 (by intro m hm;simp only[zw4,List.not_mem_nil,or_false] at hm;rcases hm with rfl | rfl;exact U;exact J)) (by simp only[lJ])).trans rfl
 try simp only[ho2,ab,cq,aC,bI,simprocAttr]
 refine .done (hK _ ?_);clear hK K;have R:=y6 @ho4 (y6 @ht (y6 @hf (y6 @cq aC)))
 repeat' ((first |refine ae.aE (by decide +kernel) rfl fun K hK =>?_|(refine .av [0,1,2,4] hK ?_;clear hK K)|(with_reducible refine .done (hK _ ?_);clear hK K)|refine ae.of rfl ?_|(with_reducible refine aA.aD (fun h =>?_) (fun h =>?_) <;>try simp only[h])) <;>try simp only[aF,R,simprocAttr])
 all_goals clear R
theorem HR(a b c d:Int):(dK [.int .i64 0,.int .i64 0,.int .i64 0,.int .i64 0] [(0,.int .i64 a),(1,.int .i64 b),(2,.int .i64 c),(3,.int .i64 d)]).map I.agg=some (enc (⟨a,b,c,d⟩:gn)):=by simp[dK,I.bT,I.size];rfl
def fZ(s:cm)(x:bh):cm := { s with bp:=s.bp++[⟨x.kind,x.other,x.no,x.aK⟩] }
theorem xQ(s:cm)(x:bh)(ao:s.bp.length≤1000):bf Tryz.prog 112 [enc s,enc x] (enc (fZ s x)):=by
 refine bf.bZ Tryz.func112 H9 Jj Ku (u8 rfl) (fun hwf W0 bF E1 =>?_);simp only[yL,Dn,bJ,zz1];clear hwf;have hbs:∀ y:gn,fA 4 (some [enc y])=some (enc [y]):=fun y=>jf 4 y rfl;have R:=y6 @cq aC
 repeat' ((first |refine ae.aE (by decide +kernel) rfl fun K hK =>?_|(refine .av [0,1,2,3,4] hK ?_;clear hK K)|(with_reducible refine .done (hK _ ?_);clear hK K)|refine ae.of rfl ?_|(with_reducible refine aA.aD (fun h =>?_) (fun h =>?_) <;>try simp only[h])) <;>try simp only[aF,R,simprocAttr])
 all_goals clear R
 refine ae.pF (gs:=vI) [] [(5,[])] [0,1,2,4,5,6,7,8,9,10,11,12,13,3,14,15,16] (by decide +kernel) (cN.of (by simp[e9,cD,pg,I.only])) fun K hK =>?_
 try simp only[eQ,vI,zy2,zy3,List.nil_append,ME,HR,jN,hbs,cq,aC,bI,simprocAttr]
 refine bP.hJ xv rfl (mE _ []) rfl (by simp;omega) (by simp[maxLen];omega) fun v1 o1 g1 f1 =>?_
 try simp only[bI,simprocAttr]
 refine bP.hJ xv rfl g1 (f1 19 (by decide)) (by simp;omega) (by simp[maxLen];omega) fun v2 o2 g2 f2 =>?_;have ho2:aj o2 2=some (.box (enc s)):=(f2 2 (by decide)).trans (f1 2 (by decide));have ho4:aj o2 4=some (.box (.agg [.int .i64 0,.nils 1,.int .i64 0,.nils 4,.nils 4])):=(f2 4 (by decide)).trans (f1 4 (by decide));have ab:=ZV (q:=s) (kX g2);have ht:=tQ (a:=s.aw) (h:=s.here) (s:=s.du) (Yy s.bz) (kX g2);have hf:∀ ts os,aj os 8=aj o2 8→aj os 19=aj o2 19→bg true (au ts os) (gz s.aw (enc s.here) s.du (enc s.bz) v2)=some (enc (fZ s x)):=fun ts os J U =>
  (tR (by simp only[lJ]) (mD rfl g2 (by intro m hm;simp only[zw4,List.not_mem_nil,or_false] at hm;rcases hm with rfl | rfl;exact U;exact J))).trans rfl
 try simp only[ho2,ab,cq,aC,bI,simprocAttr]
 refine .done (hK _ ?_);clear hK K;have R:=y6 @ho4 (y6 @ht (y6 @hf (y6 @cq aC)))
 repeat' ((first |refine ae.aE (by decide +kernel) rfl fun K hK =>?_|(refine .av [0,1,2,3,4] hK ?_;clear hK K)|(with_reducible refine .done (hK _ ?_);clear hK K)|refine ae.of rfl ?_|(with_reducible refine aA.aD (fun h =>?_) (fun h =>?_) <;>try simp only[h])) <;>try simp only[aF,R,simprocAttr])
 all_goals clear R
theorem C1{q:bx}{v:I}(hv:jb v):∀ A n rest,df A none n [1] (enc q) v rest (some (enc q.j))=aB rest (A.aV n (.box (dT q v))) :=
 fun A n rest=>(dE hv.1 hv.2.1 (hv.2.2.1.trans ((eJ _).trans mA).symm)).trans rfl
theorem C2{q:bx}{v:I}(hv:jb v):b6 (some 3) (dT q v)=true∧(∀ A n rest,df A (some 3) n [] (.agg [.int .i64 0,.nils 4,.int .i64 0]) (dT q v) rest (some (.agg [.int .i64 0,.nils 4,.int .i64 0]))=aB rest (A.aV n (.box (dT q v)))):=by
 have J:b6 (some 3) (dT q v)=true:=by simp[b6,dT,I.isAgg,I.size,I.sizes,hv.2.2.2]
 exact ⟨J,fun A n rest=>dE rfl J (by simp only[dT,I.aX,I.cT,hv.2.2.1])⟩
theorem C3{A:ai}{q:bx}{v:I}{l:List bh}(h:bg true A v=some (enc l)):bg true A (dT q v)=some (enc (⟨q.aw,l,q.eD⟩:bx)):=by
 have U:∀ k n,bg true A (.int k n)=some (.int k n):=fun k n=>by simp only[bg]
 simp only[dT,sE,sH,sJ,h,U,jS,zz7];rfl
theorem pZ(p:bx)(x:bh)(ao:p.j.length≤200):bf Tryz.prog 77 [enc p,enc x] (.tuple [enc (eS p x).1,enc (eS p x).2]):=by
 refine bf.bZ Tryz.func77 IU JZ Lk (u8 rfl) (fun hwf W0 bF E1 =>?_);simp only[zy,Ek,bJ,zz1];clear hwf;rcases q:((p.j.length:Int)==200)
 case true =>
  have U:p.j.length=200:=by simp at q;omega
  have hw:eS p x=(⟨0,[],0⟩,2):=by simp[eS,U]
  rw[hw];have R:=y6 @q (y6 @qa (y6 @rH (y6 @dA aC)))
  repeat' ((first |refine ae.aE (by decide +kernel) rfl fun K hK =>?_|(refine .av [0,1,2,3,4,5,9] hK ?_;clear hK K)|(with_reducible refine .done (hK _ ?_);clear hK K)|refine ae.of rfl ?_|(with_reducible refine aA.aD (fun h =>?_) (fun h =>?_) <;>try simp only[h])) <;>try simp only[aF,R,simprocAttr])
  all_goals clear R
  rfl
 have hne:¬ p.j.length=200:=fun h=>by rw[h] at q;simp at q
 have hw:eS p x=(⟨p.aw,p.j++[x],p.eD⟩,0):=by simp[eS,hne]
 rw[hw];have hbs:=jf 4 x rfl;have R:=y6 @q (y6 @dA aC)
 repeat' ((first |refine ae.aE (by decide +kernel) rfl fun K hK =>?_|(refine .av [0,1,2,3,4,5,9] hK ?_;clear hK K)|(with_reducible refine .done (hK _ ?_);clear hK K)|refine ae.of rfl ?_|(with_reducible refine aA.aD (fun h =>?_) (fun h =>?_) <;>try simp only[h])) <;>try simp only[aF,R,simprocAttr])
 all_goals clear R
 refine ae.pF (gs:=vR) [] [(11,[])] [0,1,2,4,5,3,6,7,8] (by decide +kernel) (cN.of (by simp[e9,cD,pg,I.only])) fun K hK =>?_
 try simp only[eQ,vR,zy2,zy3,nz,jN,hbs,dA,aC,bI,simprocAttr]
 refine bP.hJ gp rfl (mE _ []) rfl (by simp;omega) (by simp[maxLen];omega) fun v1 o1 g1 f1 =>?_
 try simp only[bI,simprocAttr]
 refine bP.hJ gp rfl g1 (f1 17 (by decide)) (by simp;omega) (by simp[maxLen];omega) fun v2 o2 g2 f2 =>?_;have ho2:aj o2 2=some (.box (enc p)):=(f2 2 (by decide)).trans (f1 2 (by decide));have ho4:aj o2 4=some (.box (.agg [.int .i64 0,.nils 4,.int .i64 0])):=(f2 4 (by decide)).trans (f1 4 (by decide));have ab:=C1 (q:=p) (kX g2);have ht:=C2 (q:=p) (kX g2);have hf:∀ ts os,aj os 14=aj o2 14→aj os 17=aj o2 17→bg true (au ts os) (dT p v2)=some (enc (⟨p.aw,p.j++[x],p.eD⟩:bx)):=fun ts os J U =>
  C3 (mD rfl g2 (by intro m hm;simp only[zw4,List.not_mem_nil,or_false] at hm;rcases hm with rfl | rfl;exact U;exact J))
 try simp only[ho2,ab,dA,aC,bI,simprocAttr]
 refine .done (hK _ ?_);clear hK K;have R:=y6 @ho4 (y6 @ht (y6 @hf (y6 @dA aC)))
 repeat' ((first |refine ae.aE (by decide +kernel) rfl fun K hK =>?_|(refine .av [0,1,2,3,4,5,9] hK ?_;clear hK K)|(with_reducible refine .done (hK _ ?_);clear hK K)|refine ae.of rfl ?_|(with_reducible refine aA.aD (fun h =>?_) (fun h =>?_) <;>try simp only[h])) <;>try simp only[aF,R,simprocAttr])
 all_goals clear R
theorem Gk(p:bx)(ao:p.j.length≤1000):bf Tryz.prog 58 [enc p] (enc p):=by
 refine bf.bZ Tryz.func58 IE JL K6 (u8 rfl) (fun hwf W0 bF E1 =>?_);simp only[zi,D5,bJ];clear hwf;have R:=y6 @nz (y6 @jN (y6 @dA aC))
 repeat' ((first |refine ae.aE (by decide +kernel) rfl fun K hK =>?_|(refine .av [0,1,2] hK ?_;clear hK K)|(with_reducible refine .done (hK _ ?_);clear hK K)|refine ae.of rfl ?_|(with_reducible refine aA.aD (fun h =>?_) (fun h =>?_) <;>try simp only[h])) <;>try simp only[aF,R,simprocAttr])
 all_goals clear R
 refine aS.hJ gp rfl (mE _ []) rfl (by simp;omega) (by simp[maxLen];omega) fun v2 o2 g2 f2 =>?_;have ho2:aj o2 1=some (.box (enc p)):=f2 1 (by decide);have ho4:aj o2 2=some (.box (.agg [.int .i64 0,.nils 4,.int .i64 0])):=f2 2 (by decide);have ab:=C1 (q:=p) (kX g2);have ht:=C2 (q:=p) (kX g2);have hf:∀ ts os,aj os 6=aj o2 6→bg true (au ts os) (dT p v2)=some (enc p):=fun ts os J =>
  C3 (mD rfl g2 (by intro m hm;simp only[zw4,List.not_mem_nil,or_false] at hm;rcases hm with rfl;exact J))
 try simp only[ho2,ab,dA,aC,bI,simprocAttr]
 have R:=y6 @ho2 (y6 @ho4 (y6 @ht (y6 @hf (y6 @dA aC))))
 repeat' ((first |refine ae.aE (by decide +kernel) rfl fun K hK =>?_|(refine .av [0,1,2] hK ?_;clear hK K)|(with_reducible refine .done (hK _ ?_);clear hK K)|refine ae.of rfl ?_|(with_reducible refine aA.aD (fun h =>?_) (fun h =>?_) <;>try simp only[h])) <;>try simp only[aF,R,simprocAttr])
 all_goals clear R
def gW(s:cm)(x:bh):Bool:=match jG s x.no with
 |some i=>match s.bz[i]? with
  |some r=>r.to==x.other&&r.aK==x.aK
  |none=>false
 |none=>false
def oN(s:cm)(x:bh):Bool:=match jG s x.no with
 |some i=>match s.bz[i]? with
  |some r=>r.dj
  |none=>false
 |none=>false
def atR(s:cm)(x:bh):Nat:=(jG s x.no).getD 0
def cH(s:cm)(x:bh):cm×Bool :=
 if x.kind=1 then if decide (x.aK∈s.here)||iy s x.aK then (s,false) else ({ s with here:=ej s.here x.aK },true)
 else if x.kind=2 then ({ s with here:=gU s.here x.aK },decide (x.aK∈s.here))
 else if x.kind=3 then if x.aK∉s.here∨x.other=s.aw∨x.no≠s.du+1 then (s,false) else ({ s with here:=gU s.here x.aK,du:=x.no,bz:=s.bz++[⟨x.no,x.other,x.aK,false⟩] },true)
 else if x.kind=4 then if gW s x && !oN s x then ({ s with bz:=s.bz.modify (atR s x) fun r => { r with dj:=true } },true) else (s,false)
 else if x.kind=5 then if gW s x then (jg s (atR s x),true) else (s,false)
 else if x.kind=6 then if gW s x&&oN s x then ({ jg s (atR s x) with here:=ej s.here x.aK },true) else (s,false)
 else if x.other=s.aw∨jk s x.other x.no≠0 then (s,false)
 else if x.kind=7 then if decide (x.aK∈s.here)||iy s x.aK then (s,false) else (fZ { s with here:=ej s.here x.aK } x,true)
 else (fZ s x,true)
theorem ET(s:cm)(no:Int):(jG s no=none∧iS s no=-1)∨∃ i,∃ h:i<s.bz.length,jG s no=some i∧iS s no=(i:Int)∧(s.bz[i]).no=no:=by
 cases h:jG s no with
 |none=>exact .inl ⟨rfl,by simp[iS,h]⟩
 |some i =>
  obtain ⟨J,U,_⟩:=List.findIdx?_eq_some_iff_getElem.1 h;exact .inr ⟨i,J,rfl,by simp[iS,h],of_decide_eq_true U⟩
def kI(s:cm)(x:bh):ai:=au [(2,.ptr 2 []),(3,.ptr 3 []),(4,.ptr 4 []),(5,.bool false),(6,.bool (decide (x.aK∈s.here))),(7,.int .i64 (iS s x.no)),(8,.bool (gW s x))] [(4,.box (.agg [.int .i64 0,.nils 1,.int .i64 0,.nils 4,.nils 4])),(3,.box (enc x)),(2,.box (enc s))]
theorem mS{W0:World}{bF:aR}{n:Nat}{own dh:_}(y:bo)(Q:Exit→ai→Prop)(s:cm)(x:bh)(ao:s.bz.length≤1000)
  (h:ae { P:=Tryz.prog,fT:=W0,bF:=bF,n:=n,own:=own,dh:=dh,Y:=dq,lj:=none } y Q (kI s x)) :
  ae { P:=Tryz.prog,fT:=W0,bF:=bF,n:=n,own:=own,dh:=dh,Y:=dq,lj:=none } (.seq (.b9 none Bk) (.seq (.b9 none Bl) (.seq (.b9 none Bm) (.seq (.b9 AA Bn) y)))) Q (au [(0,enc s),(1,enc x)] []):=by
 have hF1:=x1 s.here x.aK;have hF2:=x2 s x.no ao;have hg:decide ((-1:Int)≥0)=false:=rfl;unfold kI at h;rcases ET s x.no with ⟨J,U⟩ | ⟨i,hi,J,U,-⟩
 ·have hm:gW s x=false:=by simp only[gW,J]
  rw[U] at hF2 h;rw[hm] at h;have R:=y6 @hg (y6 @cq (y6 @bl aC))
  repeat' ((first |(with_reducible refine .guard (fun hb =>?_) (fun hb =>?_) <;>try simp only[hb])|refine ae.aE (by decide +kernel) rfl fun K hK =>?_|refine .flat _ (hF1) rfl ?_|refine .flat _ (hF2) rfl ?_|(refine .av [0,1,2,3,4,5,6,7,8,45,46,54,63,73,91,117,128,141,144,149,161,186,190,197] hK ?_;clear hK K)|(with_reducible refine .done (hK _ ?_);clear hK K)|refine ae.of rfl ?_|(with_reducible refine aA.aD (fun h =>?_) (fun h =>?_) <;>try simp only[h])) <;>try simp only[aF,R,decide_false,simprocAttr])
  all_goals clear R
  refine ae.sub ?_ h;refine bH.dW ?_ ?_ ?_ ?_ <;>simp[cG,dF,cW,cY,az,cD,ez,I.only,I.cv,aq.only,cJ]
 ·have hm:gW s x=((s.bz[i]).to==x.other&&(s.bz[i]).aK==x.aK):=by simp only[gW,J,zy4 hi]
  have hx:(if 0>(i:Int) then 0 else (i:Int))=(i:Int):=if_neg (by omega);have hg2:decide ((i:Int)≥0)=true:=by simp
  have he:=fun A=>fh (A:=A) 4 hi rfl;rw[U] at hF2 h;rw[hm] at h;rcases q1:((s.bz[i]).to==x.other)
  ·rw[q1,Bool.false_and] at h;have R:=y6 @hg2 (y6 @hx (y6 @he (y6 @q1 (y6 @cq (y6 @bl aC)))))
   repeat' ((first |(with_reducible refine .guard (fun hb =>?_) (fun hb =>?_) <;>try simp only[hb])|refine ae.aE (by decide +kernel) rfl fun K hK =>?_|refine .flat _ (hF1) rfl ?_|refine .flat _ (hF2) rfl ?_|(refine .av [0,1,2,3,4,5,6,7,8,45,46,54,63,73,91,117,128,141,144,149,161,186,190,197] hK ?_;clear hK K)|(with_reducible refine .done (hK _ ?_);clear hK K)|refine ae.of rfl ?_|(with_reducible refine aA.aD (fun h =>?_) (fun h =>?_) <;>try simp only[h])) <;>try simp only[aF,R,decide_true,simprocAttr])
   all_goals clear R
   refine ae.sub ?_ h;refine bH.dW ?_ ?_ ?_ ?_ <;>simp[cG,dF,cW,cY,az,cD,ez,I.only,I.cv,aq.only,cJ]
  ·rw[q1,Bool.true_and] at h;have R:=y6 @hg2 (y6 @hx (y6 @he (y6 @q1 (y6 @cq (y6 @bl aC)))))
   repeat' ((first |(with_reducible refine .guard (fun hb =>?_) (fun hb =>?_) <;>try simp only[hb])|refine ae.aE (by decide +kernel) rfl fun K hK =>?_|refine .flat _ (hF1) rfl ?_|refine .flat _ (hF2) rfl ?_|(refine .av [0,1,2,3,4,5,6,7,8,45,46,54,63,73,91,117,128,141,144,149,161,186,190,197] hK ?_;clear hK K)|(with_reducible refine .done (hK _ ?_);clear hK K)|refine ae.of rfl ?_|(with_reducible refine aA.aD (fun h =>?_) (fun h =>?_) <;>try simp only[h])) <;>try simp only[aF,R,decide_true,simprocAttr])
   all_goals clear R
   refine ae.sub ?_ h;refine bH.dW ?_ ?_ ?_ ?_ <;>simp[cG,dF,cW,cY,az,cD,ez,I.only,I.cv,aq.only,cJ]
structure jP (s:cm):Prop where
 ao:s.bz.length≤1000
 bG:s.here.length≤1000
 ab:s.bp.length≤1000
 aY:0≤s.du
 J:s.du≤1000
theorem fk(b:Bool):b=false∨b=true:=by cases b <;>simp
theorem Gt(s:cm)(x:bh)(ab:jP s)(hk:x.kind=1):bf Tryz.prog 76 [enc s,enc x] (.tuple [enc (cH s x).1,enc (cH s x).2]):=by
 refine bf.bZ Tryz.func76 mw my mz (u8 rfl) (fun hwf W0 bF E1 =>?_);simp only[lG,l4,bJ,zz1];clear hwf;refine mS _ _ s x ab.ao ?_;unfold kI;have hk1:(x.kind==1)=true:=by rw[hk];rfl
 have hF1:=ug s x.aK ab.ao;have hF2:=rY s.here x.aK ab.bG;rcases fk (decide (x.aK∈s.here)) with q | q
 ·rcases fk (iy s x.aK) with q2 | q2
  ·rw[show cH s x=({ s with here:=ej s.here x.aK },true) by simp only[cH,hk,q,q2];rfl];have R:=y6 @hk1 (y6 @q (y6 @q2 (y6 @cq (y6 @bl aC))))
   repeat' ((first |(with_reducible refine .guard (fun hb =>?_) (fun hb =>?_) <;>try simp only[hb])|refine ae.aE (by decide +kernel) rfl fun K hK =>?_|refine .flat _ (hF1) rfl ?_|refine .lead _ (hF2) ?_|(refine .av [0,1,2,3,4,5,6,7,8,45,46,54,63,73,91,117,128,141,144,149,161,186,190,197] hK ?_;clear hK K)|(with_reducible refine .done (hK _ ?_);clear hK K)|refine ae.of rfl ?_|(with_reducible refine aA.aD (fun h =>?_) (fun h =>?_) <;>try simp only[h])) <;>try simp only[aF,R,simprocAttr])
   all_goals clear R
  ·rw[show cH s x=(s,false) by simp only[cH,hk,q,q2];rfl];have R:=y6 @hk1 (y6 @q (y6 @q2 (y6 @cq (y6 @bl aC))))
   repeat' ((first |(with_reducible refine .guard (fun hb =>?_) (fun hb =>?_) <;>try simp only[hb])|refine ae.aE (by decide +kernel) rfl fun K hK =>?_|refine .flat _ (hF1) rfl ?_|refine .lead _ (hF2) ?_|(refine .av [0,1,2,3,4,5,6,7,8,45,46,54,63,73,91,117,128,141,144,149,161,186,190,197] hK ?_;clear hK K)|(with_reducible refine .done (hK _ ?_);clear hK K)|refine ae.of rfl ?_|(with_reducible refine aA.aD (fun h =>?_) (fun h =>?_) <;>try simp only[h])) <;>try simp only[aF,R,simprocAttr])
   all_goals clear R
 ·rw[show cH s x=(s,false) by simp only[cH,hk,q];rfl];have R:=y6 @hk1 (y6 @q (y6 @cq (y6 @bl aC)))
  repeat' ((first |(with_reducible refine .guard (fun hb =>?_) (fun hb =>?_) <;>try simp only[hb])|refine ae.aE (by decide +kernel) rfl fun K hK =>?_|refine .flat _ (hF1) rfl ?_|refine .lead _ (hF2) ?_|(refine .av [0,1,2,3,4,5,6,7,8,45,46,54,63,73,91,117,128,141,144,149,161,186,190,197] hK ?_;clear hK K)|(with_reducible refine .done (hK _ ?_);clear hK K)|refine ae.of rfl ?_|(with_reducible refine aA.aD (fun h =>?_) (fun h =>?_) <;>try simp only[h])) <;>try simp only[aF,R,simprocAttr])
  all_goals clear R
theorem Gu(s:cm)(x:bh)(ab:jP s)(hk:x.kind=2):bf Tryz.prog 76 [enc s,enc x] (.tuple [enc (cH s x).1,enc (cH s x).2]):=by
 refine bf.bZ Tryz.func76 mw my mz (u8 rfl) (fun hwf W0 bF E1 =>?_);simp only[lG,l4,bJ,zz1];clear hwf;refine mS _ _ s x ab.ao ?_;unfold kI;have hk1:(x.kind==1)=false:=by rw[hk];rfl
 have hk2:(x.kind==2)=true:=by rw[hk];rfl
 have hF2:=xO s.here x.aK ab.bG;rw[show cH s x=({ s with here:=gU s.here x.aK },decide (x.aK∈s.here)) by simp only[cH,hk];rfl];have R:=y6 @hk1 (y6 @hk2 (y6 @cq (y6 @bl aC)))
 repeat' ((first |(with_reducible refine .guard (fun hb =>?_) (fun hb =>?_) <;>try simp only[hb])|refine ae.aE (by decide +kernel) rfl fun K hK =>?_|refine .lead _ (hF2) ?_|(refine .av [0,1,2,3,4,5,6,7,8,45,46,54,63,73,91,117,128,141,144,149,161,186,190,197] hK ?_;clear hK K)|(with_reducible refine .done (hK _ ?_);clear hK K)|refine ae.of rfl ?_|(with_reducible refine aA.aD (fun h =>?_) (fun h =>?_) <;>try simp only[h])) <;>try simp only[aF,R,simprocAttr])
 all_goals clear R
theorem Gv(s:cm)(x:bh)(ab:jP s)(hk:x.kind=3):bf Tryz.prog 76 [enc s,enc x] (.tuple [enc (cH s x).1,enc (cH s x).2]):=by
 refine bf.bZ Tryz.func76 mw my mz (u8 rfl) (fun hwf W0 bF E1 =>?_);simp only[lG,l4,bJ,zz1];clear hwf;refine mS _ _ s x ab.ao ?_;unfold kI;have hk1:(x.kind==1)=false:=by rw[hk];rfl
 have hk2:(x.kind==2)=false:=by rw[hk];rfl
 have hk3:(x.kind==3)=true:=by rw[hk];rfl
 have hw:IntKind.i64.wrap (s.du+1)=s.du+1:=by have:=ab.aY;have:=ab.J;exact lA _ (by omega) (by omega)
 have hF2:=xO s.here x.aK ab.bG;have e3:cH s x=if x.aK∉s.here∨x.other=s.aw∨x.no≠s.du+1 then (s,false) else ({ s with here:=gU s.here x.aK,du:=x.no,bz:=s.bz++[⟨x.no,x.other,x.aK,false⟩] },true):=by simp only[cH,hk];rfl
 rcases fk (decide (x.aK∈s.here)) with q | q
 ·rw[e3,if_pos (.inl (of_decide_eq_false q))];have R:=y6 @hk1 (y6 @hk2 (y6 @hk3 (y6 @q (y6 @cq (y6 @bl aC)))))
  repeat' ((first |(with_reducible refine .guard (fun hb =>?_) (fun hb =>?_) <;>try simp only[hb])|refine ae.aE (by decide +kernel) rfl fun K hK =>?_|refine .lead _ (hF2) ?_|(refine .av [0,1,2,3,4,5,6,7,8,45,46,54,63,73,91,117,128,141,144,149,161,186,190,197] hK ?_;clear hK K)|(with_reducible refine .done (hK _ ?_);clear hK K)|refine ae.of rfl ?_|(with_reducible refine aA.aD (fun h =>?_) (fun h =>?_) <;>try simp only[h])) <;>try simp only[aF,R,simprocAttr])
  all_goals clear R
 rcases fk (x.other==s.aw) with q2 | q2
 rotate_left
 ·rw[e3,if_pos (.inr (.inl (by simpa using q2)))];have R:=y6 @hk1 (y6 @hk2 (y6 @hk3 (y6 @q (y6 @q2 (y6 @cq (y6 @bl aC))))))
  repeat' ((first |(with_reducible refine .guard (fun hb =>?_) (fun hb =>?_) <;>try simp only[hb])|refine ae.aE (by decide +kernel) rfl fun K hK =>?_|refine .lead _ (hF2) ?_|(refine .av [0,1,2,3,4,5,6,7,8,45,46,54,63,73,91,117,128,141,144,149,161,186,190,197] hK ?_;clear hK K)|(with_reducible refine .done (hK _ ?_);clear hK K)|refine ae.of rfl ?_|(with_reducible refine aA.aD (fun h =>?_) (fun h =>?_) <;>try simp only[h])) <;>try simp only[aF,R,simprocAttr])
  all_goals clear R
 rcases fk (x.no != s.du+1) with q3 | q3
 rotate_left
 ·rw[e3,if_pos (.inr (.inr (by simpa using q3)))];have R:=y6 @hk1 (y6 @hk2 (y6 @hk3 (y6 @q (y6 @q2 (y6 @q3 (y6 @hw (y6 @cq (y6 @bl aC))))))))
  repeat' ((first |(with_reducible refine .guard (fun hb =>?_) (fun hb =>?_) <;>try simp only[hb])|refine ae.aE (by decide +kernel) rfl fun K hK =>?_|refine .lead _ (hF2) ?_|(refine .av [0,1,2,3,4,5,6,7,8,45,46,54,63,73,91,117,128,141,144,149,161,186,190,197] hK ?_;clear hK K)|(with_reducible refine .done (hK _ ?_);clear hK K)|refine ae.of rfl ?_|(with_reducible refine aA.aD (fun h =>?_) (fun h =>?_) <;>try simp only[h])) <;>try simp only[aF,R,simprocAttr])
  all_goals clear R
 have J:x.aK∈s.here:=of_decide_eq_true q;have U:¬ x.other=s.aw:=by simpa using q2
 have ah:x.no=s.du+1:=by simpa using q3
 rw[e3,if_neg (fun h=>h.elim (fun h=>h J) fun h=>h.elim U fun h=>h ah)];have ao:=ab.ao;obtain ⟨q0,hq0⟩:∃ q0:cm,q0 = { s with here:=gU s.here x.aK,du:=x.no } :=⟨_,rfl⟩
 have hr0:q0.bz=s.bz:=by rw[hq0]
 have R:=y6 @hk1 (y6 @hk2 (y6 @hk3 (y6 @q (y6 @q2 (y6 @q3 (y6 @hw (y6 @cq (y6 @bl aC))))))))
 repeat' ((first |(with_reducible refine .guard (fun hb =>?_) (fun hb =>?_) <;>try simp only[hb])|refine ae.aE (by decide +kernel) rfl fun K hK =>?_|refine .lead _ (hF2) ?_|(refine .av [0,1,2,3,4,5,6,7,8,45,46,54,63,73,91,117,128,141,144,149,161,186,190,197] hK ?_;clear hK K)|(with_reducible refine .done (hK _ ?_);clear hK K)|refine ae.of rfl ?_|(with_reducible refine aA.aD (fun h =>?_) (fun h =>?_) <;>try simp only[h])) <;>try simp only[aF,R,simprocAttr])
 all_goals clear R
 rw[←hq0];refine ae.pF (gs:=vQ) [] [(102,[])] [0,1,2,4,5,6,7,8,9,10,11,3,12,13,14] (by decide +kernel) (cN.of (by simp[e9,cD,pg,I.only])) fun K hK =>?_;have hbs:∀ y:cZ,fA 4 (some [enc y])=some (enc [y]):=fun y=>jf 4 y rfl
 try simp only[eQ,vQ,zy2,zy3,List.nil_append,vf,oL,jN,hbs,cq,aC,bI,simprocAttr]
 refine bP.hJ pH rfl (mE _ []) rfl (by simp[hr0];omega) (by simp[maxLen,hr0];omega) fun v1 o1 g1 f1 =>?_
 try simp only[bI,simprocAttr]
 refine bP.hJ pH rfl g1 (f1 114 (by decide)) (by simp[hr0];omega) (by simp[maxLen,hr0];omega) fun v2 o2 g2 f2 =>?_;have ho2:aj o2 2=some (.box (enc q0)):=(f2 2 (by decide)).trans (f1 2 (by decide));have ho4:aj o2 4=some (.box (.agg [.int .i64 0,.nils 1,.int .i64 0,.nils 4,.nils 4])):=(f2 4 (by decide)).trans (f1 4 (by decide));have ab:=xG (q:=q0) (kX g2);have ht:=tQ (a:=q0.aw) (h:=q0.here) (s:=q0.du) (kX g2) (wO q0.bp);have hf:∀ ts os,aj os 105=aj o2 105→aj os 114=aj o2 114→bg true (au ts os) (gz q0.aw (enc q0.here) q0.du v2 (enc q0.bp))=some (enc ({ s with here:=gU s.here x.aK,du:=x.no,bz:=s.bz++[⟨x.no,x.other,x.aK,false⟩] } : cm)):=fun ts os J U =>
  (tR (es:=q0.bp) (mD rfl g2 (by intro m hm;simp only[zw4,List.not_mem_nil,or_false] at hm;rcases hm with rfl | rfl;exact U;exact J)) (by simp only[lJ])).trans (by rw[hq0];rfl)
 try simp only[ho2,ab,cq,aC,bI,simprocAttr]
 refine .done (hK _ ?_);clear hK K;have R:=y6 @ho4 (y6 @ht (y6 @hf (y6 @cq aC)))
 repeat' ((first |(with_reducible refine .guard (fun hb =>?_) (fun hb =>?_) <;>try simp only[hb])|refine ae.aE (by decide +kernel) rfl fun K hK =>?_|(refine .av [0,1,2,3,4,5,6,7,8,45,46,54,63,73,91,117,128,141,144,149,161,186,190,197] hK ?_;clear hK K)|(with_reducible refine .done (hK _ ?_);clear hK K)|refine ae.of rfl ?_|(with_reducible refine aA.aD (fun h =>?_) (fun h =>?_) <;>try simp only[h])) <;>try simp only[aF,R,simprocAttr])
 all_goals clear R
theorem wy{s:cm}{x:bh}(h:gW s x=true):∃ i,∃ h:i<s.bz.length,jG s x.no=some i∧iS s x.no=(i:Int)∧atR s x=i∧oN s x=(s.bz[i]).dj:=by
 rcases ET s x.no with ⟨J,U⟩ | ⟨i,hi,J,U,-⟩
 ·simp only[gW,J] at h;cases h
 ·exact ⟨i,hi,J,U,by simp only[atR,J];rfl,by simp only[oN,J,zy4 hi]⟩
theorem Co{α β:Type}(e:α→β)(f:α→α):∀ (l:List α) (i:Nat) (h:i<l.length),(l.map e).set i (e (f l[i]))=(l.modify i f).map e
 |x::l,0,_=>rfl
 |x::l,i+1,h=>by
  have:=Co e f l i (by simpa using h);simp only[zz4,List.set_cons_succ,List.modify_succ_cons,List.getElem_cons_succ,this]
theorem ZQ{A:ai}{n i:Nat}{xs:List cZ}{c v:Bool}{rest:List aH}(hi:i<xs.length):df A none n [i,3] (.agg (xs.map enc)) (.bool v) rest (some (.bool c))=aB rest (A.aV n (.box (.agg ((xs.modify i fun r => { r with dj:=v }).map enc)))):=by
 rw[dE (s:=none) (v:=.bool v) (old:=.bool c) rfl rfl rfl];have U:(xs.map (enc (α:=cZ)))[i]?=some (enc xs[i]):=by simp[hi]
 have ah:(enc xs[i]:I).eA [3] (.bool v)=enc ({ xs[i] with dj:=v } : cZ):=rfl;have ar:(xs.map (enc (α:=cZ))).set i (enc ({ xs[i] with dj:=v } : cZ))=(xs.modify i fun r => { r with dj:=v }).map enc:=Co enc (fun r:cZ => { r with dj:=v }) xs i hi;simp only[I.eA,U,ah,ar]
theorem Hk{i:Nat}{xs:List cZ}(hi:i<xs.length):mu i [3] (some (xs.map enc))=some (.bool (xs[i]).dj):=by
 simp only[mu,zy9,zy4 hi,zz7,oH];rfl
theorem Cy{α:Type}(f:α→α):∀ (l r:List α) (i:Nat),i<l.length→(l++r).modify i f=l.modify i f++r
 | [],_,_,h=>by simp at h
 |x::l,r,0,_=>rfl
 |x::l,r,i+1,h=>by
  have:=Cy f l r i (by simpa using h);simp only[zz9,List.modify_succ_cons,this]
theorem Gw(s:cm)(x:bh)(ab:jP s)(hk:x.kind=4):bf Tryz.prog 76 [enc s,enc x] (.tuple [enc (cH s x).1,enc (cH s x).2]):=by
 refine bf.bZ Tryz.func76 mw my mz (u8 rfl) (fun hwf W0 bF E1 =>?_);simp only[lG,l4,bJ,zz1];clear hwf;refine mS _ _ s x ab.ao ?_;unfold kI;have hk1:(x.kind==1)=false:=by rw[hk];rfl
 have hk2:(x.kind==2)=false:=by rw[hk];rfl
 have hk3:(x.kind==3)=false:=by rw[hk];rfl
 have hk4:(x.kind==4)=true:=by rw[hk];rfl
 rcases fk (gW s x) with q | q
 ·rw[show cH s x=(s,false) by simp only[cH,hk,q];rfl];have R:=y6 @hk1 (y6 @hk2 (y6 @hk3 (y6 @hk4 (y6 @q (y6 @cq (y6 @bl aC))))))
  repeat' ((first |(with_reducible refine .guard (fun hb =>?_) (fun hb =>?_) <;>try simp only[hb])|refine ae.aE (by decide +kernel) rfl fun K hK =>?_|(refine .av [0,1,2,3,4,5,6,7,8,45,46,54,63,73,91,117,128,141,144,149,161,186,190,197] hK ?_;clear hK K)|(with_reducible refine .done (hK _ ?_);clear hK K)|refine ae.of rfl ?_|(with_reducible refine aA.aD (fun h =>?_) (fun h =>?_) <;>try simp only[h])) <;>try simp only[aF,R,simprocAttr])
  all_goals clear R
 ·obtain ⟨i,hi,J,U,ah,ar⟩:=wy q;have he:=fun A=>fh (A:=A) 4 hi rfl;rcases fk (s.bz[i]).dj with q2 | q2
  rotate_left
  ·rw[show cH s x=(s,false) by simp only[cH,hk,q,ar,q2];rfl];have R:=y6 @hk1 (y6 @hk2 (y6 @hk3 (y6 @hk4 (y6 @q (y6 @U (y6 @he (y6 @q2 (y6 @cq (y6 @bl aC)))))))))
   repeat' ((first |(with_reducible refine .guard (fun hb =>?_) (fun hb =>?_) <;>try simp only[hb])|refine ae.aE (by decide +kernel) rfl fun K hK =>?_|(refine .av [0,1,2,3,4,5,6,7,8,45,46,54,63,73,91,117,128,141,144,149,161,186,190,197] hK ?_;clear hK K)|(with_reducible refine .done (hK _ ?_);clear hK K)|refine ae.of rfl ?_|(with_reducible refine aA.aD (fun h =>?_) (fun h =>?_) <;>try simp only[h])) <;>try simp only[aF,R,simprocAttr])
   all_goals clear R
  ·rw[show cH s x=({ s with bz:=s.bz.modify i fun r => { r with dj:=true } },true) by simp only[cH,hk,q,ah,ar,q2];rfl];have R:=y6 @hk1 (y6 @hk2 (y6 @hk3 (y6 @hk4 (y6 @q (y6 @U (y6 @he (y6 @q2 (y6 @vf (y6 @jN (y6 @cq (y6 @bl aC)))))))))))
   repeat' ((first |(with_reducible refine .guard (fun hb =>?_) (fun hb =>?_) <;>try simp only[hb])|refine ae.aE (by decide +kernel) rfl fun K hK =>?_|(refine .av [0,1,2,3,4,5,6,7,8,45,46,54,63,73,91,117,128,141,144,149,161,186,190,197] hK ?_;clear hK K)|(with_reducible refine .done (hK _ ?_);clear hK K)|refine ae.of rfl ?_|(with_reducible refine aA.aD (fun h =>?_) (fun h =>?_) <;>try simp only[h])) <;>try simp only[aF,R,simprocAttr])
   all_goals clear R
   have ao:=ab.ao;refine aS.hJ pH rfl (mE _ []) rfl (by simp;omega) (by simp[maxLen];omega) fun v2 o2 g2 f2 =>?_;have hne:s.bz≠[]:=fun h=>by rw[h] at hi;simp at hi
   rw[List.nil_append] at g2;rcases g2 with ⟨hz,_⟩ | ⟨n,qq,hn,rfl,hrow⟩
   ·exact absurd hz hne
   rw[zx4] at hn;subst hn;have ho2:aj o2 2=some (.box (enc s)):=f2 2 (by decide);have ho4:aj o2 4=some (.box (.agg [.int .i64 0,.nils 1,.int .i64 0,.nils 4,.nils 4])):=f2 4 (by decide);have hone:jb (.view 133 [] 4 0 s.bz.length):=⟨rfl,rfl,rfl,rfl⟩
   have hs3:=xG (q:=s) hone
   try simp only[ho2,hs3,cq,aC,bI,simprocAttr]
   have hof:∀ w,c9 [.int .i64 s.aw,enc s.here,.int .i64 s.du,.view 133 [] 4 0 s.bz.length,enc s.bp] 3 3 w=some w:=fun w=>iM (by simp) (by simp[I.sizes,I.size,jT,jz]);have hok:b6 none (.view 133 [] 4 0 s.bz.length)=true:=rfl;have hi':i<(s.bz++qq).length:=by rw[zz6];omega
   have hv:∀ fs,mI 133 [] 4 0 s.bz.length 4 (i:Int) (some fs)=some (.ptr 133 [i]):=fun fs=>by
    have:=WX (m:=133) (sz:=4) (lo:=0) (l:=s.bz.length) (i:=i) (fs:=fs) hi
    rwa [zz1] at this
   have hat:mu i [] (some ((s.bz++qq).map enc))=some (enc s.bz[i]):=by
    simp only[mu,zy9,zy6 hi,zy4 hi,zz7,oH,yn]
   have hat2:=Hk hi';have hst:=fun A rest c v=>ZQ (A:=A) (n:=133) (rest:=rest) (c:=c) (v:=v) hi';simp only[Cy _ _ _ _ hi] at hst;have ht:=tQ (a:=s.aw) (h:=s.here) (s:=s.du) hone (wO s.bp);have hf:∀ ts os,aj os 133=some (.box (.agg (((s.bz.modify i fun r => { r with dj:=true })++qq).map enc)))→bg true (au ts os) (gz s.aw (enc s.here) s.du (.view 133 [] 4 0 s.bz.length) (enc s.bp))=some (enc ({ s with bz:=s.bz.modify i fun r => { r with dj:=true } } : cm)):=fun ts os J =>
    tR (rs:=s.bz.modify i fun r => { r with dj:=true }) (mD (esz:=4) (S:=[133]) (os:=os) rfl (.inr ⟨133,qq,zx4.2 rfl,by rw[List.length_modify],J⟩) fun _ _=>rfl) (by simp only[lJ])
   have R:=y6 @hrow (y6 @hof (y6 @hv (y6 @hat (y6 @hat2 (y6 @hst (y6 @ho4 (y6 @ht (y6 @hf (y6 @hok (y6 @jN (y6 @cq (y6 @bl aC))))))))))))
   repeat' ((first |(with_reducible refine .guard (fun hb =>?_) (fun hb =>?_) <;>try simp only[hb])|refine ae.aE (by decide +kernel) rfl fun K hK =>?_|(refine .av [0,1,2,3,4,5,6,7,8,45,46,54,63,73,91,117,128,141,144,149,161,186,190,197] hK ?_;clear hK K)|(with_reducible refine .done (hK _ ?_);clear hK K)|refine ae.of rfl ?_|(with_reducible refine aA.aD (fun h =>?_) (fun h =>?_) <;>try simp only[h])) <;>try simp only[aF,R,zz9,simprocAttr])
   all_goals clear R
theorem Gx(s:cm)(x:bh)(ab:jP s)(hk:x.kind=5):bf Tryz.prog 76 [enc s,enc x] (.tuple [enc (cH s x).1,enc (cH s x).2]):=by
 refine bf.bZ Tryz.func76 mw my mz (u8 rfl) (fun hwf W0 bF E1 =>?_);simp only[lG,l4,bJ,zz1];clear hwf;refine mS _ _ s x ab.ao ?_;unfold kI;have hk1:(x.kind==1)=false:=by rw[hk];rfl
 have hk2:(x.kind==2)=false:=by rw[hk];rfl
 have hk3:(x.kind==3)=false:=by rw[hk];rfl
 have hk4:(x.kind==4)=false:=by rw[hk];rfl
 have hk5:(x.kind==5)=true:=by rw[hk];rfl
 rcases fk (gW s x) with q | q
 ·rw[show cH s x=(s,false) by simp only[cH,hk,q];rfl];have R:=y6 @hk1 (y6 @hk2 (y6 @hk3 (y6 @hk4 (y6 @hk5 (y6 @q (y6 @cq (y6 @bl aC)))))))
  repeat' ((first |(with_reducible refine .guard (fun hb =>?_) (fun hb =>?_) <;>try simp only[hb])|refine ae.aE (by decide +kernel) rfl fun K hK =>?_|(refine .av [0,1,2,3,4,5,6,7,8,45,46,54,63,73,91,117,128,141,144,149,161,186,190,197] hK ?_;clear hK K)|(with_reducible refine .done (hK _ ?_);clear hK K)|refine ae.of rfl ?_|(with_reducible refine aA.aD (fun h =>?_) (fun h =>?_) <;>try simp only[h])) <;>try simp only[aF,R,simprocAttr])
  all_goals clear R
 ·obtain ⟨i,hi,J,U,ah,ar⟩:=wy q;rw[show cH s x=(jg s i,true) by simp only[cH,hk,q,ah];rfl];have hF:=xP s i hi ab.ao;have R:=y6 @hk1 (y6 @hk2 (y6 @hk3 (y6 @hk4 (y6 @hk5 (y6 @q (y6 @U (y6 @cq (y6 @bl aC))))))))
  repeat' ((first |(with_reducible refine .guard (fun hb =>?_) (fun hb =>?_) <;>try simp only[hb])|refine ae.aE (by decide +kernel) rfl fun K hK =>?_|refine .lead _ (hF) ?_|(refine .av [0,1,2,3,4,5,6,7,8,45,46,54,63,73,91,117,128,141,144,149,161,186,190,197] hK ?_;clear hK K)|(with_reducible refine .done (hK _ ?_);clear hK K)|refine ae.of rfl ?_|(with_reducible refine aA.aD (fun h =>?_) (fun h =>?_) <;>try simp only[h])) <;>try simp only[aF,R,simprocAttr])
  all_goals clear R
theorem Gy(s:cm)(x:bh)(ab:jP s)(hk:x.kind=6):bf Tryz.prog 76 [enc s,enc x] (.tuple [enc (cH s x).1,enc (cH s x).2]):=by
 refine bf.bZ Tryz.func76 mw my mz (u8 rfl) (fun hwf W0 bF E1 =>?_);simp only[lG,l4,bJ,zz1];clear hwf;refine mS _ _ s x ab.ao ?_;unfold kI;have hk1:(x.kind==1)=false:=by rw[hk];rfl
 have hk2:(x.kind==2)=false:=by rw[hk];rfl
 have hk3:(x.kind==3)=false:=by rw[hk];rfl
 have hk4:(x.kind==4)=false:=by rw[hk];rfl
 have hk5:(x.kind==5)=false:=by rw[hk];rfl
 have hk6:(x.kind==6)=true:=by rw[hk];rfl
 rcases fk (gW s x) with q | q
 ·rw[show cH s x=(s,false) by simp only[cH,hk,q];rfl];have R:=y6 @hk1 (y6 @hk2 (y6 @hk3 (y6 @hk4 (y6 @hk5 (y6 @hk6 (y6 @q (y6 @cq (y6 @bl aC))))))))
  repeat' ((first |(with_reducible refine .guard (fun hb =>?_) (fun hb =>?_) <;>try simp only[hb])|refine ae.aE (by decide +kernel) rfl fun K hK =>?_|(refine .av [0,1,2,3,4,5,6,7,8,45,46,54,63,73,91,117,128,141,144,149,161,186,190,197] hK ?_;clear hK K)|(with_reducible refine .done (hK _ ?_);clear hK K)|refine ae.of rfl ?_|(with_reducible refine aA.aD (fun h =>?_) (fun h =>?_) <;>try simp only[h])) <;>try simp only[aF,R,simprocAttr])
  all_goals clear R
 ·obtain ⟨i,hi,J,U,ah,ar⟩:=wy q;have he:=fun A=>fh (A:=A) 4 hi rfl;rcases fk (s.bz[i]).dj with q2 | q2
  ·rw[show cH s x=(s,false) by simp only[cH,hk,q,ar,q2];rfl];have R:=y6 @hk1 (y6 @hk2 (y6 @hk3 (y6 @hk4 (y6 @hk5 (y6 @hk6 (y6 @q (y6 @U (y6 @he (y6 @q2 (y6 @cq (y6 @bl aC)))))))))))
   repeat' ((first |(with_reducible refine .guard (fun hb =>?_) (fun hb =>?_) <;>try simp only[hb])|refine ae.aE (by decide +kernel) rfl fun K hK =>?_|(refine .av [0,1,2,3,4,5,6,7,8,45,46,54,63,73,91,117,128,141,144,149,161,186,190,197] hK ?_;clear hK K)|(with_reducible refine .done (hK _ ?_);clear hK K)|refine ae.of rfl ?_|(with_reducible refine aA.aD (fun h =>?_) (fun h =>?_) <;>try simp only[h])) <;>try simp only[aF,R,simprocAttr])
   all_goals clear R
  ·rw[show cH s x=({ jg s i with here:=ej s.here x.aK },true) by simp only[cH,hk,q,ah,ar,q2];rfl];have hF:=xP s i hi ab.ao;have hF2:=rY s.here x.aK ab.bG;have R:=y6 @hk1 (y6 @hk2 (y6 @hk3 (y6 @hk4 (y6 @hk5 (y6 @hk6 (y6 @q (y6 @U (y6 @he (y6 @q2 (y6 @cq (y6 @bl aC)))))))))))
   repeat' ((first |(with_reducible refine .guard (fun hb =>?_) (fun hb =>?_) <;>try simp only[hb])|refine ae.aE (by decide +kernel) rfl fun K hK =>?_|refine .lead _ (hF) ?_|refine .lead _ (hF2) ?_|(refine .av [0,1,2,3,4,5,6,7,8,45,46,54,63,73,91,117,128,141,144,149,161,186,190,197] hK ?_;clear hK K)|(with_reducible refine .done (hK _ ?_);clear hK K)|refine ae.of rfl ?_|(with_reducible refine aA.aD (fun h =>?_) (fun h =>?_) <;>try simp only[h])) <;>try simp only[aF,R,simprocAttr])
   all_goals clear R
theorem Gz(s:cm)(x:bh)(ab:jP s)(hk:x.kind=7):bf Tryz.prog 76 [enc s,enc x] (.tuple [enc (cH s x).1,enc (cH s x).2]):=by
 refine bf.bZ Tryz.func76 mw my mz (u8 rfl) (fun hwf W0 bF E1 =>?_);simp only[lG,l4,bJ,zz1];clear hwf;refine mS _ _ s x ab.ao ?_;unfold kI;have hk1:(x.kind==1)=false:=by simp;omega
 have hk2:(x.kind==2)=false:=by simp;omega
 have hk3:(x.kind==3)=false:=by simp;omega
 have hk4:(x.kind==4)=false:=by simp;omega
 have hk5:(x.kind==5)=false:=by simp;omega
 have hk6:(x.kind==6)=false:=by simp;omega
 have e1:cH s x=if x.other=s.aw∨jk s x.other x.no≠0 then (s,false)
   else if x.kind=7 then if decide (x.aK∈s.here)||iy s x.aK then (s,false) else (fZ { s with here:=ej s.here x.aK } x,true)
   else (fZ s x,true):=by
  unfold cH;rw[if_neg (by omega),if_neg (by omega),if_neg (by omega),if_neg (by omega),if_neg (by omega),if_neg (by omega)]
 have hF1:=x4 s x.other x.no ab.ab;have hF2:=ug s x.aK ab.ao;have hF3:=rY s.here x.aK ab.bG;rcases fk (x.other==s.aw) with q | q
 rotate_left
 ·rw[e1,if_pos (.inl (by simpa using q))];have R:=y6 @hk1 (y6 @hk2 (y6 @hk3 (y6 @hk4 (y6 @hk5 (y6 @hk6 (y6 @q (y6 @cq (y6 @bl aC))))))))
  repeat' ((first |(with_reducible refine .guard (fun hb =>?_) (fun hb =>?_) <;>try simp only[hb])|refine ae.aE (by decide +kernel) rfl fun K hK =>?_|(refine .av [0,1,2,3,4,5,6,7,8,45,46,54,63,73,91,117,128,141,144,149,161,186,190,197] hK ?_;clear hK K)|(with_reducible refine .done (hK _ ?_);clear hK K)|refine ae.of rfl ?_|(with_reducible refine aA.aD (fun h =>?_) (fun h =>?_) <;>try simp only[h])) <;>try simp only[aF,R,simprocAttr])
  all_goals clear R
 rcases fk (jk s x.other x.no != 0) with q2 | q2
 rotate_left
 ·rw[e1,if_pos (.inr (by simpa using q2))];have R:=y6 @hk1 (y6 @hk2 (y6 @hk3 (y6 @hk4 (y6 @hk5 (y6 @hk6 (y6 @q (y6 @q2 (y6 @cq (y6 @bl aC)))))))))
  repeat' ((first |(with_reducible refine .guard (fun hb =>?_) (fun hb =>?_) <;>try simp only[hb])|refine ae.aE (by decide +kernel) rfl fun K hK =>?_|refine .flat _ (hF1) rfl ?_|(refine .av [0,1,2,3,4,5,6,7,8,45,46,54,63,73,91,117,128,141,144,149,161,186,190,197] hK ?_;clear hK K)|(with_reducible refine .done (hK _ ?_);clear hK K)|refine ae.of rfl ?_|(with_reducible refine aA.aD (fun h =>?_) (fun h =>?_) <;>try simp only[h])) <;>try simp only[aF,R,simprocAttr])
  all_goals clear R
 rw[e1,if_neg (fun h=>h.elim (by simpa using q) (by simpa using q2))];rw[if_pos hk];have hk7:(x.kind==7)=true:=by rw[hk];rfl
 rcases fk (decide (x.aK∈s.here)) with q3 | q3
 ·rcases fk (iy s x.aK) with q4 | q4
  ·rw[show (if (decide (x.aK∈s.here)||iy s x.aK)=true then ((s,false):cm×Bool) else (fZ { s with here:=ej s.here x.aK } x,true))=(fZ { s with here:=ej s.here x.aK } x,true) by rw[q3,q4];rfl];have hF4:=xQ { s with here:=ej s.here x.aK } x ab.ab;have R:=y6 @hk1 (y6 @hk2 (y6 @hk3 (y6 @hk4 (y6 @hk5 (y6 @hk6 (y6 @hk7 (y6 @q (y6 @q2 (y6 @q3 (y6 @q4 (y6 @cq (y6 @bl aC))))))))))))
   repeat' ((first |(with_reducible refine .guard (fun hb =>?_) (fun hb =>?_) <;>try simp only[hb])|refine ae.aE (by decide +kernel) rfl fun K hK =>?_|refine .flat _ (hF1) rfl ?_|refine .flat _ (hF2) rfl ?_|refine .lead _ (hF3) ?_|refine .lead _ (hF4) ?_|(refine .av [0,1,2,3,4,5,6,7,8,45,46,54,63,73,91,117,128,141,144,149,161,186,190,197] hK ?_;clear hK K)|(with_reducible refine .done (hK _ ?_);clear hK K)|refine ae.of rfl ?_|(with_reducible refine aA.aD (fun h =>?_) (fun h =>?_) <;>try simp only[h])) <;>try simp only[aF,R,simprocAttr])
   all_goals clear R
  ·rw[show (if (decide (x.aK∈s.here)||iy s x.aK)=true then ((s,false):cm×Bool) else (fZ { s with here:=ej s.here x.aK } x,true))=(s,false) by rw[q3,q4];rfl];have R:=y6 @hk1 (y6 @hk2 (y6 @hk3 (y6 @hk4 (y6 @hk5 (y6 @hk6 (y6 @hk7 (y6 @q (y6 @q2 (y6 @q3 (y6 @q4 (y6 @cq (y6 @bl aC))))))))))))
   repeat' ((first |(with_reducible refine .guard (fun hb =>?_) (fun hb =>?_) <;>try simp only[hb])|refine ae.aE (by decide +kernel) rfl fun K hK =>?_|refine .flat _ (hF1) rfl ?_|refine .flat _ (hF2) rfl ?_|(refine .av [0,1,2,3,4,5,6,7,8,45,46,54,63,73,91,117,128,141,144,149,161,186,190,197] hK ?_;clear hK K)|(with_reducible refine .done (hK _ ?_);clear hK K)|refine ae.of rfl ?_|(with_reducible refine aA.aD (fun h =>?_) (fun h =>?_) <;>try simp only[h])) <;>try simp only[aF,R,simprocAttr])
   all_goals clear R
 ·rw[show (if (decide (x.aK∈s.here)||iy s x.aK)=true then ((s,false):cm×Bool) else (fZ { s with here:=ej s.here x.aK } x,true))=(s,false) by rw[q3];rfl];have R:=y6 @hk1 (y6 @hk2 (y6 @hk3 (y6 @hk4 (y6 @hk5 (y6 @hk6 (y6 @hk7 (y6 @q (y6 @q2 (y6 @q3 (y6 @cq (y6 @bl aC)))))))))))
  repeat' ((first |(with_reducible refine .guard (fun hb =>?_) (fun hb =>?_) <;>try simp only[hb])|refine ae.aE (by decide +kernel) rfl fun K hK =>?_|refine .flat _ (hF1) rfl ?_|refine .flat _ (hF2) rfl ?_|(refine .av [0,1,2,3,4,5,6,7,8,45,46,54,63,73,91,117,128,141,144,149,161,186,190,197] hK ?_;clear hK K)|(with_reducible refine .done (hK _ ?_);clear hK K)|refine ae.of rfl ?_|(with_reducible refine aA.aD (fun h =>?_) (fun h =>?_) <;>try simp only[h])) <;>try simp only[aF,R,simprocAttr])
  all_goals clear R
theorem GA(s:cm)(x:bh)(ab:jP s)(hk:8≤x.kind∨x.kind<1):bf Tryz.prog 76 [enc s,enc x] (.tuple [enc (cH s x).1,enc (cH s x).2]):=by
 refine bf.bZ Tryz.func76 mw my mz (u8 rfl) (fun hwf W0 bF E1 =>?_);simp only[lG,l4,bJ,zz1];clear hwf;refine mS _ _ s x ab.ao ?_;unfold kI;have hk1:(x.kind==1)=false:=by simp;omega
 have hk2:(x.kind==2)=false:=by simp;omega
 have hk3:(x.kind==3)=false:=by simp;omega
 have hk4:(x.kind==4)=false:=by simp;omega
 have hk5:(x.kind==5)=false:=by simp;omega
 have hk6:(x.kind==6)=false:=by simp;omega
 have e1:cH s x=if x.other=s.aw∨jk s x.other x.no≠0 then (s,false)
   else if x.kind=7 then if decide (x.aK∈s.here)||iy s x.aK then (s,false) else (fZ { s with here:=ej s.here x.aK } x,true)
   else (fZ s x,true):=by
  unfold cH;rw[if_neg (by omega),if_neg (by omega),if_neg (by omega),if_neg (by omega),if_neg (by omega),if_neg (by omega)]
 have hF1:=x4 s x.other x.no ab.ab;have hF2:=ug s x.aK ab.ao;have hF3:=rY s.here x.aK ab.bG;rcases fk (x.other==s.aw) with q | q
 rotate_left
 ·rw[e1,if_pos (.inl (by simpa using q))];have R:=y6 @hk1 (y6 @hk2 (y6 @hk3 (y6 @hk4 (y6 @hk5 (y6 @hk6 (y6 @q (y6 @cq (y6 @bl aC))))))))
  repeat' ((first |(with_reducible refine .guard (fun hb =>?_) (fun hb =>?_) <;>try simp only[hb])|refine ae.aE (by decide +kernel) rfl fun K hK =>?_|(refine .av [0,1,2,3,4,5,6,7,8,45,46,54,63,73,91,117,128,141,144,149,161,186,190,197] hK ?_;clear hK K)|(with_reducible refine .done (hK _ ?_);clear hK K)|refine ae.of rfl ?_|(with_reducible refine aA.aD (fun h =>?_) (fun h =>?_) <;>try simp only[h])) <;>try simp only[aF,R,simprocAttr])
  all_goals clear R
 rcases fk (jk s x.other x.no != 0) with q2 | q2
 rotate_left
 ·rw[e1,if_pos (.inr (by simpa using q2))];have R:=y6 @hk1 (y6 @hk2 (y6 @hk3 (y6 @hk4 (y6 @hk5 (y6 @hk6 (y6 @q (y6 @q2 (y6 @cq (y6 @bl aC)))))))))
  repeat' ((first |(with_reducible refine .guard (fun hb =>?_) (fun hb =>?_) <;>try simp only[hb])|refine ae.aE (by decide +kernel) rfl fun K hK =>?_|refine .flat _ (hF1) rfl ?_|(refine .av [0,1,2,3,4,5,6,7,8,45,46,54,63,73,91,117,128,141,144,149,161,186,190,197] hK ?_;clear hK K)|(with_reducible refine .done (hK _ ?_);clear hK K)|refine ae.of rfl ?_|(with_reducible refine aA.aD (fun h =>?_) (fun h =>?_) <;>try simp only[h])) <;>try simp only[aF,R,simprocAttr])
  all_goals clear R
 rw[e1,if_neg (fun h=>h.elim (by simpa using q) (by simpa using q2))];rw[if_neg (by omega)];have hk7:(x.kind==7)=false:=by simp;omega
 have hF4:=xQ s x ab.ab;have R:=y6 @hk1 (y6 @hk2 (y6 @hk3 (y6 @hk4 (y6 @hk5 (y6 @hk6 (y6 @hk7 (y6 @q (y6 @q2 (y6 @cq (y6 @bl aC))))))))))
 repeat' ((first |(with_reducible refine .guard (fun hb =>?_) (fun hb =>?_) <;>try simp only[hb])|refine ae.aE (by decide +kernel) rfl fun K hK =>?_|refine .flat _ (hF1) rfl ?_|refine .lead _ (hF4) ?_|(refine .av [0,1,2,3,4,5,6,7,8,45,46,54,63,73,91,117,128,141,144,149,161,186,190,197] hK ?_;clear hK K)|(with_reducible refine .done (hK _ ?_);clear hK K)|refine ae.of rfl ?_|(with_reducible refine aA.aD (fun h =>?_) (fun h =>?_) <;>try simp only[h])) <;>try simp only[aF,R,simprocAttr])
 all_goals clear R
theorem r0(s:cm)(x:bh)(ab:jP s):bf Tryz.prog 76 [enc s,enc x] (.tuple [enc (cH s x).1,enc (cH s x).2]):=by
 by_cases J:x.kind=1;· exact Gt s x ab J
 by_cases U:x.kind=2;· exact Gu s x ab U
 by_cases ah:x.kind=3;· exact Gv s x ab ah
 by_cases ar:x.kind=4;· exact Gw s x ab ar
 by_cases h5:x.kind=5;· exact Gx s x ab h5
 by_cases h6:x.kind=6;· exact Gy s x ab h6
 by_cases h7:x.kind=7;· exact Gz s x ab h7
 exact GA s x ab (by omega)
theorem Dc:∀ (l:List Int) (n:Int),(ej l n).length≤l.length+1
 | [],n=>by simp[ej]
 |x::l,n=>by
  have:=Dc l n;simp only[ej];split
  ·simp only[zw2];omega
  ·split <;>simp
theorem Xj(l:List Int)(n:Int):(gU l n).length≤l.length:=List.length_filter_le _ _
theorem MG(s:cm)(i:Nat):(jg s i).bz.length≤s.bz.length:=by
 simp only[jg,zz6,zx7,List.length_drop];omega
structure kJ (s:cm) (i:Nat):Prop where
 ao:s.bz.length≤i
 bG:s.here.length≤i
 ab:s.bp.length≤i
 aY:0≤s.du
 J:s.du≤i
theorem kJ.small{s:cm}{i:Nat}(h:kJ s i)(hi:i≤1000):jP s:=by
 obtain ⟨J,U,ah,ar,h5⟩:=h;exact ⟨by omega,by omega,by omega,ar,by omega⟩
theorem kJ.next{s:cm}{i:Nat}(h:kJ s i)(x:bh)(ht:(cH s x).2=true):kJ (cH s x).1 (i+1):=by
 obtain ⟨J,U,ah,ar,h5⟩:=h;have hp:=Dc s.here x.aK;have hq:=Xj s.here x.aK;have he:=MG s (atR s x);have hm:(s.bz.modify (atR s x) fun r => { r with dj:=true }).length=s.bz.length:=List.length_modify ..;have e1:(jg s (atR s x)).here=s.here:=rfl;have e2:(jg s (atR s x)).bp=s.bp:=rfl;have e3:(jg s (atR s x)).du=s.du:=rfl;unfold cH at ht ⊢;split at ht
 ·rename_i hk;rw[if_pos hk];split at ht
  ·cases ht
  ·rename_i h;rw[if_neg h];exact ⟨by simp only;omega,by simp only;omega,by simp only;omega,ar,by simp only;omega⟩
 rename_i hk;rw[if_neg hk];clear hk;split at ht
 ·rename_i hk;rw[if_pos hk];exact ⟨by simp only;omega,by simp only;omega,by simp only;omega,ar,by simp only;omega⟩
 rename_i hk;rw[if_neg hk];clear hk;split at ht
 ·rename_i hk;rw[if_pos hk];split at ht
  ·cases ht
  ·rename_i h;rw[if_neg h];have:x.no=s.du+1:=Classical.byContradiction fun hn=>h (.inr (.inr hn));exact ⟨by simp only[zz6,List.length_singleton];omega,by simp only;omega,by simp only;omega,by simp only;omega,by simp only;omega⟩
 rename_i hk;rw[if_neg hk];clear hk;split at ht
 ·rename_i hk;rw[if_pos hk];split at ht
  ·rename_i h;rw[if_pos h];exact ⟨by simp only[List.length_modify];omega,by simp only;omega,by simp only;omega,ar,by simp only;omega⟩
  ·cases ht
 rename_i hk;rw[if_neg hk];clear hk;split at ht
 ·rename_i hk;rw[if_pos hk];split at ht
  ·rename_i h;rw[if_pos h];exact ⟨by simp only;omega,by simp only[e1];omega,by simp only[e2];omega,by simp only[e3];omega,by simp only[e3];omega⟩
  ·cases ht
 rename_i hk;rw[if_neg hk];clear hk;split at ht
 ·rename_i hk;rw[if_pos hk];split at ht
  ·rename_i h;rw[if_pos h];exact ⟨by simp only;omega,by simp only;omega,by simp only[e2];omega,by simp only[e3];omega,by simp only[e3];omega⟩
  ·cases ht
 rename_i hk;rw[if_neg hk];clear hk;split at ht
 ·cases ht
 rename_i hk;rw[if_neg hk];clear hk;split at ht
 ·rename_i hk;rw[if_pos hk];split at ht
  ·cases ht
  ·rename_i h;rw[if_neg h];exact ⟨by simp only[fZ];omega,by simp only[fZ];omega,by simp only[fZ,zz6,List.length_singleton];omega,ar,by simp only[fZ];omega⟩
 ·rename_i hk;rw[if_neg hk];exact ⟨by simp only[fZ];omega,by simp only[fZ];omega,by simp only[fZ,zz6,List.length_singleton];omega,ar,by simp only[fZ];omega⟩
def fH(s:cm):List bh→cm×Bool
 | []=>(s,true)
 |x::l=>if fP x then (if (cH s x).2 then fH (cH s x).1 l else (s,false)) else (s,false)
def iY(aw:Int):cm:=⟨aw,[],0,[],[]⟩
def rI(aw:Int):I:=.agg [.int .i64 aw,.nils 1,.int .i64 0,.nils 4,.nils 4]
theorem HS(aw:Int):(dK [.int .i64 0,.nils 1,.int .i64 0,.nils 4,.nils 4] [(0,.int .i64 aw)]).map I.agg=some (rI aw):=by simp[dK,I.bT,I.size];rfl
def rW(b:I)(s:cm):Prop:=(b=rI s.aw∧s=iY s.aw)∨b=enc s
theorem rW.AU{b:I}{s:cm}(h:rW b s):b6 (some 5) b=true∧(∀ aN A,bg aN A b=some (enc s))∧(∀ A n rest (q:cm),df A (some 5) n [] b (enc q) rest (some b)=aB rest (A.aV n (.box (enc q))))∧(∀ A n rest x y,df A (some 5) n [] (.agg [.int .i64 x,.nils 1,.int .i64 y,.nils 4,.nils 4]) b rest (some (.agg [.int .i64 x,.nils 1,.int .i64 y,.nils 4,.nils 4]))=aB rest (A.aV n (.box b)))∧b.bT=true∧(∀ p,b.only p=true):=by
 rcases h with ⟨rfl,U⟩ | rfl
 ·refine ⟨rfl,fun aN A =>?_,fun A n rest q =>?_,fun A n rest x y=>dE rfl rfl rfl,rfl,fun _=>rfl⟩
  ·rw[U];simp only[rI,bg,b8];rfl
  ·rw[dE (er _) (by rw[fg];rfl) ((eJ _).trans rfl),og]
 ·refine ⟨by rw[fg];rfl,fun aN A=>by simp only[lJ],fun A n rest q =>?_,fun A n rest x y =>?_,er _,fun _=>cJ _ _⟩
  ·rw[dE (er _) (by rw[fg];rfl) ((eJ _).trans (eJ _).symm),og]
  ·rw[dE (er _) (by rw[fg];rfl) (eJ _),og]
def ux(p:bx)(n:Nat)(t:Nat×I×cm):ai:=au [(0,enc p),(1,.int .i64 n),(2,.ptr 2 []),(4,.ptr 4 []),(5,.bool false),(6,.ptr 6 []),(7,.int .i64 t.1)] [(6,.box t.2.1),(4,.box (.agg [.int .i64 0,.nils 1,.int .i64 0,.nils 4,.nils 4])),(2,.box (enc p))]
theorem xY(p:bx)(n:Nat)(hn:n≤p.j.length)(ao:n≤200):bf Tryz.prog 65 [enc p,enc (n:Int)] (.tuple [enc (fH (iY p.aw) (p.j.take n)).1,enc (fH (iY p.aw) (p.j.take n)).2]):=by
 refine bf.bZ Tryz.func65 II JP La (u8 rfl) (fun hwf W0 bF E1 =>?_);simp only[zm,D9,bJ,zz1];clear hwf;generalize hL:p.j.take n=L;have hLl:L.length=n:=by rw[←hL,zx7];omega
 obtain ⟨z1,z2,z3,z4,z5,z6⟩:=rW.AU (b:=rI p.aw) (s:=iY p.aw) (.inl ⟨rfl,rfl⟩);have R:=y6 @HS (y6 @z4 (y6 @cq (y6 @dA (y6 @bl aC))))
 repeat' ((first |refine ae.aE (by decide +kernel) rfl fun K hK =>?_|(refine .av [0,1,2,4,5,6,7,8,9,15,24,37] hK ?_;clear hK K)|(with_reducible refine .done (hK _ ?_);clear hK K)|refine ae.of rfl ?_|(with_reducible refine aA.aD (fun h =>?_) (fun h =>?_) <;>try simp only[h])) <;>try simp only[aF,R,simprocAttr])
 all_goals clear R
 refine ae.loop (ux p n) (fun t=>t.1≤n∧fH (iY p.aw) L=fH t.2.2 (L.drop t.1)∧kJ t.2.2 t.1∧rW t.2.1 t.2.2) (fun t=>n-t.1) (0,rI p.aw,iY p.aw) ⟨zw8 _,rfl,⟨zw8 _,zw8 _,zw8 _,Int.le_refl _,Int.le_refl _⟩,.inl ⟨rfl,rfl⟩⟩ ?_ ?_
 ·simp only[ux];clear z1 z2 z3 z4 z5 hL;refine bH.dW ?_ ?_ ?_ ?_ <;>simp[*,cG,dF,cW,cY,az,cD,ez,I.only,I.cv,aq.only,cJ]
 clear z1 z2 z3 z4 z5 z6;rintro ⟨i,b,s⟩ ⟨hi,hr,hu,hb0⟩;simp only at hi hr hu hb0;obtain ⟨z1,z2,z3,z4,z5,z6⟩:=hb0.AU;simp only[ux];by_cases hlt:i<n
 ·have hc:=gV hlt;have hij:i<p.j.length:=by omega
  have he:=fun A=>fh (A:=A) 4 hij rfl;have hw:=gZ (i:=i) (by omega);have hx:L.drop i=p.j[i]::L.drop (i+1):=by
   have U:i<L.length:=by omega
   rw[List.drop_eq_getElem_cons U]
   congr 1
   subst hL;rw[List.getElem_take]
  rw[hx] at hr;obtain ⟨x,hxe⟩:∃ x,x=p.j[i]:=⟨_,rfl⟩
  rw[←hxe] at he hr;have hF1:=F4 x;have hF2:=r0 s x (hu.small (by omega));rcases fk (fP x) with q | q
  ·rw[hr,show fH s (x::L.drop (i+1))=(s,false) by simp only[fH,q];rfl];rw[q] at hF1;have R:=y6 @hc (y6 @he (y6 @z1 (y6 @z2 (y6 @z4 (y6 @cq (y6 @dA (y6 @bl aC)))))))
   repeat' ((first |refine ae.aE (by decide +kernel) rfl fun K hK =>?_|refine .flat _ (hF1) rfl ?_|(refine .av [0,1,2,4,5,6,7,8,9,15,24,37] hK ?_;clear hK K)|(with_reducible refine .done (hK _ ?_);clear hK K)|refine ae.of rfl ?_|(with_reducible refine aA.aD (fun h =>?_) (fun h =>?_) <;>try simp only[h])) <;>try simp only[aF,R,simprocAttr])
   all_goals clear R
  ·rw[q] at hF1;rcases fk (cH s x).2 with q2 | q2
   ·rw[hr,show fH s (x::L.drop (i+1))=(s,false) by simp only[fH,q,q2];rfl];rw[q2] at hF2;have R:=y6 @hc (y6 @he (y6 @z1 (y6 @z2 (y6 @z4 (y6 @cq (y6 @dA (y6 @bl aC)))))))
    repeat' ((first |refine ae.aE (by decide +kernel) rfl fun K hK =>?_|refine .flat _ (hF1) rfl ?_|refine .lead _ (hF2) ?_|(refine .av [0,1,2,4,5,6,7,8,9,15,24,37] hK ?_;clear hK K)|(with_reducible refine .done (hK _ ?_);clear hK K)|refine ae.of rfl ?_|(with_reducible refine aA.aD (fun h =>?_) (fun h =>?_) <;>try simp only[h])) <;>try simp only[aF,R,simprocAttr])
    all_goals clear R
   ·have hu':=hu.next x q2
    have hr':fH (iY p.aw) L=fH (cH s x).1 (L.drop (i+1)):=by rw[hr];simp only[fH,q,q2,if_true]
    rw[q2] at hF2;have R:=y6 @hc (y6 @he (y6 @hw (y6 @z1 (y6 @z2 (y6 @z3 (y6 @cq (y6 @dA (y6 @bl aC))))))))
    repeat' ((first |refine ae.aE (by decide +kernel) rfl fun K hK =>?_|refine .flat _ (hF1) rfl ?_|refine .lead _ (hF2) ?_|(refine .av [0,1,2,4,5,6,7,8,9,15,24,37] hK ?_;clear hK K)|(with_reducible refine .done (hK _ ?_);clear hK K)|refine ae.of rfl ?_|(with_reducible refine aA.aD (fun h =>?_) (fun h =>?_) <;>try simp only[h])) <;>try simp only[aF,R,simprocAttr])
    all_goals clear R
    refine ⟨(i+1,enc (cH s x).1,(cH s x).1),⟨by simp only;omega,hr',hu',.inr rfl⟩,by simp only;omega,?_⟩;simp only;clear hr hr' z1 z2 z3 z4 z5 z6;refine bH.dW ?_ ?_ ?_ ?_ <;>simp[cG,dF,cW,cY,az,cD,ez,I.only,I.cv,aq.only,cJ]
 ·have hc:=hE hlt;have af:L.drop i=[]:=List.drop_eq_nil_of_le (by omega);rw[hr,af,show fH s []=(s,true) from rfl];have R:=y6 @hc (y6 @z1 (y6 @z2 (y6 @z4 (y6 @cq (y6 @dA (y6 @bl aC))))))
  repeat' ((first |refine ae.aE (by decide +kernel) rfl fun K hK =>?_|(refine .av [0,1,2,4,5,6,7,8,9,15,24,37] hK ?_;clear hK K)|(with_reducible refine .done (hK _ ?_);clear hK K)|refine ae.of rfl ?_|(with_reducible refine aA.aD (fun h =>?_) (fun h =>?_) <;>try simp only[h])) <;>try simp only[aF,R,simprocAttr])
  all_goals clear R
def hX(p:bx):cm:=(fH (iY p.aw) p.j).1
theorem pY(p:bx)(ao:p.j.length≤200):bf Tryz.prog 75 [enc p] (enc (hX p)):=by
 refine bf.bZ Tryz.func75 IT JY Lj (u8 rfl) (fun hwf W0 bF E1 =>?_);simp only[zx,Ej,bJ];clear hwf;have hF:=xY p p.j.length (zz3 _) ao;rw[List.take_length] at hF;simp only[hX];have R:=y6 @cq (y6 @dA aC)
 repeat' ((first |refine ae.aE (by decide +kernel) rfl fun K hK =>?_|refine .lead _ (hF) ?_|(refine .av [0,1,2,3] hK ?_;clear hK K)|(with_reducible refine .done (hK _ ?_);clear hK K)|refine ae.of rfl ?_|(with_reducible refine aA.aD (fun h =>?_) (fun h =>?_) <;>try simp only[h])) <;>try simp only[aF,R,simprocAttr])
 all_goals clear R
def gM(p:bx):Int:=if cK 0 5 p.aw=true∧p.j.length≤200∧cK 0 p.j.length p.eD=true∧(fH (iY p.aw) p.j).2=true then 0 else 91
theorem uj(p:bx):bf Tryz.prog 24 [enc p] (enc (gM p)):=by
 refine bf.bZ Tryz.func24 Ik Jt KO (u8 rfl) (fun hwf W0 bF E1 =>?_);simp only[yV,DJ,bJ];clear hwf;have hF1:=pV p.aw;have hF2:=oB p.eD 0 p.j.length;rcases fk (cK 0 5 p.aw) with q | q
 ·rw[show gM p=91 from if_neg fun h=>by rw[q] at h;cases h.1];rw[q] at hF1;have R:=y6 @cq (y6 @dA aC)
  repeat' ((first |(with_reducible refine .guard (fun hb =>?_) (fun hb =>?_) <;>try simp only[hb])|refine ae.aE (by decide +kernel) rfl fun K hK =>?_|refine .flat _ (hF1) rfl ?_|(refine .av [0,1,2,4,23,33] hK ?_;clear hK K)|(with_reducible refine .done (hK _ ?_);clear hK K)|refine ae.of rfl ?_|(with_reducible refine aA.aD (fun h =>?_) (fun h =>?_) <;>try simp only[h])) <;>try simp only[aF,R,simprocAttr])
  all_goals clear R
 rw[q] at hF1;rcases fk (decide ((p.j.length:Int)>200)) with q2 | q2
 rotate_left
 ·rw[show gM p=91 from if_neg fun h=>by have:=h.2.1;have:=of_decide_eq_true q2;omega];have R:=y6 @q2 (y6 @cq (y6 @dA aC))
  repeat' ((first |(with_reducible refine .guard (fun hb =>?_) (fun hb =>?_) <;>try simp only[hb])|refine ae.aE (by decide +kernel) rfl fun K hK =>?_|refine .flat _ (hF1) rfl ?_|(refine .av [0,1,2,4,23,33] hK ?_;clear hK K)|(with_reducible refine .done (hK _ ?_);clear hK K)|refine ae.of rfl ?_|(with_reducible refine aA.aD (fun h =>?_) (fun h =>?_) <;>try simp only[h])) <;>try simp only[aF,R,simprocAttr])
  all_goals clear R
 have U:p.j.length≤200:=by have:=of_decide_eq_false q2;omega
 rcases fk (cK 0 p.j.length p.eD) with q3 | q3
 ·rw[show gM p=91 from if_neg fun h=>by rw[q3] at h;cases h.2.2.1];rw[q3] at hF2;have R:=y6 @q2 (y6 @cq (y6 @dA aC))
  repeat' ((first |(with_reducible refine .guard (fun hb =>?_) (fun hb =>?_) <;>try simp only[hb])|refine ae.aE (by decide +kernel) rfl fun K hK =>?_|refine .flat _ (hF1) rfl ?_|refine .flat _ (hF2) rfl ?_|(refine .av [0,1,2,4,23,33] hK ?_;clear hK K)|(with_reducible refine .done (hK _ ?_);clear hK K)|refine ae.of rfl ?_|(with_reducible refine aA.aD (fun h =>?_) (fun h =>?_) <;>try simp only[h])) <;>try simp only[aF,R,simprocAttr])
  all_goals clear R
 rw[q3] at hF2;have hF:=xY p p.j.length (zz3 _) U;rw[List.take_length] at hF;rcases fk (fH (iY p.aw) p.j).2 with q4 | q4
 ·rw[show gM p=91 from if_neg fun h=>by rw[q4] at h;cases h.2.2.2];rw[q4] at hF;have R:=y6 @q2 (y6 @cq (y6 @dA aC))
  repeat' ((first |(with_reducible refine .guard (fun hb =>?_) (fun hb =>?_) <;>try simp only[hb])|refine ae.aE (by decide +kernel) rfl fun K hK =>?_|refine .flat _ (hF1) rfl ?_|refine .flat _ (hF2) rfl ?_|refine .lead _ (hF) ?_|(refine .av [0,1,2,4,23,33] hK ?_;clear hK K)|(with_reducible refine .done (hK _ ?_);clear hK K)|refine ae.of rfl ?_|(with_reducible refine aA.aD (fun h =>?_) (fun h =>?_) <;>try simp only[h])) <;>try simp only[aF,R,simprocAttr])
  all_goals clear R
 ·rw[show gM p=0 from if_pos ⟨q,U,q3,q4⟩];rw[q4] at hF;have R:=y6 @q2 (y6 @cq (y6 @dA aC))
  repeat' ((first |(with_reducible refine .guard (fun hb =>?_) (fun hb =>?_) <;>try simp only[hb])|refine ae.aE (by decide +kernel) rfl fun K hK =>?_|refine .flat _ (hF1) rfl ?_|refine .flat _ (hF2) rfl ?_|refine .lead _ (hF) ?_|(refine .av [0,1,2,4,23,33] hK ?_;clear hK K)|(with_reducible refine .done (hK _ ?_);clear hK K)|refine ae.of rfl ?_|(with_reducible refine aA.aD (fun h =>?_) (fun h =>?_) <;>try simp only[h])) <;>try simp only[aF,R,simprocAttr])
  all_goals clear R
def fy(p:bx)(b:Int):Int:=if gM p=0 then (if cK 1 9999 b then 0 else 1) else 91
theorem uo(p:bx)(b:Int):bf Tryz.prog 74 [enc p,enc b] (enc (fy p b)):=by
 refine bf.bZ Tryz.func74 IS JX Li (u8 rfl) (fun hwf W0 bF E1 =>?_);simp only[zw,Ei,bJ,zz1];clear hwf;have hF1:=uj p;have hF2:=um b;by_cases h:gM p=0
 ·rw[h] at hF1;rcases fk (cK 1 9999 b) with q | q
  ·rw[show fy p b=1 by simp only[fy,h,q];rfl];rw[q] at hF2;have R:=y6 @dA aC
   repeat' ((first |refine ae.aE (by decide +kernel) rfl fun K hK =>?_|refine .flat _ (hF1) rfl ?_|refine .flat _ (hF2) rfl ?_|(refine .av [0,1,2,4,5,9,13] hK ?_;clear hK K)|(with_reducible refine .done (hK _ ?_);clear hK K)|refine ae.of rfl ?_|(with_reducible refine aA.aD (fun h =>?_) (fun h =>?_) <;>try simp only[h])) <;>try simp only[aF,R,simprocAttr])
   all_goals clear R
  ·rw[show fy p b=0 by simp only[fy,h,q];rfl];rw[q] at hF2;have R:=y6 @dA aC
   repeat' ((first |refine ae.aE (by decide +kernel) rfl fun K hK =>?_|refine .flat _ (hF1) rfl ?_|refine .flat _ (hF2) rfl ?_|(refine .av [0,1,2,4,5,9,13] hK ?_;clear hK K)|(with_reducible refine .done (hK _ ?_);clear hK K)|refine ae.of rfl ?_|(with_reducible refine aA.aD (fun h =>?_) (fun h =>?_) <;>try simp only[h])) <;>try simp only[aF,R,simprocAttr])
   all_goals clear R
 ·have J:gM p=91:=by simp only[gM] at h ⊢;split <;>simp_all
  rw[show fy p b=91 by simp only[fy,if_neg h]];rw[J] at hF1;have R:=y6 @dA aC
  repeat' ((first |refine ae.aE (by decide +kernel) rfl fun K hK =>?_|refine .flat _ (hF1) rfl ?_|(refine .av [0,1,2,4,5,9,13] hK ?_;clear hK K)|(with_reducible refine .done (hK _ ?_);clear hK K)|refine ae.of rfl ?_|(with_reducible refine aA.aD (fun h =>?_) (fun h =>?_) <;>try simp only[h])) <;>try simp only[aF,R,simprocAttr])
  all_goals clear R
end Go.Proofs.YthbdbocionnfgaaGreatDoor
namespace Go.Proofs.YthbdbocionnfgaaGreatDoor
open Go Go.Abs
theorem Ct(l:List Int)(n b:Int):b∈ej l n↔b=n∨b∈l:=by
 induction l with
 |nil=>simp[ej]
 |cons x l ih =>
  simp only[ej];split
  ·simp only[zw4,ih];constructor
   ·rintro (h | h | h) <;>simp[h]
   ·rintro (h | h | h) <;>simp[h]
  ·split
   ·rename_i h;subst h;simp
   ·simp
theorem Y3{l:List Int}(h:l.Pairwise (· < ·))(n:Int):(ej l n).Pairwise (· < ·):=by
 induction l with
 |nil=>simp[ej]
 |cons x l ih =>
  obtain ⟨J,U⟩:=List.pairwise_cons.1 h;simp only[ej];split
  ·refine List.pairwise_cons.2 ⟨fun a ha =>?_,ih U⟩;rcases (Ct l n a).1 ha with rfl | ha
   ·assumption
   ·exact J a ha
  ·split
   ·exact h
   ·refine List.pairwise_cons.2 ⟨fun a ha =>?_,h⟩;rcases zw4.1 ha with rfl | ha
    ·omega
    ·have:=J a ha;omega
theorem Xx(l:List Int)(n b:Int):b∈gU l n↔b∈l∧b≠n:=by simp[gU]
theorem Xk{l:List Int}(h:l.Pairwise (· < ·))(n:Int):(gU l n).Pairwise (· < ·):=h.filter _
def rF(x:bh):gn:=⟨x.kind,x.other,x.no,x.aK⟩
structure eb (s:aG) (t:cm):Prop where
 aw:t.aw=s.aw
 here:∀ b,b∈t.here↔b∈s.here
 pM:t.here.Pairwise (· < ·)
 du:t.du=s.all.length
 bz:t.bz=s.bz
 bp:t.bp=s.bp.map rF
 nJ:∀ x∈s.bp,x.kind≠0
 no:∀ i,i<s.all.length→(s.bV i).no=(i:Int)+1
 cA:s.aQ.Pairwise (· < ·)
 ok:cw s
theorem eb.zero(aw:Int):eb (eU aw) (iY aw):=⟨rfl,fun b=>by simp[eU,iY],by simp[iY],rfl,rfl,rfl,fun x hx=>by simp[eU] at hx,fun i hi=>by simp[eU] at hi,by simp[eU],kZ aw⟩
theorem eb.AB{s:aG}{t:cm}(h:eb s t)(b:Int):decide (b∈t.here)=decide (b∈s.here):=by simp only[h.here]
theorem eb.Hn{s:aG}{t:cm}(h:eb s t)(b:Int):iy t b=s.eV b:=by simp only[iy,aG.eV,h.bz]
theorem eb.W6{s:aG}{t:cm}(h:eb s t)(x:bh):(jk t x.other x.no≠0)↔fB x∈s.dZ:=by
 have hk:=h.nJ;simp only[jk,h.bp,aG.dZ];revert hk;generalize s.bp=l;intro hk
 induction l with
 |nil=>simp
 |cons y l ih =>
  have ih':=ih fun z hz=>hk z (List.mem_cons_of_mem _ hz);simp only[zz4,List.find?_cons,zw4];by_cases e:(rF y).c6=x.other∧(rF y).no=x.no
  ·rw[decide_eq_true e];simp only;have e2:fB x=fB y:=by
    simp only[rF] at e;simp only[fB,e.1,e.2]
   exact ⟨fun _=>.inl e2,fun _=>hk y List.mem_cons_self⟩
  ·rw[decide_eq_false e];refine Iff.trans ih' ?_;constructor
   ·exact .inr
   ·rintro (h | h)
    ·exfalso;apply e
     simp only[fB,nt.mk.injEq] at h;simp only[rF,h.1,h.2,and_self]
    ·exact h
theorem eb.aaa{s:aG}{t:cm}(h:eb s t)(x:bh):(s.unknown x=true)↔¬ (x.other=t.aw∨jk t x.other x.no≠0):=by
 rw[h.W6,h.aw];simp only[aG.unknown,t8,bne_iff_ne,ne_eq,Bool.not_eq_true',decide_eq_false_iff_not,not_or]
theorem eb.bJ{s:aG}{t:cm}(h:eb s t)(no:Int):(s.at no=none∧jG t no=none)∨∃ k,∃ hk:k<s.aQ.length,s.at no=some s.aQ[k]∧jG t no=some k:=by
 have hno:∀ i∈s.aQ,(s.bV i).no=(i:Int)+1:=fun i hi=>h.no i (h.ok.cA i hi);simp only[aG.at,jG,h.bz,aG.bz];revert hno;generalize s.aQ=l;intro hno
 induction l with
 |nil=>exact .inl ⟨rfl,rfl⟩
 |cons i l ih =>
  have hi:=hno i List.mem_cons_self;simp only[List.find?_cons,zz4,List.findIdx?_cons,hi];by_cases e:no=(i:Int)+1
  ·exact .inr ⟨0,by simp,by simp[e],by simp[e]⟩
  ·have e':¬ (i:Int)+1=no:=fun h=>e h.symm;rw[decide_eq_false e,decide_eq_false e'];rcases ih fun j hj=>hno j (List.mem_cons_of_mem _ hj) with ⟨J,U⟩ | ⟨k,hk,J,U⟩
   ·exact .inl ⟨J,by simp[U]⟩
   ·exact .inr ⟨k+1,by simpa using hk,by simpa using J,by simp[U]⟩
theorem eb.h4{s:aG}{t:cm}(h:eb s t)(x:bh):(s.on x=none∧gW t x=false)∨∃ k,∃ hk:k<s.aQ.length,s.on x=some s.aQ[k]∧gW t x=true∧atR t x=k∧oN t x=(s.bV s.aQ[k]).dj:=by
 rcases h.bJ x.no with ⟨J,U⟩ | ⟨k,hk,J,U⟩
 ·exact .inl ⟨by simp only[aG.on,J],by simp only[gW,U]⟩
 ·have hr:t.bz[k]?=some (s.bV s.aQ[k]):=by rw[h.bz,aG.bz,zy9,zy4 hk];rfl
  by_cases e:(s.bV s.aQ[k]).to=x.other∧(s.bV s.aQ[k]).aK=x.aK
  ·exact .inr ⟨k,hk,by simp only[aG.on,J,if_pos e],by simp[gW,U,hr,e.1,e.2],by simp[atR,U],by simp[oN,U,hr]⟩
  ·refine .inl ⟨by simp only[aG.on,J,if_neg e],?_⟩;simp only[gW,U,hr,Bool.and_eq_false_iff,beq_eq_false_iff_ne,ne_eq];by_cases e1:(s.bV s.aQ[k]).to=x.other
   ·exact .inr fun e2=>e ⟨e1,e2⟩
   ·exact .inl e1
theorem MK{l:List Nat}(h:l.Nodup)(k:Nat)(hk:k<l.length):l.erase l[k]=l.take k++l.drop (k+1):=by
 induction l generalizing k with
 |nil=>simp at hk
 |cons x l ih =>
  cases k with
  |zero=>simp
  |succ k =>
   obtain ⟨J,U⟩:=List.nodup_cons.1 h;have hk':k<l.length:=by simpa using hk
   have:¬ x=l[k]:=fun e=>J (e▸List.getElem_mem hk');simp only[List.getElem_cons_succ,zx5,List.drop_succ_cons,zz9];rw[List.erase_cons_tail (by simpa using this),ih U k hk']
theorem Xw(l:List Int)(n b:Int):b∈gC l n↔b=n∨b∈l:=by
 unfold gC;split
 ·constructor
  ·exact .inr
  ·rintro (rfl | h)
   ·assumption
   ·exact h
 ·simp only[zx6,zx4];exact Or.comm
theorem Zv{s:aG}(ab:cw s)(r:cZ)(h:List Int):({ s with here:=h,all:=s.all++[r],aQ:=s.aQ++[s.all.length] } : aG).bz=s.bz++[r]:=by
 simp only[aG.bz,zy5,zz4,zx8,aG.bV]
 congr 1
 ·refine List.map_congr_left fun i hi =>?_
  show (s.all++[r]).getD i default=s.all.getD i default
  simp only[zz0,zy6 (ab.cA i hi)]
 ·simp
theorem Zw{s:aG}(ab:cw s){k:Nat}(hk:k<s.aQ.length):({ s with all:=s.all.set s.aQ[k] { s.bV s.aQ[k] with dj:=true } } : aG).bz=s.bz.modify k fun r => { r with dj:=true } :=by
 have ao:=ab.cA;have hn:=ab.iL;refine List.ext_getElem (by simp[aG.bz]) fun j J U =>?_;have hj:j<s.aQ.length:=by simpa[aG.bz] using J
 rw[List.getElem_modify];simp only[aG.bz,List.getElem_map,aG.bV,zz0];by_cases e:k=j
 ·subst e;rw[if_pos rfl,List.getElem?_set_self (ao _ (List.getElem_mem hk))];rfl
 ·have hne:s.aQ[k]≠s.aQ[j]:=fun e'=>e ((List.getElem_inj hn).1 e');rw[if_neg e,List.getElem?_set_ne hne]
theorem eb.AI{s:aG}{t:cm}(h:eb s t){k:Nat}(hk:k<s.aQ.length):eb { s with aQ:=s.aQ.erase s.aQ[k] } (jg t k):=by
 have hr:(jg t k).bz=({ s with aQ:=s.aQ.erase s.aQ[k] } : aG).bz:=by
  simp only[jg,h.bz,aG.bz,MK h.ok.iL k hk,zy5,List.map_take,List.map_drop];rfl
 exact ⟨h.aw,h.here,h.pM,h.du,hr,h.bp,h.nJ,h.no,h.cA.sublist List.erase_sublist,⟨fun i hi=>h.ok.cA i (List.mem_of_mem_erase hi),h.ok.iL.erase _,h.ok.af⟩⟩
theorem eb.put{s:aG}{t:cm}(h:eb s t)(b:Int):eb { s with here:=gC s.here b } { t with here:=ej t.here b } :=
 ⟨h.aw,fun c=>by simp only[Ct,Xw,h.here],Y3 h.pM b,h.du,h.bz,h.bp,h.nJ,h.no,h.cA,⟨h.ok.cA,h.ok.iL,nu h.ok.af⟩⟩
theorem eb.nL{s:aG}{t:cm}(h:eb s t)(b:Int):eb { s with here:=s.here.erase b } { t with here:=gU t.here b } :=
 ⟨h.aw,fun c=>by simp only[Xx,h.here,h.ok.af.mem_erase_iff];exact And.comm,Xk h.pM b,h.du,h.bz,h.bp,h.nJ,h.no,h.cA,⟨h.ok.cA,h.ok.iL,h.ok.af.erase _⟩⟩
theorem eb.Fe{s:aG}{t:cm}(h:eb s t){x:bh}(hx:x.kind≠0):eb { s with bp:=s.bp++[x] } (fZ t x) :=
 ⟨h.aw,h.here,h.pM,h.du,h.bz,by simp only[fZ,h.bp,zy5];rfl,fun y hy=>by
  rcases zx6.1 hy with hy | hy
  ·exact h.nJ y hy
  ·rw[zx4.1 hy];exact hx,h.no,h.cA,⟨h.ok.cA,h.ok.iL,h.ok.af⟩⟩
theorem eb.step{s:aG}{t:cm}(h:eb s t){x:bh}(hx:fP x=true):match ec s x with
  |some s'=>(cH t x).2=true∧eb s' (cH t x).1
  |none=>(cH t x).2=false:=by
 have hk:1≤x.kind∧x.kind≤8:=by
  simp only[fP] at hx;split at hx
  ·omega
  ·split at hx
   ·omega
   ·cases hx
 have hb:=h.here x.aK;have af:=h.AB x.aK;have ha:=h.Hn x.aK;simp only[ec,cH,af,ha];by_cases k1:x.kind=1
 ·simp only[if_pos k1];by_cases c:x.aK∈s.here∨s.eV x.aK=true
  ·have c2:(decide (x.aK∈s.here)||s.eV x.aK)=true:=by simpa using c
   simp only[if_pos c,if_pos c2]
  ·have c2:¬ (decide (x.aK∈s.here)||s.eV x.aK)=true:=by simpa using c
   simp only[if_neg c,if_neg c2];exact ⟨trivial,h.put _⟩
 simp only[if_neg k1];by_cases k2:x.kind=2
 ·simp only[if_pos k2];by_cases c:x.aK∈s.here
  ·simp only[if_pos c,decide_eq_true c];exact ⟨trivial,h.nL _⟩
  ·simp only[if_neg c,decide_eq_false c]
 simp only[if_neg k2];by_cases k3:x.kind=3
 ·simp only[if_pos k3];by_cases c:x.aK∈s.here∧x.other≠s.aw∧x.no=(s.all.length:Int)+1
  ·have c2:¬ (x.aK∉t.here∨x.other=t.aw∨x.no≠t.du+1):=by
    rw[hb,h.aw,h.du];rintro (c' | c' | c')
    ·exact c' c.1
    ·exact c.2.1 c'
    ·exact c' c.2.2
   simp only[if_pos c,if_neg c2];have ao:=h.nL x.aK;refine ⟨trivial,h.aw,ao.here,ao.pM,by simp only[zz6,List.length_singleton,c.2.2];omega,?_,h.bp,h.nJ,fun i hi =>?_,?_,?_⟩
   ·rw[Zv h.ok,h.bz]
   ·simp only[zz6,List.length_singleton] at hi;by_cases e:i<s.all.length
    ·have:=h.no i e;rw[←this];simp only[aG.bV,zz0,zy6 e]
    ·have e2:i=s.all.length:=by omega
     subst e2;simp only[aG.bV,zz0];simp[c.2.2]
   ·refine List.pairwise_append.2 ⟨h.cA,by simp,fun a ha b hb =>?_⟩;rw[zx4.1 hb];exact h.ok.cA a ha
   ·have hn:ec s x=some { s with here:=s.here.erase x.aK,all:=s.all++[⟨x.no,x.other,x.aK,false⟩],aQ:=s.aQ++[s.all.length] } :=by
     simp only[ec,if_neg k1,if_neg k2,if_pos k3,if_pos c]
    exact (h.ok.next hn).1
  ·have c2:x.aK∉t.here∨x.other=t.aw∨x.no≠t.du+1:=by
    rw[hb,h.aw,h.du];by_cases c1:x.aK∈s.here
    ·by_cases c3:x.other=s.aw
     ·exact .inr (.inl c3)
     ·exact .inr (.inr fun e=>c ⟨c1,c3,e⟩)
    ·exact .inl c1
   simp only[if_neg c,if_pos c2]
 simp only[if_neg k3];by_cases k4:x.kind=4
 ·simp only[if_pos k4];rcases h.h4 x with ⟨J,U⟩ | ⟨k,hk',J,U,ah,ar⟩
  ·simp only[J,U];rfl
  ·simp only[J,U,ah,ar];rcases Bool.eq_false_or_eq_true (s.bV s.aQ[k]).dj with c | c
   ·rw[c];rfl
   ·rw[c];refine ⟨rfl,h.aw,h.here,h.pM,h.du.trans (by simp),?_,h.bp,h.nJ,fun i hi =>?_,h.cA,?_⟩
    ·show t.bz.modify k _=_
     rw[Zw h.ok hk',h.bz]
    ·have hi':i<s.all.length:=by simpa using hi
     simp only[aG.bV,zz0,List.getElem?_set];split
     ·rename_i e;rw[if_pos (e▸hi')];simp only[Option.getD_some,e];have:=h.no i hi';simpa only[aG.bV,zz0] using this
     ·have:=h.no i hi';simpa only[aG.bV,zz0] using this
    ·have hn:ec s x=some { s with all:=s.all.set s.aQ[k] { s.bV s.aQ[k] with dj:=true } } :=by
      simp only[ec,if_neg k1,if_neg k2,if_neg k3,if_pos k4,J,c];rfl
     exact (h.ok.next hn).1
 simp only[if_neg k4];by_cases k5:x.kind=5
 ·simp only[if_pos k5];rcases h.h4 x with ⟨J,U⟩ | ⟨k,hk',J,U,ah,ar⟩
  ·simp only[J,U];rfl
  ·simp only[J,U,ah];exact ⟨rfl,h.AI hk'⟩
 simp only[if_neg k5];by_cases k6:x.kind=6
 ·simp only[if_pos k6];rcases h.h4 x with ⟨J,U⟩ | ⟨k,hk',J,U,ah,ar⟩
  ·simp only[J,U];rfl
  ·simp only[J,U,ah,ar];rcases Bool.eq_false_or_eq_true (s.bV s.aQ[k]).dj with c | c
   ·rw[c];exact ⟨rfl,(h.AI hk').put x.aK⟩
   ·rw[c];rfl
 simp only[if_neg k6];have hu:=h.aaa x;by_cases c:x.other=t.aw∨jk t x.other x.no≠0
 ·have hu':¬ s.unknown x=true:=fun bG=>hu.1 bG c;simp only[if_pos c];by_cases k7:x.kind=7
  ·rw[if_pos k7,if_neg fun bG=>hu' bG.1];trivial
  ·rw[if_neg k7,if_pos (by omega),if_neg hu'];trivial
 ·have hu':s.unknown x=true:=hu.2 c;simp only[if_neg c];by_cases k7:x.kind=7
  ·simp only[if_pos k7];by_cases c2:(decide (x.aK∈s.here)||s.eV x.aK)=true
   ·have hn:¬ (s.unknown x=true∧x.aK∉s.here∧s.eV x.aK=false):=fun bG=>by
     simp only[Bool.or_eq_true,decide_eq_true_eq] at c2;rcases c2 with c2 | c2
     ·exact bG.2.1 c2
     ·rw[bG.2.2] at c2;cases c2
    simp only[if_pos c2,if_neg hn]
   ·have c3:=c2;simp only[Bool.or_eq_true,decide_eq_true_eq,not_or,Bool.not_eq_true] at c3;have hn:s.unknown x=true∧x.aK∉s.here∧s.eV x.aK=false:=⟨hu',c3.1,c3.2⟩
    simp only[if_neg c2,if_pos hn];exact ⟨trivial,(h.put x.aK).Fe (by omega)⟩
  ·simp only[if_neg k7];rw[if_pos (by omega),if_pos hu'];exact ⟨trivial,h.Fe (by omega)⟩
theorem eb.run:∀ (l:List bh) {s:aG} {t:cm},eb s t→match fY s l with
  |some s'=>(fH t l).2=true∧eb s' (fH t l).1
  |none=>(fH t l).2=false
 | [],s,t,h=>⟨rfl,h⟩
 |x::l,s,t,h=>by
  simp only[fY,fH,fS];by_cases hx:fP x=true
  ·have ab:=h.step hx;rw[if_pos hx,if_pos hx];cases hn:ec s x with
   |none=>rw[hn] at ab;simp only at ab ⊢;rw[ab];rfl
   |some s' =>
    rw[hn] at ab;simp only at ab ⊢;rw[ab.1,if_pos rfl];exact eb.run l ab.2
  ·rw[if_neg hx,if_neg hx]
theorem YC(p:bx):match da p with
  |some s=>gM p=0∧eb s (hX p)
  |none=>gM p=91:=by
 have hr:=eb.run p.j (eb.zero p.aw);simp only[da,fG,gM];by_cases hk:iN p=true
 ·have hk':=hk;simp only[iN,t8,decide_eq_true_eq] at hk';rw[if_pos hk];cases hq:fY (eU p.aw) p.j with
  |none=>rw[hq] at hr;simp only at hr ⊢;rw[if_neg fun h=>by rw[hr] at h;cases h.2.2.2]
  |some s=>rw[hq] at hr;exact ⟨if_pos ⟨hk'.1,hk'.2.1,hk'.2.2,hr.1⟩,hr.2⟩
 ·rw[if_neg hk];refine if_neg fun h=>hk ?_;simp only[iN,t8,decide_eq_true_eq];exact ⟨h.1,h.2.1,h.2.2.1⟩
end Go.Proofs.YthbdbocionnfgaaGreatDoor
namespace Go.Proofs.YthbdbocionnfgaaGreatDoor
open Go Go.Abs
open Go.Abs.Enc (enc)
theorem EZ:∀ (l:List bh) {s:cm} {i:Nat},kJ s i→(fH s l).2=true→kJ (fH s l).1 (i+l.length)
 | [],s,i,h,_=>h
 |x::l,s,i,h,hr=>by
  simp only[fH] at hr ⊢;split at hr
  ·split at hr
   ·rename_i J U;rw[if_pos J,if_pos U];have:=EZ l (h.next x U) hr;rw[zw2,show i+(l.length+1)=i+1+l.length by omega];exact this
   ·cases hr
  ·cases hr
theorem ZU(aw:Int):kJ (iY aw) 0:=⟨zz3 _,zz3 _,zz3 _,Int.le_refl _,Int.le_refl _⟩
theorem Ar{p:bx}(h:gM p=0):cK 0 5 p.aw=true∧p.j.length≤200∧cK 0 p.j.length p.eD=true∧(fH (iY p.aw) p.j).2=true:=by
 simp only[gM] at h;split at h
 ·assumption
 ·cases h
theorem XJ{p:bx}(h:gM p=0):jP (hX p)∧kJ (hX p) p.j.length:=by
 obtain ⟨_,U,_,ar⟩:=Ar h;have:=EZ p.j (ZU p.aw) ar;rw[zz1] at this;exact ⟨this.small (by omega),this⟩
theorem both(p:bx):(da p=none∧gM p=91)∨∃ s,da p=some s∧gM p=0∧eb s (hX p)∧jP (hX p)∧p.j.length≤200:=by
 have h:=YC p;cases ho:da p with
 |none=>rw[ho] at h;exact .inl ⟨rfl,h⟩
 |some s=>rw[ho] at h;exact .inr ⟨s,rfl,h.1,h.2,(XJ h.1).1,(Ar h.1).2.1⟩
theorem vG:(∀ (a b:Int) (h:List Int) (r:List cZ) (e:List gn),kW 1 1 none (some [.int .i64 a,enc h,.int .i64 b,enc r,enc e])=some (enc h))∧(∀ (a b:Int) (h:List Int) (r:List cZ) (e:List gn),kW 2 2 none (some [.int .i64 a,enc h,.int .i64 b,enc r,enc e])=some (.int .i64 b))∧(∀ (a b:Int) (h:List Int) (r:List cZ) (e:List gn),kW 3 3 none (some [.int .i64 a,enc h,.int .i64 b,enc r,enc e])=some (enc r)) :=
 ⟨fun a b h r e=>by
  have J:c9 [.int .i64 a,enc h,.int .i64 b,enc r,enc e] 1 1 (enc h)=some (enc h):=iM (by simp) rfl;simp[kW,J,Abs.nR,kj,ki],fun a b h r e=>by
  have J:c9 [.int .i64 a,enc h,.int .i64 b,enc r,enc e] 2 2 (.int .i64 b)=some (.int .i64 b):=iM (by simp) (by simp[I.sizes,I.size,jT,jz]);simp[kW,J,Abs.nR];rfl,fun a b h r e=>by
  have J:c9 [.int .i64 a,enc h,.int .i64 b,enc r,enc e] 3 3 (enc r)=some (enc r):=iM (by simp) (by simp[I.sizes,I.size,jT,jz]);simp[kW,J,Abs.nR,kj,ki]⟩
theorem Yu{k b o n:Int}(h:5≤k∧k≤8):fP ⟨k,b,o,n⟩=(cK 1 9999 b&&(cK 0 5 o&&cK 1 200 n)):=by
 simp only[fP];rw[if_neg (by omega),if_pos (by omega)]
theorem pN(A:ai)(n:Nat)(b:I)(q:bh)(x y z w:Int)(rest:List aH):df A (some 4) n [] b (enc q) rest (some (.agg [.int .i64 x,.int .i64 y,.int .i64 z,.int .i64 w]))=aB rest (A.aV n (.box (enc q))):=dE (er _) (by rw[fg];rfl) (eJ _)
theorem F6(p:bx)(b:Int):bf Tryz.prog 28 [enc p,enc b] (.tuple [enc (jj p b).1,enc (jj p b).2]):=by
 refine bf.bZ Tryz.func28 Io Jw KR (u8 rfl) (fun hwf W0 bF E1 =>?_);simp only[yY,DM,bJ,zz1];clear hwf;have hF1:=uo p b;rcases both p with ⟨ho,hc⟩ | ⟨s,ho,hc,hr,ab,ao⟩
 ·rw[show fy p b=91 by simp only[fy,hc];rfl] at hF1;rw[show jj p b=(dm,91) by simp only[jj,ho]];have R:=y6 @ca (y6 @bl aC)
  repeat' ((first |refine ae.aE (by decide +kernel) rfl fun K hK =>?_|refine .flat _ (hF1) rfl ?_|(refine .av [0,1,2,4,5,6,7,9,14,27] hK ?_;clear hK K)|(with_reducible refine .done (hK _ ?_);clear hK K)|refine ae.of rfl ?_|(with_reducible refine aA.aD (fun h =>?_) (fun h =>?_) <;>try simp only[h])) <;>try simp only[aF,R,simprocAttr])
  all_goals clear R
  rfl
 rcases fk (cK 1 9999 b) with q | q
 ·rw[show fy p b=1 by simp only[fy,hc,q];rfl] at hF1;rw[show jj p b=(dm,1) by simp only[jj,ho,q,if_true]];have R:=y6 @ca (y6 @bl aC)
  repeat' ((first |refine ae.aE (by decide +kernel) rfl fun K hK =>?_|refine .flat _ (hF1) rfl ?_|(refine .av [0,1,2,4,5,6,7,9,14,27] hK ?_;clear hK K)|(with_reducible refine .done (hK _ ?_);clear hK K)|refine ae.of rfl ?_|(with_reducible refine aA.aD (fun h =>?_) (fun h =>?_) <;>try simp only[h])) <;>try simp only[aF,R,simprocAttr])
  all_goals clear R
  rfl
 rw[show fy p b=0 by simp only[fy,hc,q];rfl] at hF1;have hF2:=pY p ao;have hF3:=r0 (hX p) ⟨1,b,0,0⟩ ab;have hst:=hr.step (x:=⟨1,b,0,0⟩) (by simp only[fP,q];rfl);by_cases c:b∈s.here∨s.eV b=true
 ·rw[show ec s ⟨1,b,0,0⟩=none by simp only[ec,if_true,if_pos c]] at hst;simp only at hst;rw[hst] at hF3;rw[show jj p b=(dm,92) by simp only[jj,ho,q,zx3,if_false,if_pos c]];have R:=y6 @oK (y6 @pN (y6 @cq (y6 @ca (y6 @bl aC))))
  repeat' ((first |refine ae.aE (by decide +kernel) rfl fun K hK =>?_|refine .flat _ (hF1) rfl ?_|refine .lead _ (hF2) ?_|refine .lead _ (hF3) ?_|(refine .av [0,1,2,4,5,6,7,9,14,27] hK ?_;clear hK K)|(with_reducible refine .done (hK _ ?_);clear hK K)|refine ae.of rfl ?_|(with_reducible refine aA.aD (fun h =>?_) (fun h =>?_) <;>try simp only[h])) <;>try simp only[aF,R,simprocAttr])
  all_goals clear R
  rfl
 ·rw[show ec s ⟨1,b,0,0⟩=some { s with here:=gC s.here b } by simp only[ec,if_true,if_neg c]] at hst;simp only at hst;rw[hst.1] at hF3;rw[show jj p b=eS p ⟨1,b,0,0⟩ by simp only[jj,ho,q,zx3,if_false,if_neg c]];have hF4:=pZ p ⟨1,b,0,0⟩ ao;have R:=y6 @oK (y6 @pN (y6 @cq (y6 @ca (y6 @bl aC))))
  repeat' ((first |refine ae.aE (by decide +kernel) rfl fun K hK =>?_|refine .flat _ (hF1) rfl ?_|refine .lead _ (hF2) ?_|refine .lead _ (hF3) ?_|refine .lead _ (hF4) ?_|(refine .av [0,1,2,4,5,6,7,9,14,27] hK ?_;clear hK K)|(with_reducible refine .done (hK _ ?_);clear hK K)|refine ae.of rfl ?_|(with_reducible refine aA.aD (fun h =>?_) (fun h =>?_) <;>try simp only[h])) <;>try simp only[aF,R,simprocAttr])
  all_goals clear R
theorem F8(p:bx)(b:Int):bf Tryz.prog 30 [enc p,enc b] (.tuple [enc (jF p b).1,enc (jF p b).2]):=by
 refine bf.bZ Tryz.func30 Iq Jy KT (u8 rfl) (fun hwf W0 bF E1 =>?_);simp only[y5,DO,bJ,zz1];clear hwf;have hF1:=uo p b;rcases both p with ⟨ho,hc⟩ | ⟨s,ho,hc,hr,ab,ao⟩
 ·rw[show fy p b=91 by simp only[fy,hc];rfl] at hF1;rw[show jF p b=(dm,91) by simp only[jF,ho]];have R:=y6 @ca (y6 @bl aC)
  repeat' ((first |refine ae.aE (by decide +kernel) rfl fun K hK =>?_|refine .flat _ (hF1) rfl ?_|(refine .av [0,1,2,4,5,6,7,9,14,27] hK ?_;clear hK K)|(with_reducible refine .done (hK _ ?_);clear hK K)|refine ae.of rfl ?_|(with_reducible refine aA.aD (fun h =>?_) (fun h =>?_) <;>try simp only[h])) <;>try simp only[aF,R,simprocAttr])
  all_goals clear R
  rfl
 rcases fk (cK 1 9999 b) with q | q
 ·rw[show fy p b=1 by simp only[fy,hc,q];rfl] at hF1;rw[show jF p b=(dm,1) by simp only[jF,ho,q,if_true]];have R:=y6 @ca (y6 @bl aC)
  repeat' ((first |refine ae.aE (by decide +kernel) rfl fun K hK =>?_|refine .flat _ (hF1) rfl ?_|(refine .av [0,1,2,4,5,6,7,9,14,27] hK ?_;clear hK K)|(with_reducible refine .done (hK _ ?_);clear hK K)|refine ae.of rfl ?_|(with_reducible refine aA.aD (fun h =>?_) (fun h =>?_) <;>try simp only[h])) <;>try simp only[aF,R,simprocAttr])
  all_goals clear R
  rfl
 rw[show fy p b=0 by simp only[fy,hc,q];rfl] at hF1;have hF2:=pY p ao;have hF3:=r0 (hX p) ⟨2,b,0,0⟩ ab;have hst:=hr.step (x:=⟨2,b,0,0⟩) (by simp only[fP,q];rfl);by_cases c:b∈s.here
 ·rw[show ec s ⟨2,b,0,0⟩=some { s with here:=s.here.erase b } from (if_neg (show ¬ (2:Int)=1 by decide)).trans ((if_pos rfl).trans (if_pos c))] at hst;simp only at hst;rw[hst.1] at hF3;rw[show jF p b=eS p ⟨2,b,0,0⟩ by simp only[jF,ho,q,zx3,if_false,if_pos c]];have hF4:=pZ p ⟨2,b,0,0⟩ ao;have R:=y6 @oK (y6 @pN (y6 @cq (y6 @ca (y6 @bl aC))))
  repeat' ((first |refine ae.aE (by decide +kernel) rfl fun K hK =>?_|refine .flat _ (hF1) rfl ?_|refine .lead _ (hF2) ?_|refine .lead _ (hF3) ?_|refine .lead _ (hF4) ?_|(refine .av [0,1,2,4,5,6,7,9,14,27] hK ?_;clear hK K)|(with_reducible refine .done (hK _ ?_);clear hK K)|refine ae.of rfl ?_|(with_reducible refine aA.aD (fun h =>?_) (fun h =>?_) <;>try simp only[h])) <;>try simp only[aF,R,simprocAttr])
  all_goals clear R
 ·rw[show ec s ⟨2,b,0,0⟩=none from (if_neg (show ¬ (2:Int)=1 by decide)).trans ((if_pos rfl).trans (if_neg c))] at hst;simp only at hst;rw[hst] at hF3;rw[show jF p b=(dm,93) by simp only[jF,ho,q,zx3,if_false,if_neg c]];have R:=y6 @oK (y6 @pN (y6 @cq (y6 @ca (y6 @bl aC))))
  repeat' ((first |refine ae.aE (by decide +kernel) rfl fun K hK =>?_|refine .flat _ (hF1) rfl ?_|refine .lead _ (hF2) ?_|refine .lead _ (hF3) ?_|(refine .av [0,1,2,4,5,6,7,9,14,27] hK ?_;clear hK K)|(with_reducible refine .done (hK _ ?_);clear hK K)|refine ae.of rfl ?_|(with_reducible refine aA.aD (fun h =>?_) (fun h =>?_) <;>try simp only[h])) <;>try simp only[aF,R,simprocAttr])
  all_goals clear R
  rfl
theorem F9(p:bx)(b to:Int):bf Tryz.prog 32 [enc p,enc b,enc to] (.tuple [enc (gx p b to).1,enc (gx p b to).2.1,enc (gx p b to).2.2]):=by
 refine bf.bZ Tryz.func32 Is JA KV (u8 rfl) (fun hwf W0 bF E1 =>?_);simp only[y8,DQ,bJ,zz1,Nat.reduceAdd];clear hwf;have hF1:=uo p b;have hT:=pV to;have hP:∀ a,(if cK 1 9999 b=false then ((dm,gY,1):bx×cZ×Int) else a)=if cK 1 9999 b=true then a else (dm,gY,1):=fun a=>by cases cK 1 9999 b <;>rfl
 rcases both p with ⟨ho,hc⟩ | ⟨s,ho,hc,hr,ab,ao⟩
 ·rw[show fy p b=91 by simp only[fy,hc];rfl] at hF1;rw[show gx p b to=(dm,gY,91) by simp only[gx,ho]];have R:=y6 @je (y6 @iv (y6 @ca (y6 @bl aC)))
  repeat' ((first |(with_reducible refine .guard (fun hb =>?_) (fun hb =>?_) <;>try simp only[hb])|refine ae.aE (by decide +kernel) rfl fun K hK =>?_|refine .flat _ (hF1) rfl ?_|(refine .av [0,1,2,3,6,7,8,9,10,11,12,28,38,40,62] hK ?_;clear hK K)|(with_reducible refine .done (hK _ ?_);clear hK K)|refine ae.of rfl ?_|(with_reducible refine aA.aD (fun h =>?_) (fun h =>?_) <;>try simp only[h])) <;>try simp only[aF,R,simprocAttr])
  all_goals clear R
  rfl
 rcases fk (cK 1 9999 b) with q | q
 ·rw[show fy p b=1 by simp only[fy,hc,q];rfl] at hF1;rw[show gx p b to=(dm,gY,1) by simp only[gx,ho,q,if_true]];have R:=y6 @je (y6 @iv (y6 @ca (y6 @bl aC)))
  repeat' ((first |(with_reducible refine .guard (fun hb =>?_) (fun hb =>?_) <;>try simp only[hb])|refine ae.aE (by decide +kernel) rfl fun K hK =>?_|refine .flat _ (hF1) rfl ?_|(refine .av [0,1,2,3,6,7,8,9,10,11,12,28,38,40,62] hK ?_;clear hK K)|(with_reducible refine .done (hK _ ?_);clear hK K)|refine ae.of rfl ?_|(with_reducible refine aA.aD (fun h =>?_) (fun h =>?_) <;>try simp only[h])) <;>try simp only[aF,R,simprocAttr])
  all_goals clear R
  rfl
 rw[show fy p b=0 by simp only[fy,hc,q];rfl] at hF1;have hF2:=pY p ao;have hF3:=x1 (hX p).here b;rw[hr.AB] at hF3;rcases q2:cK 0 5 to
 ·rw[q2] at hT;rw[show gx p b to=(dm,gY,90) by simp only[gx,ho,q,q2,zx3,if_false,true_or,if_true]];have R:=y6 @je (y6 @iv (y6 @ca (y6 @bl aC)))
  repeat' ((first |(with_reducible refine .guard (fun hb =>?_) (fun hb =>?_) <;>try simp only[hb])|refine ae.aE (by decide +kernel) rfl fun K hK =>?_|refine .flat _ (hF1) rfl ?_|refine .flat _ (hT) rfl ?_|refine .lead _ (hF2) ?_|refine .flat _ (hF3) rfl ?_|(refine .av [0,1,2,3,6,7,8,9,10,11,12,28,38,40,62] hK ?_;clear hK K)|(with_reducible refine .done (hK _ ?_);clear hK K)|refine ae.of rfl ?_|(with_reducible refine aA.aD (fun h =>?_) (fun h =>?_) <;>try simp only[h])) <;>try simp only[aF,R,simprocAttr])
  all_goals clear R
  rfl
 rw[q2] at hT;rcases q3:(to==p.aw)
 case true =>
  have e:to=p.aw:=by simpa using q3
  rw[show gx p b to=(dm,gY,90) by simp only[gx,ho,q,zx3,if_false,or_true,if_true,e]];have R:=y6 @q3 (y6 @je (y6 @iv (y6 @ca (y6 @bl aC))))
  repeat' ((first |(with_reducible refine .guard (fun hb =>?_) (fun hb =>?_) <;>try simp only[hb])|refine ae.aE (by decide +kernel) rfl fun K hK =>?_|refine .flat _ (hF1) rfl ?_|refine .flat _ (hT) rfl ?_|refine .lead _ (hF2) ?_|refine .flat _ (hF3) rfl ?_|(refine .av [0,1,2,3,6,7,8,9,10,11,12,28,38,40,62] hK ?_;clear hK K)|(with_reducible refine .done (hK _ ?_);clear hK K)|refine ae.of rfl ?_|(with_reducible refine aA.aD (fun h =>?_) (fun h =>?_) <;>try simp only[h])) <;>try simp only[aF,R,simprocAttr])
  all_goals clear R
  rfl
 have e:¬ to=p.aw:=by simpa using q3
 rcases q4:decide (b∈s.here)
 ·have bG:b∉s.here:=of_decide_eq_false q4;rw[show gx p b to=(dm,gY,93) by simp only[gx,ho,q,q2,zx3,if_false,e,or_self,if_pos bG]];rw[q4] at hF3;have R:=y6 @q3 (y6 @je (y6 @iv (y6 @vG (y6 @cq (y6 @ca (y6 @bl aC))))))
  repeat' ((first |(with_reducible refine .guard (fun hb =>?_) (fun hb =>?_) <;>try simp only[hb])|refine ae.aE (by decide +kernel) rfl fun K hK =>?_|refine .flat _ (hF1) rfl ?_|refine .flat _ (hT) rfl ?_|refine .lead _ (hF2) ?_|refine .flat _ (hF3) rfl ?_|(refine .av [0,1,2,3,6,7,8,9,10,11,12,28,38,40,62] hK ?_;clear hK K)|(with_reducible refine .done (hK _ ?_);clear hK K)|refine ae.of rfl ?_|(with_reducible refine aA.aD (fun h =>?_) (fun h =>?_) <;>try simp only[h])) <;>try simp only[aF,R,simprocAttr])
  all_goals clear R
  rfl
 have bG:b∈s.here:=of_decide_eq_true q4;rw[q4] at hF3;have hsent:=hr.du;have hw:IntKind.i64.wrap ((hX p).du+1)=(s.all.length:Int)+1:=by
  have:=ab.J;rw[hsent] at this ⊢;exact lA _ (by omega) (by omega)
 have hW:=pZ p ⟨3,b,to,(s.all.length:Int)+1⟩ ao;have ay:gx p b to=if p.j.length=200 then (dm,gY,2) else ((eS p ⟨3,b,to,(s.all.length:Int)+1⟩).1,⟨(s.all.length:Int)+1,to,b,false⟩,0):=by
  simp only[gx,ho,q,q2,zx3,if_false,e,or_self,bG,not_true_eq_false]
 by_cases U:p.j.length=200
 ·have hw1:eS p ⟨3,b,to,(s.all.length:Int)+1⟩=(dm,2):=by simp[eS,U,dm]
  rw[hw1] at hW;rw[ay,if_pos U];have R:=y6 @q3 (y6 @hw (y6 @je (y6 @oL (y6 @iv (y6 @vG (y6 @cq (y6 @ca (y6 @bl aC))))))))
  repeat' ((first |(with_reducible refine .guard (fun hb =>?_) (fun hb =>?_) <;>try simp only[hb])|refine ae.aE (by decide +kernel) rfl fun K hK =>?_|refine .flat _ (hF1) rfl ?_|refine .flat _ (hT) rfl ?_|refine .lead _ (hF2) ?_|refine .flat _ (hF3) rfl ?_|refine .lead _ (hW) ?_|(refine .av [0,1,2,3,6,7,8,9,10,11,12,28,38,40,62] hK ?_;clear hK K)|(with_reducible refine .done (hK _ ?_);clear hK K)|refine ae.of rfl ?_|(with_reducible refine aA.aD (fun h =>?_) (fun h =>?_) <;>try simp only[h])) <;>try simp only[aF,R,simprocAttr])
  all_goals clear R
  rfl
 ·have hw1:(eS p ⟨3,b,to,(s.all.length:Int)+1⟩).2=0:=by simp[eS,U]
  rw[hw1] at hW;rw[ay,if_neg U];have R:=y6 @q3 (y6 @hw (y6 @je (y6 @oL (y6 @iv (y6 @vG (y6 @cq (y6 @ca (y6 @bl aC))))))))
  repeat' ((first |(with_reducible refine .guard (fun hb =>?_) (fun hb =>?_) <;>try simp only[hb])|refine ae.aE (by decide +kernel) rfl fun K hK =>?_|refine .flat _ (hF1) rfl ?_|refine .flat _ (hT) rfl ?_|refine .lead _ (hF2) ?_|refine .flat _ (hF3) rfl ?_|refine .lead _ (hW) ?_|(refine ae.pE (gs:=vM) [] [(3,[3]),(6,[6]),(7,[7]),(11,[11]),(10,[10])] [0,1,2,3,4] (by decide +kernel) (cN.of (by simp[e9,cD,I.only])) fun K hK =>?_;simp only[eQ,vM,zy2,zy3,R,simprocAttr])|(refine .av [0,1,2,3,6,7,8,9,10,11,12,28,38,40,62] hK ?_;clear hK K)|(with_reducible refine .done (hK _ ?_);clear hK K)|refine ae.of rfl ?_|(with_reducible refine aA.aD (fun h =>?_) (fun h =>?_) <;>try simp only[h])) <;>try simp only[aF,R,simprocAttr])
  all_goals clear R
theorem Gb(p:bx)(no:Int):bf Tryz.prog 34 [enc p,enc no] (.tuple [enc (jv p no).1,enc (jv p no).2]):=by
 refine bf.bZ Tryz.func34 Iu JC KX (u8 rfl) (fun hwf W0 bF E1 =>?_);simp only[za,DS,bJ,zz1];clear hwf;have hF1:=uj p;rcases both p with ⟨ho,hc⟩ | ⟨s,ho,hc,hr,ab,ao⟩
 ·rw[hc] at hF1;rw[show jv p no=(dm,91) by simp only[jv,ho]];have R:=y6 @ca (y6 @bl aC)
  repeat' ((first |(with_reducible refine .guard (fun hb =>?_) (fun hb =>?_) <;>try simp only[hb])|refine ae.aE (by decide +kernel) rfl fun K hK =>?_|refine .flat _ (hF1) rfl ?_|(refine .av [0,1,2,4,5,6,7,8,12,29] hK ?_;clear hK K)|(with_reducible refine .done (hK _ ?_);clear hK K)|refine ae.of rfl ?_|(with_reducible refine aA.aD (fun h =>?_) (fun h =>?_) <;>try simp only[h])) <;>try simp only[aF,R,simprocAttr])
  all_goals clear R
  rfl
 rw[hc] at hF1;have hF2:=pY p ao;have hF3:=x2 (hX p) no ab.ao;rcases hr.bJ no with ⟨J,U⟩ | ⟨k,hk,J,U⟩
 ·have hn:iS (hX p) no=-1:=by simp[iS,U]
  have af:decide ((-1:Int)<0)=true:=rfl;rw[hn] at hF3;rw[show jv p no=(dm,94) by simp only[jv,ho,J]];have R:=y6 @af (y6 @cq (y6 @ca (y6 @bl aC)))
  repeat' ((first |(with_reducible refine .guard (fun hb =>?_) (fun hb =>?_) <;>try simp only[hb])|refine ae.aE (by decide +kernel) rfl fun K hK =>?_|refine .flat _ (hF1) rfl ?_|refine .lead _ (hF2) ?_|refine .flat _ (hF3) rfl ?_|(refine .av [0,1,2,4,5,6,7,8,12,29] hK ?_;clear hK K)|(with_reducible refine .done (hK _ ?_);clear hK K)|refine ae.of rfl ?_|(with_reducible refine aA.aD (fun h =>?_) (fun h =>?_) <;>try simp only[h])) <;>try simp only[aF,R,decide_true,simprocAttr])
  all_goals clear R
  rfl
 ·have hn:iS (hX p) no=(k:Int):=by simp[iS,U]
  have af:decide ((k:Int)<0)=false:=by simp
  have hk2:k<(hX p).bz.length:=by rw[hr.bz,aG.bz,zz8];exact hk
  have he:=fun A=>fh (A:=A) 4 hk2 rfl;have hx:(hX p).bz[k]=s.bV s.aQ[k]:=by simp only[hr.bz,aG.bz,List.getElem_map]
  rw[hx] at he;rw[hn] at hF3;rcases q:(s.bV s.aQ[k]).dj
  ·have hW:=pZ p ⟨4,(s.bV s.aQ[k]).aK,(s.bV s.aQ[k]).to,no⟩ ao;rw[show jv p no=eS p ⟨4,(s.bV s.aQ[k]).aK,(s.bV s.aQ[k]).to,no⟩ by simp only[jv,ho,J,q];rfl];have R:=y6 @af (y6 @he (y6 @q (y6 @cq (y6 @ca (y6 @bl aC)))))
   repeat' ((first |(with_reducible refine .guard (fun hb =>?_) (fun hb =>?_) <;>try simp only[hb])|refine ae.aE (by decide +kernel) rfl fun K hK =>?_|refine .flat _ (hF1) rfl ?_|refine .lead _ (hF2) ?_|refine .flat _ (hF3) rfl ?_|refine .lead _ (hW) ?_|(refine .av [0,1,2,4,5,6,7,8,12,29] hK ?_;clear hK K)|(with_reducible refine .done (hK _ ?_);clear hK K)|refine ae.of rfl ?_|(with_reducible refine aA.aD (fun h =>?_) (fun h =>?_) <;>try simp only[h])) <;>try simp only[aF,R,simprocAttr])
   all_goals clear R
  ·rw[show jv p no=(dm,94) by simp only[jv,ho,J,q];rfl];have R:=y6 @af (y6 @he (y6 @q (y6 @cq (y6 @ca (y6 @bl aC)))))
   repeat' ((first |(with_reducible refine .guard (fun hb =>?_) (fun hb =>?_) <;>try simp only[hb])|refine ae.aE (by decide +kernel) rfl fun K hK =>?_|refine .flat _ (hF1) rfl ?_|refine .lead _ (hF2) ?_|refine .flat _ (hF3) rfl ?_|(refine .av [0,1,2,4,5,6,7,8,12,29] hK ?_;clear hK K)|(with_reducible refine .done (hK _ ?_);clear hK K)|refine ae.of rfl ?_|(with_reducible refine aA.aD (fun h =>?_) (fun h =>?_) <;>try simp only[h])) <;>try simp only[aF,R,simprocAttr])
   all_goals clear R
   rfl
theorem GD(r:dB):bf Tryz.prog 82 [enc r] (enc (if r.kind=1 then (7:Int) else if r.kind=2 then 5 else if r.kind=3 then 8 else 6)):=by
 refine bf.bZ Tryz.func82 IZ J3 Lp (u8 rfl) (fun hwf W0 bF E1 =>?_);simp only[zD,Eo,bJ];clear hwf;by_cases J:r.kind=1
 ·have k1:(r.kind==1)=true:=by rw[J];rfl
  rw[if_pos J];have R:=y6 @k1 aC
  repeat' ((first |refine ae.aE (by decide +kernel) rfl fun K hK =>?_|(refine .av [0,1,2,4,5,7,9] hK ?_;clear hK K)|(with_reducible refine .done (hK _ ?_);clear hK K)|refine ae.of rfl ?_|(with_reducible refine aA.aD (fun h =>?_) (fun h =>?_) <;>try simp only[h])) <;>try simp only[aF,R,simprocAttr])
  all_goals clear R
 have k1:(r.kind==1)=false:=by simpa using J
 rw[if_neg J];by_cases U:r.kind=2
 ·have k2:(r.kind==2)=true:=by rw[U];rfl
  rw[if_pos U];have R:=y6 @k1 (y6 @k2 aC)
  repeat' ((first |refine ae.aE (by decide +kernel) rfl fun K hK =>?_|(refine .av [0,1,2,4,5,7,9] hK ?_;clear hK K)|(with_reducible refine .done (hK _ ?_);clear hK K)|refine ae.of rfl ?_|(with_reducible refine aA.aD (fun h =>?_) (fun h =>?_) <;>try simp only[h])) <;>try simp only[aF,R,simprocAttr])
  all_goals clear R
 have k2:(r.kind==2)=false:=by simpa using U
 rw[if_neg U];by_cases ah:r.kind=3
 ·have k3:(r.kind==3)=true:=by rw[ah];rfl
  rw[if_pos ah];have R:=y6 @k1 (y6 @k2 (y6 @k3 aC))
  repeat' ((first |refine ae.aE (by decide +kernel) rfl fun K hK =>?_|(refine .av [0,1,2,4,5,7,9] hK ?_;clear hK K)|(with_reducible refine .done (hK _ ?_);clear hK K)|refine ae.of rfl ?_|(with_reducible refine aA.aD (fun h =>?_) (fun h =>?_) <;>try simp only[h])) <;>try simp only[aF,R,simprocAttr])
  all_goals clear R
 have k3:(r.kind==3)=false:=by simpa using ah
 rw[if_neg ah];have R:=y6 @k1 (y6 @k2 (y6 @k3 aC))
 repeat' ((first |refine ae.aE (by decide +kernel) rfl fun K hK =>?_|(refine .av [0,1,2,4,5,7,9] hK ?_;clear hK K)|(with_reducible refine .done (hK _ ?_);clear hK K)|refine ae.of rfl ?_|(with_reducible refine aA.aD (fun h =>?_) (fun h =>?_) <;>try simp only[h])) <;>try simp only[aF,R,simprocAttr])
 all_goals clear R
theorem Gc(p:bx)(r:dB):bf Tryz.prog 36 [enc p,enc r] (.tuple [enc (iG p r).1,enc (iG p r).2]):=by
 refine bf.bZ Tryz.func36 Iw JE KZ (u8 rfl) (fun hwf W0 bF E1 =>?_);simp only[zc,DU,bJ,zz1];clear hwf;have hF1:=uj p;have hF2:=F5 r;rcases both p with ⟨ho,hc⟩ | ⟨s,ho,hc,hr,ab,ao⟩
 ·rw[hc] at hF1;rw[show iG p r=(dm,91) by simp only[iG,ho]];have R:=y6 @ca (y6 @bl aC)
  repeat' ((first |(with_reducible refine .guard (fun hb =>?_) (fun hb =>?_) <;>try simp only[hb])|refine ae.aE (by decide +kernel) rfl fun K hK =>?_|refine .flat _ (hF1) rfl ?_|(refine .av [0,1,2,3,4,5,6,7,9,13,25,44] hK ?_;clear hK K)|(with_reducible refine .done (hK _ ?_);clear hK K)|refine ae.of rfl ?_|(with_reducible refine aA.aD (fun h =>?_) (fun h =>?_) <;>try simp only[h])) <;>try simp only[aF,R,simprocAttr])
  all_goals clear R
  rfl
 rw[hc] at hF1;rcases q1:lW r
 ·rw[q1] at hF2;rw[show iG p r=(dm,95) by simp only[iG,ho,q1,true_or,if_true]];have R:=y6 @ca (y6 @bl aC)
  repeat' ((first |(with_reducible refine .guard (fun hb =>?_) (fun hb =>?_) <;>try simp only[hb])|refine ae.aE (by decide +kernel) rfl fun K hK =>?_|refine .flat _ (hF1) rfl ?_|refine .flat _ (hF2) rfl ?_|(refine .av [0,1,2,3,4,5,6,7,9,13,25,44] hK ?_;clear hK K)|(with_reducible refine .done (hK _ ?_);clear hK K)|refine ae.of rfl ?_|(with_reducible refine aA.aD (fun h =>?_) (fun h =>?_) <;>try simp only[h])) <;>try simp only[aF,R,simprocAttr])
  all_goals clear R
  rfl
 rw[q1] at hF2;rcases q2:(r.to != p.aw)
 case true =>
  have e:r.to≠p.aw:=by simpa using q2
  rw[show iG p r=(dm,95) by simp only[iG,ho,if_pos (Or.inr e)]];have R:=y6 @q2 (y6 @ca (y6 @bl aC))
  repeat' ((first |(with_reducible refine .guard (fun hb =>?_) (fun hb =>?_) <;>try simp only[hb])|refine ae.aE (by decide +kernel) rfl fun K hK =>?_|refine .flat _ (hF1) rfl ?_|refine .flat _ (hF2) rfl ?_|(refine .av [0,1,2,3,4,5,6,7,9,13,25,44] hK ?_;clear hK K)|(with_reducible refine .done (hK _ ?_);clear hK K)|refine ae.of rfl ?_|(with_reducible refine aA.aD (fun h =>?_) (fun h =>?_) <;>try simp only[h])) <;>try simp only[aF,R,simprocAttr])
  all_goals clear R
  rfl
 have e:¬ r.to≠p.aw:=by simpa using q2
 have hk:1≤r.kind∧r.kind≤4:=by
  have:=q1;simp only[lW,cK,t8,decide_eq_true_eq] at this;omega
 have hKd:=GD r;rw[show (if r.kind=1 then (7:Int) else if r.kind=2 then 5 else if r.kind=3 then 8 else 6)=km r.kind by
  unfold km;split;· rfl
  split;· rfl
  split;· rfl
  rw[if_pos (by omega)]] at hKd
 have ay:iG p r=match fS s (gS r) with | none=>(p,0) | some _=>eS p (gS r):=by
  simp only[iG,ho,q1,zx3,false_or,if_neg e];cases fS s (gS r) <;>rfl
 have hj:fP (gS r)=true:=by
  have h7:5≤km r.kind∧km r.kind≤8:=by
   unfold km;split;· omega
   split;· omega
   split;· omega
   rw[if_pos (by omega)];omega
  have:=q1;simp only[lW,t8] at this;rw[gS,Yu h7];simp only[t8]
  simp_all
 have hst:=hr.step hj;have hF3:=pY p ao;have hF4:=r0 (hX p) (gS r) ab;have hF5:=pZ p (gS r) ao;have hF6:=Gk p (by omega);have hbl:(dK [.int .i64 0,.int .i64 0,.int .i64 0,.int .i64 0] [(0,.int .i64 (km r.kind)),(1,.int .i64 r.aK),(2,.int .i64 r.c6),(3,.int .i64 r.no)]).map I.agg=some (enc (gS r)):=sk _ _ _ _;rw[fS,if_pos hj] at ay;cases hn:ec s (gS r) with
 |none =>
  rw[hn] at hst ay;simp only at hst ay;rw[hst] at hF4;rw[ay];have R:=y6 @q2 (y6 @hbl (y6 @pN (y6 @cq (y6 @ca (y6 @bl aC)))))
  repeat' ((first |(with_reducible refine .guard (fun hb =>?_) (fun hb =>?_) <;>try simp only[hb])|refine ae.aE (by decide +kernel) rfl fun K hK =>?_|refine .flat _ (hF1) rfl ?_|refine .flat _ (hF2) rfl ?_|refine .flat _ (hKd) rfl ?_|refine .lead _ (hF3) ?_|refine .lead _ (hF4) ?_|refine .lead _ (hF6) ?_|(refine .av [0,1,2,3,4,5,6,7,9,13,25,44] hK ?_;clear hK K)|(with_reducible refine .done (hK _ ?_);clear hK K)|refine ae.of rfl ?_|(with_reducible refine aA.aD (fun h =>?_) (fun h =>?_) <;>try simp only[h])) <;>try simp only[aF,R,simprocAttr])
  all_goals clear R
 |some s2 =>
  rw[hn] at hst ay;simp only at hst ay;rw[hst.1] at hF4;rw[ay];have R:=y6 @q2 (y6 @hbl (y6 @pN (y6 @cq (y6 @ca (y6 @bl aC)))))
  repeat' ((first |(with_reducible refine .guard (fun hb =>?_) (fun hb =>?_) <;>try simp only[hb])|refine ae.aE (by decide +kernel) rfl fun K hK =>?_|refine .flat _ (hF1) rfl ?_|refine .flat _ (hF2) rfl ?_|refine .flat _ (hKd) rfl ?_|refine .lead _ (hF3) ?_|refine .lead _ (hF4) ?_|refine .lead _ (hF5) ?_|(refine .av [0,1,2,3,4,5,6,7,9,13,25,44] hK ?_;clear hK K)|(with_reducible refine .done (hK _ ?_);clear hK K)|refine ae.of rfl ?_|(with_reducible refine aA.aD (fun h =>?_) (fun h =>?_) <;>try simp only[h])) <;>try simp only[aF,R,simprocAttr])
  all_goals clear R
end Go.Proofs.YthbdbocionnfgaaGreatDoor
namespace Go.Proofs.YthbdbocionnfgaaGreatDoor
open Go Go.Abs Go.Shelf
open Go.Abs.Enc (enc)
def Xd:Go.Shelf.Ren:=⟨fun | 171=>119 | 243=>144 | 246=>159 | 283=>170 | 284=>171 | 285=>172 | 286=>173 | 129=>143 | 317=>182 | 318=>183 | 319=>184 | 320=>185 | 337=>190 | 338=>191 | n=>n,fun | 3=>3 | 9=>9 | 2=>2 | 4=>4 | 171=>198 | 0=>0 | 53=>171 | 37=>172 | 5=>5 | 173=>200 | 212=>209 | 51=>169 | 20=>20 | 213=>210 | 46=>151 | 232=>223 | 233=>224 | n=>n,fun | 17=>3 | 18=>6 | 19=>7 | n=>n⟩
theorem Xc:Go.Proofs.LaysM.n171 Tryz.prog Xd := {
 mixed:=by kernel_rfl
 f129:=Tryz.func143.trans (congrArg some (by kernel_rfl))
 f171:=Tryz.func119.trans (congrArg some (by kernel_rfl))
 f243:=Tryz.func144.trans (congrArg some (by kernel_rfl))
 f246:=Tryz.func159.trans (congrArg some (by kernel_rfl))
 f283:=Tryz.func170.trans (congrArg some (by kernel_rfl))
 f284:=Tryz.func171.trans (congrArg some (by kernel_rfl))
 f285:=Tryz.func172.trans (congrArg some (by kernel_rfl))
 f286:=Tryz.func173.trans (congrArg some (by kernel_rfl))
 f317:=Tryz.func182.trans (congrArg some (by kernel_rfl))
 f318:=Tryz.func183.trans (congrArg some (by kernel_rfl))
 f319:=Tryz.func184.trans (congrArg some (by kernel_rfl))
 f320:=Tryz.func185.trans (congrArg some (by kernel_rfl))
 f337:=Tryz.func190.trans (congrArg some (by kernel_rfl))
 f338:=Tryz.func191.trans (congrArg some (by kernel_rfl))
 t0:=Tryz.underlying0
 a0:=Tryz.isAgg0
 z0:=Tryz.sizeOf0
 v0:=Tryz.zeroValue0
 t2:=Tryz.underlying2
 a2:=Tryz.isAgg2
 z2:=Tryz.sizeOf2
 v2:=Tryz.zeroValue2
 t3:=Tryz.underlying3
 a3:=Tryz.isAgg3
 z3:=Tryz.sizeOf3
 v3:=Tryz.zeroValue3
 t4:=Tryz.underlying4
 a4:=Tryz.isAgg4
 z4:=Tryz.sizeOf4
 v4:=Tryz.zeroValue4
 t5:=Tryz.underlying5
 a5:=Tryz.isAgg5
 z5:=Tryz.sizeOf5
 v5:=Tryz.zeroValue5
 t9:=Tryz.underlying9
 a9:=Tryz.isAgg9
 z9:=Tryz.sizeOf9
 v9:=Tryz.zeroValue9
 t20:=Tryz.underlying20
 a20:=Tryz.isAgg20
 z20:=Tryz.sizeOf20
 v20:=Tryz.zeroValue20
 t37:=Tryz.underlying172
 a37:=Tryz.isAgg172
 z37:=Tryz.sizeOf172
 v37:=Tryz.zeroValue172
 t46:=Tryz.underlying151
 a46:=Tryz.isAgg151
 z46:=Tryz.sizeOf151
 v46:=Tryz.zeroValue151
 t51:=Tryz.underlying169
 a51:=Tryz.isAgg169
 z51:=Tryz.sizeOf169
 v51:=Tryz.zeroValue169
 t53:=Tryz.underlying171
 a53:=Tryz.isAgg171
 z53:=Tryz.sizeOf171
 v53:=Tryz.zeroValue171
 t171:=Tryz.underlying198
 a171:=Tryz.isAgg198
 z171:=Tryz.sizeOf198
 v171:=Tryz.zeroValue198
 t173:=Tryz.underlying200
 a173:=Tryz.isAgg200
 z173:=Tryz.sizeOf200
 v173:=Tryz.zeroValue200
 t212:=Tryz.underlying209
 a212:=Tryz.isAgg209
 z212:=Tryz.sizeOf209
 v212:=Tryz.zeroValue209
 t213:=Tryz.underlying210
 a213:=Tryz.isAgg210
 z213:=Tryz.sizeOf210
 t232:=Tryz.underlying223
 a232:=Tryz.isAgg223
 z232:=Tryz.sizeOf223
 v232:=Tryz.zeroValue223
 t233:=Tryz.underlying224
 a233:=Tryz.isAgg224
 z233:=Tryz.sizeOf224
 v233:=Tryz.zeroValue224
 g17:=by kernel_rfl
 g18:=by kernel_rfl
 g19:=by kernel_rfl
 i0:=by kernel_rfl
 i2:=by kernel_rfl
 i3:=by kernel_rfl
 i4:=by kernel_rfl
 i5:=by kernel_rfl
 i9:=by kernel_rfl
 i20:=by kernel_rfl
 i37:=by kernel_rfl
 i46:=by kernel_rfl
 i51:=by kernel_rfl
 i53:=by kernel_rfl
 i171:=by kernel_rfl
 i173:=by kernel_rfl
 i212:=by kernel_rfl
 i232:=by kernel_rfl
 i233:=by kernel_rfl
 m17:=by kernel_rfl
 m18:=by kernel_rfl
 m19:=by kernel_rfl }
open Go.RowKit Go.Sort Go.Lib in
theorem strconv_Itoa (n : Int) (aY : -9223372036854775808 ≤ n) (J : n ≤ 9223372036854775807) (w : World) (htab : Lib.TabIs Tryz.prog w "internal/strconv.uint64pow10" .u64 Lib.pow10Tab) :
  Calls Tryz.prog 119 #[.int .i64 n] w fun e w'=>e=.returned (.string ⟨(Lib.itoa n).toArray⟩)∧∃ k os,w'=grow (w.drewN k) os:=Any.strconv_Itoa Xc n aY J w htab
structure ff where
 b:ByteArray
 deriving DecidableEq
instance:Enc ff where
 enc s:=.bR s.b
 sz:=1
 aX:=.one
 gG:=false
 done _:=rfl
 size _:=by simp[I.size]
 iq _:=by simp[I.aX]
 agg _:=rfl
def mJ(n:Int):ff:=⟨⟨(Lib.itoa n).toArray⟩⟩
open Go.Sort Go.RowKit in
theorem yu(w:World)(k:Nat)(os:Array Obj):Go.RowKit.Below w.heap.size w (grow (w.drewN k) os) :=
 ⟨rfl,rfl,rfl,by simp,fun i hi=>by rw[heap_grow_old _ _ (by simpa using hi)];rfl⟩
theorem FL(n:Int):bf Tryz.prog 119 [enc n] (enc (mJ n)):=by
 refine ⟨Ia,fun w D vs ao hD hv =>?_⟩;have hv':aI w D dh [.int .i64 n] vs:=hv;simp only[aI] at hv';obtain ⟨v,rest,cs,rfl,J,U,rfl⟩:=hv';obtain ⟨rfl,ah,ar⟩:=eW (jC J U);have h3':-9223372036854775808≤n:=ah;have h4':n≤9223372036854775807:=ar;have hg:Tryz.prog.globalNamed wg=some 3:=by kernel_rfl
 have htab:=(ao 3 hg).2;refine (strconv_Itoa n h3' h4' w htab).mono ?_;rintro e w' ⟨rfl,k,os,rfl⟩;refine ⟨_,D,rfl,⟨[.string ⟨(Lib.itoa n).toArray⟩],by simp[bA,I.isAgg,enc],?_⟩,yu w k os,fun b o af=>Nat.lt_of_lt_of_le (hD b o af) (yu w k os).size,fun _ _ h _=>h⟩;have hlen:=Lib.itoa_length_le n h3' h4'
 show al _ _ _ (.bR _) _
 simp only[al];refine ⟨rfl,?_⟩
 show (Lib.itoa n).toArray.size≤maxLen
 simp only[List.size_toArray,maxLen];omega
end Go.Proofs.YthbdbocionnfgaaGreatDoor
namespace Go.Proofs.YthbdbocionnfgaaGreatDoor
open Go Go.Abs
open Go.Abs.Enc (enc)
def oj:ff:=⟨⟨#[32]⟩⟩
def qW:ff:=⟨⟨#[10]⟩⟩
def jx(a b:ff):ff:=⟨a.b++b.b⟩
theorem qe(a b:ff):(jx a b).b.size=a.b.size+b.b.size:=by simp[jx]
theorem r9(a b:ff)(h:a.b.size+b.b.size≤9223372036854775807):cz .add (.bR a.b) (.bR b.b)=some (.bR (jx a b).b):=by
 simp only[cz,if_pos h,jx]
theorem BY{n:Int}(h:IntKind.i64.min≤n∧n≤IntKind.i64.max):(mJ n).b.size≤21:=by
 have:=Lib.itoa_length_le n h.1 h.2
 show (Lib.itoa n).toArray.size≤21
 simpa using this
def jJ(w:ff)(l:List Int)(i:Nat):ff:=(l.take i).foldl (fun a n=>jx a (jx oj (mJ n))) w
def me(w:ff)(l:List Int):ff:=jx (jJ w l l.length) qW
theorem EW(w:ff){l:List Int}{i:Nat}(h:i<l.length):jJ w l (i+1)=jx (jJ w l i) (jx oj (mJ l[i])):=by
 simp only[jJ,zy7 h,List.foldl_append,List.foldl_cons,List.foldl_nil]
theorem xj(w:ff){l:List Int}(ao:∀ x∈l,IntKind.i64.min≤x∧x≤IntKind.i64.max):∀ i,i≤l.length→(jJ w l i).b.size≤w.b.size+22*i
 |0,_=>by simp[jJ]
 |i+1,h=>by
  have J:=xj w ao i (by omega);have U:=BY (ao l[i] (List.getElem_mem _));rw[EW w (by omega),qe,qe];have ah:oj.b.size=1:=rfl;omega
theorem uq(w:ff)(l:List Int)(hb:w.b.size+22*l.length≤1000000000000):bf Tryz.prog 93 [enc w,enc l] (enc (me w l)):=by
 refine bf.bZ Tryz.func93 I4 J8 Lu (u8 rfl) (fun hwf W0 bF E1 =>?_);simp only[zI,Eu,bJ,zz1];have hlen:l.length≤maxLen:=((nk l).1 hwf.2.1).1;have hwl:∀ x∈l,IntKind.i64.min≤x∧x≤IntKind.i64.max:=fun x hx=>((nk l).1 hwf.2.1).2 x hx;simp only[maxLen] at hlen;have ab:=xj w hwl;refine .gw (by decide +kernel) fun K hK =>?_;simp only[Bu,bI,simprocAttr];refine .done (hK _ ?_);clear hK K;refine ae.seq ?_;refine .gw (by decide +kernel) fun K hK =>?_;simp only[Bv,bI,simprocAttr]
 try simp only[kC,bI,simprocAttr]
 refine .done (hK _ ?_);clear hK K;refine ae.block (ae.loop (fun i:Nat=>au [(0,enc (jJ w l i)),(7,enc l),(8,.int .i64 l.length),(9,.int .i64 i)] []) (fun i=>i≤l.length) (fun i=>l.length-i) 0 (zw8 _) ?_ (fun i hi =>?_))
 ·refine bH.dW ?_ ?_ ?_ ?_ <;>simp[cG,dF,cW,cY,cD,I.only,cJ]
  all_goals rfl
 ·refine .gw (by decide +kernel) fun K hK =>?_;simp only[Bw,bI,simprocAttr];refine .done (hK _ ?_);clear hK K;refine ae.seq ?_;refine ae.jX ?_;simp only[aA,bI,simprocAttr];refine ⟨fun h =>?_,fun h =>?_⟩
  ·have hlt:i<l.length:=by simpa using h
   refine ae.skip ?_;try simp only[eB,simprocAttr]
   refine ae.seq (ae.block ?_);refine .gw (by decide +kernel) fun K hK =>?_;simp only[Bx,bI,simprocAttr]
   try simp only[fh 1 hlt rfl,bI,simprocAttr]
   refine .done (hK _ ?_);clear hK K;refine .ku (by decide +kernel) fun K hK =>?_;simp only[By,bI,simprocAttr];refine .flat _ (FL l[i]) rfl ?_;have J:=BY (hwl l[i] (List.getElem_mem _));have U:=ab i hi;have ah:oj.b.size=1:=rfl
   try simp only[show (I.bR ⟨#[32]⟩)=I.bR oj.b from rfl,show (enc (mJ l[i]):I)=.bR (mJ l[i]).b from rfl,show (enc (jJ w l i):I)=.bR (jJ w l i).b from rfl,r9 oj (mJ l[i]) (by omega),r9 (jJ w l i) (jx oj (mJ l[i])) (by rw[qe];omega),bI,simprocAttr]
   refine .done (hK _ ?_);clear hK K;try simp only[eB,jQ]
   refine .ku (by decide +kernel) fun K hK =>?_;simp only[Bz,bI,simprocAttr];refine .done (hK _ ?_);clear hK K;try simp only[eB]
   refine ⟨i+1,by omega,by omega,?_⟩;rw[lA _ (by omega) (by omega),EW w hlt];refine bH.dW ?_ ?_ ?_ ?_ <;>simp[cG,dF,cW,cY,cD,I.only,cJ]
   all_goals rfl
  ·have hge:i=l.length:=by simp at h;omega
   subst hge;refine ae.exit ?_;try simp only[eB,jQ,simprocAttr]
   have U:=ab l.length (zz3 _);have ah:qW.b.size=1:=rfl;refine .gw (by decide +kernel) fun K hK =>?_;simp only[BA,bI,simprocAttr]
   try simp only[show (I.bR ⟨#[10]⟩)=I.bR qW.b from rfl,show (enc (jJ w l l.length):I)=.bR (jJ w l l.length).b from rfl,r9 (jJ w l l.length) qW (by omega),bI,simprocAttr]
   refine .done (hK _ ?_);clear hK K;refine ae.ret ?_;simp only[bI,simprocAttr];rfl
def lz:List ff:=[⟨⟨#[]⟩⟩,⟨⟨#[112,111,117,110,100]⟩⟩,⟨⟨#[114,101,108,101,97,115,101]⟩⟩,⟨⟨#[115,101,110,100]⟩⟩,⟨⟨#[99,97,108,108]⟩⟩,⟨⟨#[100,111,110,101]⟩⟩,⟨⟨#[98,97,99,107]⟩⟩,⟨⟨#[116,97,107,101]⟩⟩,⟨⟨#[114,101,102,117,115,101]⟩⟩]
theorem HV:fA 1 (some [I.bR ⟨#[]⟩,I.bR ⟨#[112,111,117,110,100]⟩,I.bR ⟨#[114,101,108,101,97,115,101]⟩,I.bR ⟨#[115,101,110,100]⟩,I.bR ⟨#[99,97,108,108]⟩,I.bR ⟨#[100,111,110,101]⟩,I.bR ⟨#[98,97,99,107]⟩,I.bR ⟨#[116,97,107,101]⟩,I.bR ⟨#[114,101,102,117,115,101]⟩])=some (enc lz):=by
 have h:fA 1 (some (lz.map (enc (α:=ff))))=some (enc lz):=by
  simp only[fA];rw[if_pos ⟨by simp[Enc.size];exact fun _ _=>rfl,iC _⟩];rfl
 exact h
theorem x6:bf Tryz.prog 94 [] (enc lz):=by
 refine bf.bZ Tryz.func94 I5 J9 Lv (u8 rfl) (fun hwf W0 bF E1 =>?_);simp only[zJ,Ev,bJ];have R:=y6 @HV aC
 repeat' ((first |refine ae.aE (by decide +kernel) rfl fun K hK =>?_|(refine .av [0] hK ?_;clear hK K)|(with_reducible refine .done (hK _ ?_);clear hK K)|refine ae.of rfl ?_|(with_reducible refine aA.aD (fun h =>?_) (fun h =>?_) <;>try simp only[h])) <;>try simp only[aF,R,simprocAttr])
 all_goals clear R
 all_goals rfl
def vg:ff:=⟨⟨#[]⟩⟩
def nW:ff:=⟨⟨#[112,111,117,110,100]⟩⟩
def kb(k:Int):ff:=lz.getD k.toNat vg
def mL(x:bh):ff:=if x.kind≤2 then me (kb x.kind) [x.aK] else me (kb x.kind) [x.aK,x.other,x.no]
def lZ(p:bx)(i:Nat):ff:=(p.j.take i).foldl (fun a x=>jx a (mL x)) (me nW [p.aw,p.eD])
def tu(p:bx):ff×Int:=match da p with
 |none=>(vg,91)
 |some _=>(lZ p p.j.length,0)
theorem FC(k:Int):(kb k).b.size≤7:=by
 have h:∀ x∈lz,x.b.size≤7:=by decide
 simp only[kb,zz0];cases hk:lz[k.toNat]? with
 |none=>exact zw8 _
 |some x=>exact h x (List.mem_of_getElem? hk)
theorem xk(w:ff){l:List Int}(ao:∀ x∈l,IntKind.i64.min≤x∧x≤IntKind.i64.max):(me w l).b.size≤w.b.size+22*l.length+1:=by
 have:=xj w ao l.length (zz3 _);rw[me,qe];have:qW.b.size=1:=rfl;omega
theorem vX{n:Int}(h:-100000≤n∧n≤100000):IntKind.i64.min≤n∧n≤IntKind.i64.max:=by
 have J:IntKind.i64.min=-9223372036854775808:=by decide
 have U:IntKind.i64.max=9223372036854775807:=by decide
 omega
theorem CG{x:bh}(h:fP x=true):(1≤x.kind∧x.kind≤8)∧(1≤x.aK∧x.aK≤9999)∧(0≤x.other∧x.other≤5)∧(0≤x.no∧x.no≤200):=by
 simp only[fP,cK] at h;split at h
 ·simp only[t8,decide_eq_true_eq,beq_iff_eq] at h;omega
 ·split at h
  ·simp only[t8,decide_eq_true_eq] at h;omega
  ·cases h
theorem Cb{x:bh}(h:fP x=true):(mL x).b.size≤74:=by
 obtain ⟨_,U,ah,ar⟩:=CG h;have hw:=FC x.kind;simp only[mL];split
 ·have:=xk (kb x.kind) (l:=[x.aK]) (by simp only[zx4,forall_eq];exact vX (by omega));simp only[zw2,List.length_nil] at this;omega
 ·have:=xk (kb x.kind) (l:=[x.aK,x.other,x.no]) (by
   intro y hy;simp only[zw4,List.not_mem_nil,or_false] at hy;rcases hy with rfl | rfl | rfl <;>exact vX (by omega))
  simp only[zw2,List.length_nil] at this;omega
theorem EY:∀ {l:List bh} {s s':aG},fY s l=some s'→∀ x∈l,fP x=true
 | [],_,_,_,x,hx=>by cases hx
 |y::l,s,s',h,x,hx=>by
  simp only[fY] at h;cases hy:fS s y with
  |none=>rw[hy] at h;cases h
  |some s2 =>
   rw[hy] at h;rcases zw4.1 hx with rfl | hx
   ·simp only[fS] at hy;split at hy
    ·assumption
    ·cases hy
   ·exact EY h x hx
theorem CQ{p:bx}{s:aG}(h:da p=some s):∀ x∈p.j,fP x=true:=EY (ij h).2.2.2.2.2
theorem C8(p:bx){i:Nat}(h:i<p.j.length):lZ p (i+1)=jx (lZ p i) (mL p.j[i]):=by
 simp only[lZ,zy7 h,List.foldl_append,List.foldl_cons,List.foldl_nil]
theorem C7{p:bx}{s:aG}(ho:da p=some s):∀ i,i≤p.j.length→(lZ p i).b.size≤50+74*i
 |0,_=>by
  have h5:=(ij ho).2.2.2.2.1;have ar:=(ij ho).2.2.2.1;simp only[iN,cK,t8,decide_eq_true_eq] at h5;have:=xk nW (l:=[p.aw,p.eD]) (by
   intro y hy;simp only[zw4,List.not_mem_nil,or_false] at hy;rcases hy with rfl | rfl <;>exact vX (by omega))
  have hp:nW.b.size=5:=rfl;simp only[zw2,List.length_nil] at this
  show (me nW [p.aw,p.eD]).b.size≤_
  omega
 |i+1,h=>by
  have J:=C7 ho i (by omega);have U:=Cb (CQ ho p.j[i] (List.getElem_mem _));rw[C8 p (by omega),qe];omega
theorem yC(a:Int):fA 1 (some [.int .i64 a])=some (enc [a]):=qb (ys:=[a]) 1 rfl
theorem HW(a b:Int):fA 1 (some [.int .i64 a,.int .i64 b])=some (enc [a,b]):=qb (ys:=[a,b]) 1 rfl
theorem HX(a b c:Int):fA 1 (some [.int .i64 a,.int .i64 b,.int .i64 c])=some (enc [a,b,c]):=qb (ys:=[a,b,c]) 1 rfl
theorem WT{k:Int}(h:1≤k∧k≤8)(A:ai):jW A 1 k (enc lz)=some (.ref (enc (kb k))):=by
 have hk:k.toNat<lz.length:=by show k.toNat<9;omega
 have:=fh (A:=A) (l:=lz) (k:=k.toNat) 1 hk rfl;have e:((k.toNat:Nat):Int)=k:=by omega
 rw[e] at this;rw[this];simp[kb,zz0,hk]
def yc(p:bx)(i:Nat):ai :=
 au [(1,.ptr 1 []),(5,enc (lZ p i)),(20,enc p.j),(21,.int .i64 p.j.length),(22,.int .i64 i)] [(1,.box (enc p))]
theorem Gi(p:bx):bf Tryz.prog 53 [enc p] (.tuple [enc (tu p).1,enc (tu p).2]):=by
 refine bf.bZ Tryz.func53 ID JK K5 (u8 rfl) (fun hwf W0 bF E1 =>?_);simp only[zh,D0,bJ];clear hwf;have hF:=ui p;simp only[qf] at hF;simp only[tu];have e0:(I.bR ⟨#[]⟩)=enc vg:=rfl;have e1:(I.bR ⟨#[112,111,117,110,100]⟩)=enc nW:=rfl;cases ho:da p with
 |none =>
  rw[ho] at hF;have R:=y6 @ca (y6 @bl (y6 @bU (y6 @bw (y6 @bq aC))))
  repeat' ((first |refine ae.aE (by decide +kernel) rfl fun K hK =>?_|refine .lead _ (hF) ?_|(refine .av [0,1,2,3,4,5,7,11,20,21,22,23,28] hK ?_;clear hK K)|(with_reducible refine .done (hK _ ?_);clear hK K)|refine ae.of rfl ?_|(with_reducible refine aA.aD (fun h =>?_) (fun h =>?_) <;>try simp only[h])) <;>try simp only[aF,R,simprocAttr])
  all_goals clear R
  all_goals rfl
 |some s =>
  have hjl:=(ij ho).2.2.2.1;have hok:=CQ ho;have hsz:=C7 ho;have hp:nW.b.size=5:=rfl;have hR:=uq nW [p.aw,p.eD] (by simp[hp]);rw[ho] at hF;have R:=y6 @HW (y6 @ca (y6 @bl (y6 @bU (y6 @bw (y6 @bq aC)))))
  repeat' ((first |refine ae.aE (by decide +kernel) rfl fun K hK =>?_|refine .lead _ (hF) ?_|refine .flat _ (hR) rfl ?_|(refine .av [0,1,2,3,4,5,7,11,20,21,22,23,28] hK ?_;clear hK K)|(with_reducible refine .done (hK _ ?_);clear hK K)|refine ae.of rfl ?_|(with_reducible refine aA.aD (fun h =>?_) (fun h =>?_) <;>try simp only[h])) <;>try simp only[aF,R,simprocAttr])
  all_goals clear R
  refine ae.loop (yc p) (fun i=>i≤p.j.length) (fun i=>p.j.length-i) 0 (zw8 _) ?_ ?_
  ·refine bH.dW ?_ ?_ ?_ ?_ <;>simp[cG,dF,cW,cY,az,cD,ez,I.only,aq.only,cJ]
   all_goals rfl
  intro i hi;simp only[yc];have hsi:=hsz i hi;by_cases hlt:i<p.j.length
  ·have hc:=gV hlt;have he:=fun A=>fh (A:=A) 4 hlt rfl;have hw:=gZ (i:=i) (by omega);have hst:∀ A rest b,df A (some 4) 7 [] b (enc p.j[i]) rest (some (.agg [.int .i64 0,.int .i64 0,.int .i64 0,.int .i64 0]))=aB rest (A.aV 7 (.box (enc p.j[i]))):=fun A rest b=>dE (er _) (by rw[fg];rfl) (eJ _);have hoki:=hok p.j[i] (List.getElem_mem hlt);have hls:=Cb hoki;obtain ⟨hk,hk2⟩:=CG hoki;have hwd:=WT hk;have hps:=C8 p hlt;have hww:=FC p.j[i].kind;generalize p.j[i]=x at *;have hadd:∀ l:ff,l.b.size≤74→cz .add (enc (lZ p i)) (enc l)=some (enc (jx (lZ p i) l)):=fun l h=>r9 (lZ p i) l (by omega);rcases q:decide (x.kind≤2)
   ·have bG:¬ x.kind≤2:=of_decide_eq_false q;have ao:mL x=me (kb x.kind) [x.aK,x.other,x.no]:=by simp[mL,bG]
    rw[ao] at hls hps;have hR2:=uq (kb x.kind) [x.aK,x.other,x.no] (by simp;omega);have had:=hadd _ hls;have R:=y6 @hc (y6 @he (y6 @hw (y6 @hst (y6 @hwd (y6 @q (y6 @had (y6 @HX (y6 @ca (y6 @bl (y6 @bU (y6 @bw (y6 @bq aC))))))))))))
    repeat' ((first |refine ae.aE (by decide +kernel) rfl fun K hK =>?_|refine .lead _ (x6) ?_|refine .flat _ (hR2) rfl ?_|(refine .av [0,1,2,3,4,5,7,11,20,21,22,23,28] hK ?_;clear hK K)|(with_reducible refine .done (hK _ ?_);clear hK K)|refine ae.of rfl ?_|(with_reducible refine aA.aD (fun h =>?_) (fun h =>?_) <;>try simp only[h])) <;>try simp only[aF,R,simprocAttr])
    all_goals clear R
    refine ⟨i+1,by omega,by omega,?_⟩;rw[hps];refine bH.dW ?_ ?_ ?_ ?_ <;>simp[cG,dF,cW,cY,az,cD,ez,I.only,aq.only,cJ]
    all_goals rfl
   ·have bG:x.kind≤2:=of_decide_eq_true q;have ao:mL x=me (kb x.kind) [x.aK]:=by simp[mL,bG]
    rw[ao] at hls hps;have hR2:=uq (kb x.kind) [x.aK] (by simp;omega);have had:=hadd _ hls;have R:=y6 @hc (y6 @he (y6 @hw (y6 @hst (y6 @hwd (y6 @q (y6 @had (y6 @yC (y6 @ca (y6 @bl (y6 @bU (y6 @bw (y6 @bq aC))))))))))))
    repeat' ((first |refine ae.aE (by decide +kernel) rfl fun K hK =>?_|refine .lead _ (x6) ?_|refine .flat _ (hR2) rfl ?_|(refine .av [0,1,2,3,4,5,7,11,20,21,22,23,28] hK ?_;clear hK K)|(with_reducible refine .done (hK _ ?_);clear hK K)|refine ae.of rfl ?_|(with_reducible refine aA.aD (fun h =>?_) (fun h =>?_) <;>try simp only[h])) <;>try simp only[aF,R,simprocAttr])
    all_goals clear R
    refine ⟨i+1,by omega,by omega,?_⟩;rw[hps];refine bH.dW ?_ ?_ ?_ ?_ <;>simp[cG,dF,cW,cY,az,cD,ez,I.only,aq.only,cJ]
    all_goals rfl
  ·have hge:i=p.j.length:=by omega
   have hc:=hE hlt;subst hge;have R:=y6 @hc (y6 @ca (y6 @bl (y6 @bU (y6 @bw (y6 @bq aC)))))
   repeat' ((first |refine ae.aE (by decide +kernel) rfl fun K hK =>?_|(refine .av [0,1,2,3,4,5,7,11,20,21,22,23,28] hK ?_;clear hK K)|(with_reducible refine .done (hK _ ?_);clear hK K)|refine ae.of rfl ?_|(with_reducible refine aA.aD (fun h =>?_) (fun h =>?_) <;>try simp only[h])) <;>try simp only[aF,R,simprocAttr])
   all_goals clear R
theorem bP.rT{P:Program}{Y:Value→List I→List (Nat×aq)→cC→Prop}{ab:List FuncId}{K:ai→Prop}{v:Value}{vs:List I}{dst:Option Nat}{rest:List aH}{ts:List (Nat×I)}{os osk ow:List (Nat×aq)}{In Ix:List (Nat×aq)→Prop}
  (hY:Y v vs osk (fun r os2=>(r=.bool true∧In os2)∨(r=.bool false∧Ix os2))) (hk:eY os osk) (hi:∀ os',In os'→eY os os') (hx:∀ os',Ix os'→eY os os') (hcl:I.cg vs=true) (how:∀ m,az ow m=true→m<1000000)
  (J:∀ os2,In os2→bP P Y ab K (aB rest ((au ts (ow++os2)).aU dst (.bool true)))) (U:∀ os2,Ix os2→bP P Y ab K (aB rest ((au ts (ow++os2)).aU dst (.bool false)))) :
  bP P Y ab K (.kN v vs dst rest (au ts (ow++osk))):=by
 refine .FD osk vs _ hY (gi.iD hk how) (sh vs hcl) ?_ ?_
 ·rintro r os' (⟨rfl,h⟩ | ⟨rfl,h⟩)
  ·exact gA.iD hk (hi _ h) rfl
  ·exact gA.iD hk (hx _ h) rfl
 ·rintro r os' (⟨rfl,h⟩ | ⟨rfl,h⟩)
  ·rw[sj hk (hi _ h) how];exact J os' h
  ·rw[sj hk (hx _ h) how];exact U os' h
theorem qz{os os2 ow:List (Nat×aq)}{ts:List (Nat×I)}(h:eY os os2)(how:∀ m,az ow m=true→m<1000000):∀ n x,aj os2 n=some x→(au ts (ow++os2)).o n=some x∧x.only (az os2)=true∧x.eg=true:=fun n x hx=>by
 have hn:az os2 n=true:=by simp[az,hx]
 have hg:=h.lQ n (by rw[←h.same];exact hn);refine ⟨?_,h.ok n x hx⟩;simp only[au,fF];cases hw:aj ow n with
 |none=>exact hx
 |some y=>have:=how n (by simp[az,hw]);omega
def tC:dB:=⟨0,0,0,0,0⟩
def nY(s:aG)(to n:Int):dB:=⟨if (s.bV (n.toNat-1)).dj then 3 else 1,s.aw,to,(s.bV (n.toNat-1)).aK,n⟩
def pP(s:aG)(to n:Int):Bool:=(s.bV (n.toNat-1)).to==to
def gj(s:aG)(to:Int)(i:Nat):List dB:=(((cu s.bD).take i).filter (pP s to)).map (nY s to)
def lg(s:aG)(to:Int)(no:Nat):List dB:=match s.bp.find? fun x=>decide (fB x=⟨to,no⟩) with
 |some x=>[⟨if x.kind=8 then 4 else 2,s.aw,to,x.aK,no⟩]
 |none=>[]
def gR(s:aG)(to:Int)(k:Nat):List dB:=(List.range k).flatMap fun i=>lg s to (i+1)
def fq(s:aG)(to:Int):List dB:=gj s to (cu s.bD).length++gR s to 200
theorem v8(s:aG)(to:Int){i:Nat}(h:i<(cu s.bD).length):gj s to (i+1)=gj s to i++if pP s to (cu s.bD)[i] then [nY s to (cu s.bD)[i]] else []:=by
 simp only[gj,zy7 h,List.filter_append,zy5,List.filter_cons,List.filter_nil]
 congr 1
 split <;>rfl
theorem o6(s:aG)(to:Int)(k:Nat):gR s to (k+1)=gR s to k++lg s to (k+1):=by
 simp only[gR,List.range_succ,List.flatMap_append,List.flatMap_cons,List.flatMap_nil,List.append_nil]
theorem BU(s:aG)(to:Int):∀ {i n:Nat},i≤n→n≤(cu s.bD).length→gj s to i <+: gj s to n
 |i,0,h,_=>by
   have:i=0:=by omega
   subst this;exact List.prefix_rfl
 |i,n+1,h,hn=>by
  by_cases e:i=n+1
  ·subst e;exact List.prefix_rfl
  ·rw[v8 s to (by omega)];exact (BU s to (by omega) (by omega)).trans (List.prefix_append _ _)
theorem BX(s:aG)(to:Int):∀ {k n:Nat},k≤n→gR s to k <+: gR s to n
 |k,0,h=>by
   have:k=0:=by omega
   subst this;exact List.prefix_rfl
 |k,n+1,h=>by
  by_cases e:k=n+1
  ·subst e;exact List.prefix_rfl
  ·rw[o6];exact (BX s to (by omega)).trans (List.prefix_append _ _)
theorem BC{α:Type}{l m:List α}{x d:α}(h:l++[x] <+: m):l.length<m.length∧m.getD l.length d=x:=by
 obtain ⟨r,rfl⟩:=h;refine ⟨by simp,?_⟩;rw[zy1,zz0,zw1 (zz3 _)];simp
theorem We{s:aG}{to:Int}{i:Nat}(h:i<(cu s.bD).length)(ht:pP s to (cu s.bD)[i]=true):(gj s to i).length<(fq s to).length∧(fq s to).getD (gj s to i).length tC=nY s to (cu s.bD)[i]:=by
 have J:=v8 s to h;rw[if_pos ht] at J;have U:=BU s to (i:=i+1) (n:=(cu s.bD).length) (by omega) (zz3 _);rw[J] at U;exact BC (U.trans (List.prefix_append _ _))
theorem Wf{s:aG}{to:Int}{k:Nat}{x:dB}(h:k<200)(hx:lg s to (k+1)=[x]):(gj s to (cu s.bD).length++gR s to k).length<(fq s to).length∧(fq s to).getD (gj s to (cu s.bD).length++gR s to k).length tC=x:=by
 have J:=o6 s to k;rw[hx] at J;have U:=BX s to (k:=k+1) (n:=200) (by omega);rw[J] at U;refine BC ?_;rw[zy1];exact List.prefix_append_right_inj _ |>.2 U
theorem oJ(a b c d e:Int):(dK [.int .i64 0,.int .i64 0,.int .i64 0,.int .i64 0,.int .i64 0] [(0,.int .i64 a),(1,.int .i64 b),(2,.int .i64 c),(3,.int .i64 d),(4,.int .i64 e)]).map I.agg=some (enc (⟨a,b,c,d,e⟩:dB)):=by simp[dK,I.bT,I.size];rfl
theorem nh:(∀ A n b rest (q:dB) x y z w u,df A (some 5) n [] b (enc q) rest (some (.agg [.int .i64 x,.int .i64 y,.int .i64 z,.int .i64 w,.int .i64 u]))=aB rest (A.aV n (.box (enc q)))) ∧
  (∀ (A:ai) n (q:dB) rest (v u:Int),df A none n [0] (enc q) (.int .i64 v) rest (some (.int .i64 u))=aB rest (A.aV n (.box (enc (⟨v,q.c6,q.to,q.aK,q.no⟩:dB))))) ∧
  (∀ A n b rest (q:bh) x y z w,df A (some 4) n [] b (enc q) rest (some (.agg [.int .i64 x,.int .i64 y,.int .i64 z,.int .i64 w]))=aB rest (A.aV n (.box (enc q)))) :=
 ⟨fun A n b rest q x y z w u=>dE (er _) (by rw[fg];rfl) (eJ _),fun A n q rest v u=>dE rfl rfl rfl,fun A n b rest q x y z w=>dE (er _) (by rw[fg];rfl) (eJ _)⟩
theorem tp{a b:aq} : ∀ m,az [(7,a),(7,b)] m=true→m<1000000:=fun m h=>by
 simp only[az,aj] at h
 (repeat' split at h) <;>first | omega | (simp at h;done)
theorem tq{a b c:aq} : ∀ m,az [(7,a),(7,b),(7,c)] m=true→m<1000000:=fun m h=>by
 simp only[az,aj] at h
 (repeat' split at h) <;>first | omega | (simp at h;done)
theorem tn{a b c d:aq} : ∀ m,az [(11,a),(11,b),(9,c),(9,d)] m=true→m<1000000:=fun m h=>by
 simp only[az,aj] at h
 (repeat' split at h) <;>first | omega | (simp at h;done)
theorem wU{a b c d e:aq} : ∀ m,az [(11,a),(11,b),(11,e),(9,c),(9,d)] m=true→m<1000000:=fun m h=>by
 simp only[az,aj] at h
 (repeat' split at h) <;>first | omega | (simp at h;done)
theorem YF:∀ m,az [] m=true→m<1000000:=fun m h=>by simp[az,aj] at h
theorem ny{ow os osk:List (Nat×aq)}(hw:∀ m,az ow m=true→m<1000000)(gk:eY os osk):∀ m,aj osk m=none∨aj osk m=aj (ow++osk) m:=fun m=>by
 rw[fF];cases h:aj ow m with
 |none=>exact .inr rfl
 |some y=>exact .inl (gk.none (hw m (by simp[az,h])))
theorem oq(p:Nat→Bool)(s:aG):(dz s).only p=true:=kr p _ (oo s)
def r7(s:aG)(to:Int)(v:Value)(t:Nat×List (Nat×aq)):ai :=
 au [(0,.raw v),(1,.ref (dz s)),(2,.ref (.int .i64 to)),(8,.int .i64 ((t.1:Int)+1))] t.2
def r6(s:aG)(to:Int)(v:Value)(t:Nat×List (Nat×aq)):ai :=
 au [(0,.raw v),(1,.ref (dz s)),(2,.ref (.int .i64 to)),(13,enc (cu s.bD)),(14,.int .i64 (cu s.bD).length),(15,.int .i64 t.1)] t.2
theorem FJ(s:aG)(to:Int)(ao:s.aQ.length≤1000):x8 Tryz.prog 107 [.ref (dz s),.ref (enc to)] (fq s to).length (fun k=>[enc ((fq s to).getD k tC)]):=by
 intro Y v aZ Ix os hv hY hI hIx aY;have hG:=hI 0 os aY;have hlen:(cu s.bD).length=s.aQ.length:=by simp[cu,aG.bD]
 have hN:=x3 s (by omega);refine kD.bZ Tryz.func107 zM Je Kp (u8 rfl) (u8 rfl) hG.lQ (fun hwf W0 bF E1 =>?_);simp only[yG,Di,bJ,zz1,Nat.reduceAdd];have R:=y6 @dY (y6 @bl (y6 @bU (y6 @bw (y6 @bq aC))))
 repeat' ((first |(with_reducible refine .guard (fun hb =>?_) (fun hb =>?_) <;>try simp only[hb])|refine ae.aE (by decide +kernel) rfl fun K hK =>?_|refine .lead _ (hN) ?_|(refine .av [0,1,2,5,6,7,8,9,10,11,13,14,15,16,39,52,55,80,88] hK ?_;clear hK K)|(with_reducible refine .done (hK _ ?_);clear hK K)|refine ae.of rfl ?_|(with_reducible refine aA.aD (fun h =>?_) (fun h =>?_) <;>try simp only[h])) <;>try simp only[aF,R,simprocAttr])
 all_goals clear R
 refine ae.loop (r6 s to v) (fun t=>t.1≤(cu s.bD).length∧aZ (gj s to t.1).length t.2) (fun t=>(cu s.bD).length-t.1) (0,os) ⟨zw8 _,aY⟩ ?_ ?_
 ·refine bH.slots ?_ (fun n=>rfl);simp[cG,cD]
 rintro ⟨i,osk⟩ ⟨hi,hIk⟩;simp only at hi hIk;have gk:=hI _ osk hIk;have n7:=gk.none (n:=7) (by decide);simp only[r6];by_cases hlt:i<(cu s.bD).length
 ·have hc:=gV hlt;have he:=fun A=>fh (A:=A) 1 hlt rfl;have hw:=gZ (i:=i) (by omega);have hlk:=Cd s hlt;have hsu:=v8 s to hlt;have hra:=We (s:=s) (to:=to) hlt;obtain ⟨n,hn⟩:∃ n,n=(cu s.bD)[i]:=⟨_,rfl⟩
  rw[←hn] at he hlk hsu hra;obtain ⟨r,hr⟩:∃ r,r=s.bV (n.toNat-1):=⟨_,rfl⟩
  have hrd:nY s to n=⟨if r.dj then 3 else 1,s.aw,to,r.aK,n⟩:=by simp only[nY,←hr]
  have hta:pP s to n=(r.to==to):=by simp only[pP,←hr]
  rw[←hr] at hlk;rcases q:(r.to==to)
  ·rw[q] at hta;rw[hta] at hsu;simp only[zz2,if_false,List.append_nil] at hsu;rcases qc:r.dj
   all_goals
    have R:=y6 @hc (y6 @he (y6 @hw (y6 @hlk (y6 @q (y6 @qc (y6 @n7 (y6 @oJ (y6 @nh (y6 @dY (y6 @bl (y6 @bU (y6 @bw (y6 @bq aC)))))))))))))
    repeat' ((first |(with_reducible refine .guard (fun hb =>?_) (fun hb =>?_) <;>try simp only[hb])|(refine ae.pE (gs:=nE) [] [] [0,1,2,3,4,5,6,7,8,9,10,11] (by decide +kernel) (cN.of (by simp[e9])) fun K hK =>?_;simp only[eQ,nE,zy2,zy3,R,simprocAttr])|refine ae.aE (by decide +kernel) rfl fun K hK =>?_|(refine .av [0,1,2,5,6,7,8,9,10,11,13,14,15,16,39,52,55,80,88] hK ?_;clear hK K)|(with_reducible refine .done (hK _ ?_);clear hK K)|refine ae.of rfl ?_|(with_reducible refine aA.aD (fun h =>?_) (fun h =>?_) <;>try simp only[h])) <;>try simp only[aF,R,simprocAttr])
    all_goals clear R
    refine ⟨(i+1,osk),⟨by simp only;omega,by simp only[hsu];exact hIk⟩,by simp only;omega,?_⟩;refine bH.fn ?_ ?_ ?_ (fun m x h=>(gk.ok m x h).1)
    ·simp[cG,cD]
    ·first | exact ny (ow:=[(7,_),(7,_)]) tp gk | exact ny (ow:=[(7,_),(7,_),(7,_)]) tq gk
    ·simp[cW,I.only,cJ,oq]
  ·rw[q] at hta;rw[hta,if_pos rfl] at hsu;obtain ⟨g1,g2⟩:=hra hta;have hs1:(gj s to (i+1)).length=(gj s to i).length+1:=by rw[hsu];simp
   have hy:=hY _ osk _ g1 hIk (fun r os2 h=>h);simp only[g2,hrd] at hy;rcases qc:r.dj
   ·rw[qc] at hy;simp only[zz2,if_false] at hy;have R:=y6 @hc (y6 @he (y6 @hw (y6 @hlk (y6 @q (y6 @qc (y6 @n7 (y6 @oJ (y6 @nh (y6 @sv (y6 @dY (y6 @bl (y6 @bU (y6 @bw (y6 @bq aC))))))))))))))
    repeat' ((first |(with_reducible refine .guard (fun hb =>?_) (fun hb =>?_) <;>try simp only[hb])|(refine ae.pE (gs:=nE) [] [] [0,1,2,3,4,5,6,7,8,9,10,11] (by decide +kernel) (cN.of (by simp[e9])) fun K hK =>?_;simp only[eQ,nE,zy2,zy3,R,simprocAttr])|refine ae.aE (by decide +kernel) rfl fun K hK =>?_|refine bP.rT (ow:=[(7,_),(7,_)]) hy gk (hI _) hIx (by simp[I.cg,kR]) tp (fun os2 U =>?_) (fun os2 U =>?_)|(refine .av [0,1,2,5,6,7,8,9,10,11,13,14,15,16,39,52,55,80,88] hK ?_;clear hK K)|(with_reducible refine .done (hK _ ?_);clear hK K)|refine ae.of rfl ?_|(with_reducible refine aA.aD (fun h =>?_) (fun h =>?_) <;>try simp only[h])) <;>try simp only[aF,R,simprocAttr])
    all_goals clear R
    ·have g3:=hI _ os2 U;refine ⟨(i+1,os2),⟨by simp only;omega,by simp only[hs1];exact U⟩,by simp only;omega,?_⟩;refine bH.fn ?_ (ny tp g3) ?_ (fun m x h=>(g3.ok m x h).1)
     ·simp[cG,cD]
     ·simp[cW,I.only,cJ,oq]
    ·rw[n5];exact ⟨os2,[],qz (hIx os2 U) tp,trivial,rfl,.inr U⟩
   ·rw[qc] at hy;simp only[if_true] at hy;have R:=y6 @hc (y6 @he (y6 @hw (y6 @hlk (y6 @q (y6 @qc (y6 @n7 (y6 @oJ (y6 @nh (y6 @sv (y6 @dY (y6 @bl (y6 @bU (y6 @bw (y6 @bq aC))))))))))))))
    repeat' ((first |(with_reducible refine .guard (fun hb =>?_) (fun hb =>?_) <;>try simp only[hb])|(refine ae.pE (gs:=nE) [] [] [0,1,2,3,4,5,6,7,8,9,10,11] (by decide +kernel) (cN.of (by simp[e9])) fun K hK =>?_;simp only[eQ,nE,zy2,zy3,R,simprocAttr])|refine ae.aE (by decide +kernel) rfl fun K hK =>?_|refine bP.rT (ow:=[(7,_),(7,_),(7,_)]) hy gk (hI _) hIx (by simp[I.cg,kR]) tq (fun os2 U =>?_) (fun os2 U =>?_)|(refine .av [0,1,2,5,6,7,8,9,10,11,13,14,15,16,39,52,55,80,88] hK ?_;clear hK K)|(with_reducible refine .done (hK _ ?_);clear hK K)|refine ae.of rfl ?_|(with_reducible refine aA.aD (fun h =>?_) (fun h =>?_) <;>try simp only[h])) <;>try simp only[aF,R,simprocAttr])
    all_goals clear R
    ·have g3:=hI _ os2 U;refine ⟨(i+1,os2),⟨by simp only;omega,by simp only[hs1];exact U⟩,by simp only;omega,?_⟩;refine bH.fn ?_ (ny tq g3) ?_ (fun m x h=>(g3.ok m x h).1)
     ·simp[cG,cD]
     ·simp[cW,I.only,cJ,oq]
    ·rw[n5];exact ⟨os2,[],qz (hIx os2 U) tq,trivial,rfl,.inr U⟩
 ·have hge:i=(cu s.bD).length:=by omega
  have hc:=hE hlt;rw[hge] at hIk;rw[hge] at hc ⊢;have R:=y6 @hc (y6 @dY (y6 @bl (y6 @bU (y6 @bw (y6 @bq aC)))))
  repeat' ((first |(with_reducible refine .guard (fun hb =>?_) (fun hb =>?_) <;>try simp only[hb])|refine ae.aE (by decide +kernel) rfl fun K hK =>?_|(refine .av [0,1,2,5,6,7,8,9,10,11,13,14,15,16,39,52,55,80,88] hK ?_;clear hK K)|(with_reducible refine .done (hK _ ?_);clear hK K)|refine ae.of rfl ?_|(with_reducible refine aA.aD (fun h =>?_) (fun h =>?_) <;>try simp only[h])) <;>try simp only[aF,R,simprocAttr])
  all_goals clear R
  refine ae.loop (r7 s to v) (fun t=>t.1≤200∧aZ (gj s to (cu s.bD).length++gR s to t.1).length t.2) (fun t=>200-t.1) (0,osk) ⟨zw8 _,by simpa[gR] using hIk⟩ ?_ ?_
  ·refine bH.slots ?_ (fun n=>rfl);simp[cG,cD]
  clear hIk gk n7 hc hlt hi hge;rintro ⟨k,osk⟩ ⟨hk,hIk⟩;simp only at hk hIk;have gk:=hI _ osk hIk;have n9:=gk.none (n:=9) (by decide);have n11:=gk.none (n:=11) (by decide);simp only[r7];by_cases hlt:k<200
  ·have hc:decide (((k:Int)+1)≤200)=true:=by simp;omega
   have hw:IntKind.i64.wrap ((k:Int)+1+1)=((k+1:Nat):Int)+1:=by rw[lA _ (by omega) (by omega)];omega
   have hsu:=o6 s to k;have hlg:=Cc vj fB (fun x:bh=>enc x) (.agg [.int .i64 0,.int .i64 0,.int .i64 0,.int .i64 0]) ⟨to,(k:Int)+1⟩ s.bp;have ew:(enc (⟨to,(k:Int)+1⟩:nt):I)=.agg [.int .i64 to,.int .i64 ((k:Int)+1)]:=rfl;rw[ew] at hlg;have e2:(fun x:bh=>decide ((⟨to,(k:Int)+1⟩:nt)=fB x))=fun x=>decide (fB x=⟨to,(k:Int)+1⟩):=by
    funext x;rw[Bool.eq_iff_iff];simp[eq_comm]
   rw[e2] at hlg;have hrb:lg s to (k+1)=match s.bp.find? fun x=>decide (fB x=⟨to,(k:Int)+1⟩) with
    |some x=>[⟨if x.kind=8 then 4 else 2,s.aw,to,x.aK,(k:Int)+1⟩]
    |none=>[]:=by simp only[lg];rfl
   have gr:=fun x=>Wf (s:=s) (to:=to) (k:=k) (x:=x) hlt;cases hf:s.bp.find? fun x=>decide (fB x=⟨to,(k:Int)+1⟩) with
   |none =>
    rw[hf] at hlg hrb;simp only at hlg hrb;have hlk:fo (.aP [.i .i64,.i .i64]) (.agg [.int .i64 0,.int .i64 0,.int .i64 0,.int .i64 0]) (.agg [.int .i64 to,.int .i64 ((k:Int)+1)]) (s.dZ.map enc) (s.bp.map enc)=some (enc gp,false):=hlg;have q:(gp.kind==8)=false:=rfl;rw[hrb,List.append_nil] at hsu;have R:=y6 @hc (y6 @hw (y6 @hlk (y6 @q (y6 @n9 (y6 @n11 (y6 @uH (y6 @oJ (y6 @nh (y6 @dY (y6 @bl (y6 @bU (y6 @bw (y6 @bq aC)))))))))))))
    repeat' ((first |(with_reducible refine .guard (fun hb =>?_) (fun hb =>?_) <;>try simp only[hb])|refine ae.aE (by decide +kernel) rfl fun K hK =>?_|(refine .av [0,1,2,5,6,7,8,9,10,11,13,14,15,16,39,52,55,80,88] hK ?_;clear hK K)|(with_reducible refine .done (hK _ ?_);clear hK K)|refine ae.of rfl ?_|(with_reducible refine aA.aD (fun h =>?_) (fun h =>?_) <;>try simp only[h])) <;>try simp only[aF,R,simprocAttr])
    all_goals clear R
    refine ⟨(k+1,osk),⟨by simp only;omega,by simp only[hsu];exact hIk⟩,by simp only;omega,?_⟩;refine bH.fn ?_ (ny (ow:=[(11,_),(11,_),(9,_),(9,_)]) tn gk) ?_ (fun m x h=>(gk.ok m x h).1)
    ·simp[cG,cD]
    ·simp[cW,I.only,oq]
   |some x =>
    rw[hf] at hlg hrb;simp only at hlg hrb;have hlk:fo (.aP [.i .i64,.i .i64]) (.agg [.int .i64 0,.int .i64 0,.int .i64 0,.int .i64 0]) (.agg [.int .i64 to,.int .i64 ((k:Int)+1)]) (s.dZ.map enc) (s.bp.map enc)=some (enc x,true):=hlg;obtain ⟨g1,g2⟩:=gr _ hrb;rw[hrb] at hsu;have hs1:(gj s to (cu s.bD).length++gR s to (k+1)).length=(gj s to (cu s.bD).length++gR s to k).length+1:=by rw[hsu];simp only[zz6,zw2,List.length_nil];omega
    have hy:=hY _ osk _ g1 hIk (fun r os2 h=>h);simp only[g2] at hy;rcases q:(x.kind==8)
    ·have qk:¬ x.kind=8:=by simpa using q
     simp only[if_neg qk] at hy;have R:=y6 @hc (y6 @hw (y6 @hlk (y6 @q (y6 @n9 (y6 @n11 (y6 @uH (y6 @oJ (y6 @nh (y6 @sv (y6 @dY (y6 @bl (y6 @bU (y6 @bw (y6 @bq aC))))))))))))))
     repeat' ((first |(with_reducible refine .guard (fun hb =>?_) (fun hb =>?_) <;>try simp only[hb])|refine ae.aE (by decide +kernel) rfl fun K hK =>?_|refine aS.rT (ow:=[(11,_),(11,_),(9,_),(9,_)]) hy gk (hI _) hIx (by simp[I.cg,kR]) tn (fun os2 U =>?_) (fun os2 U =>?_)|(refine .av [0,1,2,5,6,7,8,9,10,11,13,14,15,16,39,52,55,80,88] hK ?_;clear hK K)|(with_reducible refine .done (hK _ ?_);clear hK K)|refine ae.of rfl ?_|(with_reducible refine aA.aD (fun h =>?_) (fun h =>?_) <;>try simp only[h])) <;>try simp only[aF,R,simprocAttr])
     all_goals clear R
     ·have g3:=hI _ os2 U;refine ⟨(k+1,os2),⟨by simp only;omega,by simp only[hs1];exact U⟩,by simp only;omega,?_⟩;refine bH.fn ?_ (ny tn g3) ?_ (fun m x h=>(g3.ok m x h).1)
      ·simp[cG,cD]
      ·simp[cW,I.only,oq]
     ·rw[n5];exact ⟨os2,[],qz (hIx os2 U) tn,trivial,rfl,.inr U⟩
    ·have qk:x.kind=8:=by simpa using q
     simp only[if_pos qk] at hy;have R:=y6 @hc (y6 @hw (y6 @hlk (y6 @q (y6 @n9 (y6 @n11 (y6 @uH (y6 @oJ (y6 @nh (y6 @sv (y6 @dY (y6 @bl (y6 @bU (y6 @bw (y6 @bq aC))))))))))))))
     repeat' ((first |(with_reducible refine .guard (fun hb =>?_) (fun hb =>?_) <;>try simp only[hb])|refine ae.aE (by decide +kernel) rfl fun K hK =>?_|refine aS.rT (ow:=[(11,_),(11,_),(11,_),(9,_),(9,_)]) hy gk (hI _) hIx (by simp[I.cg,kR]) wU (fun os2 U =>?_) (fun os2 U =>?_)|(refine .av [0,1,2,5,6,7,8,9,10,11,13,14,15,16,39,52,55,80,88] hK ?_;clear hK K)|(with_reducible refine .done (hK _ ?_);clear hK K)|refine ae.of rfl ?_|(with_reducible refine aA.aD (fun h =>?_) (fun h =>?_) <;>try simp only[h])) <;>try simp only[aF,R,simprocAttr])
     all_goals clear R
     ·have g3:=hI _ os2 U;refine ⟨(k+1,os2),⟨by simp only;omega,by simp only[hs1];exact U⟩,by simp only;omega,?_⟩;refine bH.fn ?_ (ny wU g3) ?_ (fun m x h=>(g3.ok m x h).1)
      ·simp[cG,cD]
      ·simp[cW,I.only,oq]
     ·rw[n5];exact ⟨os2,[],qz (hIx os2 U) wU,trivial,rfl,.inr U⟩
  ·have hc:decide (((k:Int)+1)≤200)=false:=by simp;omega
   have hge:k=200:=by omega
   have R:=y6 @hc (y6 @dY (y6 @bl (y6 @bU (y6 @bw (y6 @bq aC)))))
   repeat' ((first |(with_reducible refine .guard (fun hb =>?_) (fun hb =>?_) <;>try simp only[hb])|refine ae.aE (by decide +kernel) rfl fun K hK =>?_|(refine .av [0,1,2,5,6,7,8,9,10,11,13,14,15,16,39,52,55,80,88] hK ?_;clear hK K)|(with_reducible refine .done (hK _ ?_);clear hK K)|refine ae.of rfl ?_|(with_reducible refine aA.aD (fun h =>?_) (fun h =>?_) <;>try simp only[h])) <;>try simp only[aF,R,simprocAttr])
   all_goals clear R
   rw[ma];refine ⟨osk,[],qz (ow:=[]) gk YF,trivial,rfl,.inl ?_⟩;rw[fq];rw[hge] at hIk;exact hIk
def EB(o:Option aG):I:=match o with
 |some s=>.tuple [dz s,.bool true]
 |none=>.tuple [.nilp,.bool false]
theorem Gp(aw:Int)(l:List bh)(ao:l.length≤200):bf Tryz.prog 62 [enc aw,enc l] (EB (fG aw l)):=by
 refine bf.bZ Tryz.func62 z7 Ap Ay (u8 rfl) (fun hwf W0 bF E1 =>?_);simp only[uU,w8,bJ,zz1];clear hwf;have R:=y6 @bU (y6 @bw (y6 @bq aC))
 repeat' ((first |refine ae.aE (by decide +kernel) rfl fun K hK =>?_|refine aS.eU rfl (fun _ _ _=>rfl) ?_|(refine .av [0,1,4,5,6,8,11,12,13,14,20] hK ?_;clear hK K)|(with_reducible refine .done (hK _ ?_);clear hK K)|refine ae.of rfl ?_|(with_reducible refine aA.aD (fun h =>?_) (fun h =>?_) <;>try simp only[h])) <;>try simp only[aF,R,simprocAttr])
 all_goals clear R
 refine ae.loop (r5 l) (fun t=>t.1≤l.length∧fY (eU aw) (l.take t.1)=some t.2) (fun t=>l.length-t.1) (0,eU aw) ⟨zw8 _,rfl⟩ ?_ ?_
 ·rw[List.append_nil];refine bH.fn ?_ (fun n=>.inr rfl) ?_ (fun n x h=>(lv (kZ aw) h).1)
  ·simp[cG,cD]
  ·have:=(dL (iF (eU aw).all.length) (n:=2000)).2 (.inl (by omega));simp[cW,I.only,cJ,this]
 rintro ⟨i,s⟩ ⟨hi,hrun⟩;simp only at hi hrun;obtain ⟨hk,hme,hln⟩:=mX (kZ aw) hrun;have hln2:s.all.length≤i:=by simpa[eU,hi] using hln
 have n8:aj (dn s) 8=none:=eI (.inl (by omega)) fun i _=>by simp[bB];omega
 simp only[r5];by_cases hlt:i<l.length
 ·have hc:=gV hlt;have he:=fun A=>fh (A:=A) 4 hlt rfl;have hw:=gZ (i:=i) (by omega);have hst:∀ A rest,df A (some 4) 8 [] (.agg [.int .i64 0,.int .i64 0,.int .i64 0,.int .i64 0]) (enc l[i]) rest (some (.agg [.int .i64 0,.int .i64 0,.int .i64 0,.int .i64 0]))=aB rest (A.aV 8 (.box (enc l[i]))):=fun A rest=>dE (er _) (by rw[fg];rfl) (eJ _);have how:∀ (a b:aq) m,2000≤m→aj [(8,a),(8,b)] m=none:=fun a b m hm=>by simp only[aj];rw[if_neg (by omega),if_neg (by omega)]
  have hsp:l=l.take i++l[i]::l.drop (i+1):=by simp
  cases hn:fS s l[i] with
  |none =>
   have ab:ee s l[i]=(s,false):=by simp[ee,hn]
   have R:=y6 @hc (y6 @he (y6 @hst (y6 @n8 (y6 @bl (y6 @bU (y6 @bw (y6 @bq aC)))))))
   repeat' ((first |refine ae.aE (by decide +kernel) rfl fun K hK =>?_|refine aS.rN (ow:=[(8,_),(8,_)]) hk (by omega) rfl (how _ _) ab ?_|(refine .av [0,1,4,5,6,8,11,12,13,14,20] hK ?_;clear hK K)|(with_reducible refine .done (hK _ ?_);clear hK K)|refine ae.of rfl ?_|(with_reducible refine aA.aD (fun h =>?_) (fun h =>?_) <;>try simp only[h])) <;>try simp only[aF,R,simprocAttr])
   all_goals clear R
   have hno:fG aw l=none:=by
    rw[fG,hsp,pI,hrun];simp only[Option.bind_some,fY,hn]
   rw[hno];rfl
  |some s2 =>
   have ab:ee s l[i]=(s2,true):=by simp[ee,hn]
   have R:=y6 @hc (y6 @he (y6 @hst (y6 @hw (y6 @n8 (y6 @bU (y6 @bw (y6 @bq aC)))))))
   repeat' ((first |refine ae.aE (by decide +kernel) rfl fun K hK =>?_|refine aS.rN (ow:=[(8,_),(8,_)]) hk (by omega) rfl (how _ _) ab ?_|(refine .av [0,1,4,5,6,8,11,12,13,14,20] hK ?_;clear hK K)|(with_reducible refine .done (hK _ ?_);clear hK K)|refine ae.of rfl ?_|(with_reducible refine aA.aD (fun h =>?_) (fun h =>?_) <;>try simp only[h])) <;>try simp only[aF,R,simprocAttr])
   all_goals clear R
   obtain ⟨hk2,hme2,hln3⟩:=xK hk hn;refine ⟨(i+1,s2),⟨by simp only;omega,?_⟩,by simp only;omega,?_⟩
   ·rw[zy7 hlt,pI,hrun];simp only[Option.bind_some,fY,hn]
   ·refine bH.fn ?_ (fun n =>?_) ?_ (fun n x h=>(lv hk2 h).1)
    ·simp[cG,cD]
    ·simp only[fF];cases aj (dn s2) n with
     |none=>exact .inl rfl
     |some y=>exact .inr rfl
    ·have:=(dL (iF s2.all.length) (n:=2000)).2 (.inl (by omega));simp[cW,I.only,cJ,this]
 ·have hge:i=l.length:=by omega
  have hc:=hE hlt;subst hge;rw[List.take_length] at hrun;have hfin:∀ ts,cU (au ts (dn s)) 9 (.agg [.int .i64 s.aw,.mref 2001,.mref 2002,.int .i64 s.all.length,.mref 2003,.mref 2004])=some (fQ s):=fun ts=>gO (gQ (iF _) hk.cA fun n _=>rfl) 4;have hla:aj (dn s) 2000=some (.box (.agg [.int .i64 s.aw,.mref 2001,.mref 2002,.int .i64 s.all.length,.mref 2003,.mref 2004])):=ft;have hrd:fG aw l=some s:=hrun;rw[hrd];have R:=y6 @hc (y6 @hfin (y6 @hla (y6 @wE (y6 @bl (y6 @bU (y6 @bw (y6 @bq aC)))))))
  repeat' ((first |refine ae.aE (by decide +kernel) rfl fun K hK =>?_|(refine .av [0,1,4,5,6,8,11,12,13,14,20] hK ?_;clear hK K)|(with_reducible refine .done (hK _ ?_);clear hK K)|refine ae.of rfl ?_|(with_reducible refine aA.aD (fun h =>?_) (fun h =>?_) <;>try simp only[h])) <;>try simp only[aF,R,simprocAttr])
  all_goals clear R
  rfl
theorem Gq(s:aG)(to:Int):bf Tryz.prog 63 [dz s,enc to] (.func 107 [.ref (dz s),.ref (enc to)]):=by
 refine bf.bZ Tryz.func63 IG JN K8 (u8 rfl) (fun hwf W0 bF E1 =>?_);simp only[zk,D7,bJ,zz1];clear hwf;have hall:([I.ptr 2 [],I.ptr 3 []].all fun y=>y.bT)=true:=rfl;have hv:∀ k n,(I.int k n).bT=true:=fun _ _=>rfl;have R:=y6 @hall (y6 @hv (y6 @dY (y6 @bl (y6 @bU (y6 @bw (y6 @bq aC))))))
 repeat' ((first |refine ae.aE (by decide +kernel) rfl fun K hK =>?_|(refine .av [0,1,2,3,4] hK ?_;clear hK K)|(with_reducible refine .done (hK _ ?_);clear hK K)|refine ae.of rfl ?_|(with_reducible refine aA.aD (fun h =>?_) (fun h =>?_) <;>try simp only[h])) <;>try simp only[aF,R,simprocAttr])
 all_goals clear R
theorem WY{s:aG}(hk:cw s)(to:Int):(gj s to (cu s.bD).length).Nodup:=by
 have hn:s.bD.Nodup:=by
  simp only[aG.bD];exact List.Pairwise.map _ (fun a b h e=>h (by omega)) hk.iL
 have ab:(cu s.bD).Nodup:=(List.mergeSort_perm _ _).nodup_iff.2 hn;rw[gj,List.take_length];have hf:=ab.filter (pP s to);exact List.Pairwise.map _ (fun a b h e=>h (by simpa[nY] using congrArg dB.no e)) hf
theorem wa{s:aG}{to:Int} : ∀ {k:Nat} {x:dB},x∈gR s to k→x.no≤k∧(x.kind=2∨x.kind=4)
 |0,x,h=>by simp[gR] at h
 |k+1,x,h=>by
  rw[o6] at h;rcases zx6.1 h with h | h
  ·have:=wa h;omega
  ·simp only[lg] at h;split at h
   ·rw[zx4.1 h];refine ⟨by simp,?_⟩;simp only;split <;>simp
   ·cases h
theorem BW(s:aG)(to:Int):∀ k,(gR s to k).Nodup
 |0=>by simp[gR]
 |k+1=>by
  rw[o6];refine List.nodup_append.2 ⟨BW s to k,?_,fun a ha b hb e =>?_⟩
  ·simp only[lg];split <;>simp
  ·have J:=(wa ha).1;have U:b.no=(k:Int)+1:=by
    simp only[lg] at hb;split at hb
    ·rw[zx4.1 hb];simp
    ·cases hb
   rw[e] at J;omega
theorem Zt{s:aG}(hk:cw s)(to:Int):(fq s to).Nodup:=by
 refine List.nodup_append.2 ⟨WY hk to,BW s to 200,fun a ha b hb e =>?_⟩;have J:=(wa hb).2;rw[←e] at J;simp only[gj,zx1] at ha;obtain ⟨n,_,rfl⟩:=ha;simp only[nY] at J;split at J <;>omega
def lO(p:bx):List bh:=p.j.take p.eD.toNat
def pA(p:bx)(to:Int):List dB×Int:=match da p with
 |none=>([],91)
 |some _=>if cK 0 5 to=false∨to=p.aw then ([],90) else match fG p.aw (lO p) with
  |some s=>(fq s to,0)
  |none=>([],0)
theorem Nl{p:bx}{s:aG}(ho:da p=some s):0≤p.eD∧p.eD.toNat≤p.j.length∧∃ s2,fG p.aw (lO p)=some s2∧cw s2∧s2.aQ.length≤200:=by
 obtain ⟨_,_,_,ar,h5,h6⟩:=ij ho;simp only[iN,cK,t8,decide_eq_true_eq] at h5;obtain ⟨_,_,h7,h8⟩:=h5;have hsp:p.j=lO p++p.j.drop p.eD.toNat:=by simp[lO]
 rw[fG,hsp,pI] at h6;cases hr:fY (eU p.aw) (lO p) with
 |none=>rw[hr] at h6;cases h6
 |some s2 =>
  refine ⟨h7,by omega,s2,hr,(mX (kZ p.aw) hr).1,?_⟩;have:=xl hr;simp only[eU,List.length_nil,lO,zx7] at this;omega
theorem ZK{A:ai}{l:List bh}{i:Nat}(h:i≤l.length):ka A 4 none (some (.int .i64 i)) (some (.int .i64 i)) (enc l)=some (if i=0 then .c0 4 else enc (l.take i)):=by
 simp only[ka,hh,show Enc.sz bh=4 from rfl,if_true,iV,jt,zz8];rw[if_pos ⟨by omega,by omega,by omega,by omega⟩];by_cases aY:i=0
 ·simp[aY]
 ·rw[if_neg (by simp;omega),if_neg aY];simp
theorem mj{i:Nat}(l:List bh)(aN:Bool)(A:ai):bg aN A (if i=0 then .c0 4 else enc (l.take i))=some (enc (l.take i)):=by
 by_cases aY:i=0
 ·rw[if_pos aY,aY];simp only[bg];rfl
 ·rw[if_neg aY,lJ]
theorem BV(s:aG)(to:Int):∀ k,(gR s to k).length≤k
 |0=>by simp[gR]
 |k+1=>by
  have J:=BV s to k;have U:(lg s to (k+1)).length≤1:=by simp only[lg];split <;>simp
  rw[o6,zz6];omega
theorem Zs(s:aG)(to:Int):(fq s to).length≤s.aQ.length+200:=by
 have J:=BV s to 200;have U:(gj s to (cu s.bD).length).length≤s.aQ.length:=by
  simp only[gj,zz8,List.take_length];refine zv0 (List.length_filter_le _ _) ?_;simp[cu,aG.bD]
 rw[fq,zz6];omega
def iX(xs:List dB):List (Nat×aq):=[(1000009,.box (.own 1000080 xs.length)),(1000080,.b5 39 5 (xs.map enc))]
theorem ZT(xs ys:List dB):eY (iX xs) (iX ys):=by
 refine ⟨fun n=>by simp only[iX,az,aj];(repeat' split) <;>rfl,fun n x h =>?_,fun n h =>?_⟩
 ·simp only[iX,aj] at h
  repeat' split at h
  all_goals first | (cases h;done) | (simp only[v6] at h;subst h;exact ⟨by simp[iX,az,aj,aq.only,I.only,ic],rfl⟩)
 ·simp only[iX,az,aj] at h
  repeat' split at h
  all_goals first | omega | (simp at h;done)
theorem uh(p:bx)(to:Int):bf Tryz.prog 14 [enc p,enc to] (.tuple [enc (pA p to).1,enc (pA p to).2]):=by
 refine bf.bZ Tryz.func14 Ib Jl KF (u8 rfl) (fun hwf W0 bF E1 =>?_);simp only[yN,Dz,bJ,zz1];clear hwf;have hF:=ui p;simp only[qf] at hF;simp only[pA];cases ho:da p with
 |none =>
  rw[ho] at hF;have R:=y6 @ca (y6 @bl (y6 @bU (y6 @bw (y6 @bq aC))))
  repeat' ((first |(with_reducible refine .guard (fun hb =>?_) (fun hb =>?_) <;>try simp only[hb])|refine ae.aE (by decide +kernel) rfl fun K hK =>?_|refine .lead _ (hF) ?_|(refine .av [0,1,2,4,5,6,7,9,10,14,24,40,41,54] hK ?_;clear hK K)|(with_reducible refine .done (hK _ ?_);clear hK K)|refine ae.of rfl ?_|(with_reducible refine aA.aD (fun h =>?_) (fun h =>?_) <;>try simp only[h])) <;>try simp only[aF,R,simprocAttr])
  all_goals clear R
  all_goals rfl
 |some s =>
  obtain ⟨f1,f2,s2,hr,hk,hl2⟩:=Nl ho;have hjl:=(ij ho).2.2.2.1;rw[ho] at hF
  dsimp only at hF ⊢
  have hT:=mn to;rcases q2:cK 0 5 to
  ·rw[q2] at hT;simp only[true_or,if_true];have R:=y6 @ca (y6 @bl (y6 @bU (y6 @bw (y6 @bq aC))))
   repeat' ((first |(with_reducible refine .guard (fun hb =>?_) (fun hb =>?_) <;>try simp only[hb])|refine ae.aE (by decide +kernel) rfl fun K hK =>?_|refine .lead _ (hF) ?_|refine .flat _ (hT) rfl ?_|(refine .av [0,1,2,4,5,6,7,9,10,14,24,40,41,54] hK ?_;clear hK K)|(with_reducible refine .done (hK _ ?_);clear hK K)|refine ae.of rfl ?_|(with_reducible refine aA.aD (fun h =>?_) (fun h =>?_) <;>try simp only[h])) <;>try simp only[aF,R,simprocAttr])
   all_goals clear R
   all_goals rfl
  rw[q2] at hT;rcases q3:(to==p.aw)
  case true =>
   have e:to=p.aw:=by simpa using q3
   simp only[zx3,false_or,if_pos e];have R:=y6 @q3 (y6 @ca (y6 @bl (y6 @bU (y6 @bw (y6 @bq aC)))))
   repeat' ((first |(with_reducible refine .guard (fun hb =>?_) (fun hb =>?_) <;>try simp only[hb])|refine ae.aE (by decide +kernel) rfl fun K hK =>?_|refine .lead _ (hF) ?_|refine .flat _ (hT) rfl ?_|(refine .av [0,1,2,4,5,6,7,9,10,14,24,40,41,54] hK ?_;clear hK K)|(with_reducible refine .done (hK _ ?_);clear hK K)|refine ae.of rfl ?_|(with_reducible refine aA.aD (fun h =>?_) (fun h =>?_) <;>try simp only[h])) <;>try simp only[aF,R,simprocAttr])
   all_goals clear R
   all_goals rfl
  have e:¬ to=p.aw:=by simpa using q3
  simp only[zx3,false_or,if_neg e,hr];have hR:=Gp p.aw (lO p) (by simp only[lO,zx7];omega);rw[hr] at hR;simp only[EB] at hR;obtain ⟨w,hsl,hfw⟩:∃ w:I,(∀ A,ka A 4 none (some (.int .i64 p.eD)) (some (.int .i64 p.eD)) (enc p.j)=some w)∧∀ aN A,bg aN A w=some (enc (lO p)) :=
   ⟨_,fun A=>by
    have:=ZK (A:=A) (l:=p.j) (i:=p.eD.toNat) f2;rw[show ((p.eD.toNat:Nat):Int)=p.eD by omega] at this;exact this,fun aN A=>mj p.j aN A⟩
  have h63:=Gq s2 to;have R:=y6 @q3 (y6 @hsl (y6 @hfw (y6 @dY (y6 @ca (y6 @bl (y6 @bU (y6 @bw (y6 @bq aC))))))))
  repeat' ((first |(with_reducible refine .guard (fun hb =>?_) (fun hb =>?_) <;>try simp only[hb])|refine ae.aE (by decide +kernel) rfl fun K hK =>?_|refine .lead _ (hF) ?_|refine .flat _ (hT) rfl ?_|refine .lead _ (hR) ?_|refine .lead _ (h63) ?_|(refine .av [0,1,2,4,5,6,7,9,10,14,24,40,41,54] hK ?_;clear hK K)|(with_reducible refine .done (hK _ ?_);clear hK K)|refine ae.of rfl ?_|(with_reducible refine aA.aD (fun h =>?_) (fun h =>?_) <;>try simp only[h])) <;>try simp only[aF,R,Option.map_none,simprocAttr])
  all_goals clear R
  have hcap:I.cg [.ref (dz s2),.ref (.int .i64 to)]=true:=by simp[I.cg,I.bu,oo]
  refine ae.sub (bH.GX 9 80 39 5 5 [] _ rfl rfl rfl (B:=au [(9,.ptr 9 []),(40,.func 107 [.ref (dz s2),.ref (.int .i64 to)])] [(9,.box (.own 80 0)),(80,.b5 39 5 [])]) ?_) ?_
  ·simp only[og];refine bH.dW ?_ ?_ ?_ ?_ <;>simp[*,cG,dF,cW,cY,az,cD,ez,I.only,I.cv,aq.only,oq]
  have hnd:=Zt hk to;refine ae.mb (osb0:=iX []) (tsR:=[(9,.ptr 1000009 [])]) (ρ:=[(1999999,999999),(1000009,9),(1000080,80)])
   (fun k os=>os=iX ((fq s2 to).take k))
   (fun _ _=>False)
   ⟨rfl,rfl⟩ (u8 rfl) (by simp only[bI,simprocAttr]) hcap zM (FJ s2 to (by omega)) (fun _=>rfl) rfl rfl rfl (fun o=>⟨?_,?_⟩) ?_ ?_ ?_ ?_ ?_ ?_ ?_
  ·intro n x hx;simp only[en,iX,aj] at hx
   repeat' split at hx
   all_goals first | (cases hx;done) | (subst_vars;simp only[v6] at hx;subst hx;simp[en,iX,az,bK,aj,aq.bm,I.bm,I.dR,aq.only,I.only,I.cv,aq.eg])
  ·intro a b ha hb;simp only[en,iX,az,aj] at ha hb
   repeat' split at ha
   all_goals first | (simp at ha;done) | skip
   all_goals (repeat' split at hb)
   all_goals first | (simp at hb;done) | (subst_vars;simp[bK])
  ·simp[nd,cD,I.bm,bK,I.only,iX,az,aj]
  ·rintro k os rfl;exact ZT ..
  ·rintro e os h;exact h.elim
  ·simp[iX]
  ·rintro k osb hk' rfl W1 D1 E1 qJ o1 o2;obtain ⟨r,hr0⟩:∃ r,r=(fq s2 to).getD k tC:=⟨_,rfl⟩
   have hri:(fq s2 to)[k]=r:=by rw[hr0];simp[zz0,hk']
   have hsu:(fq s2 to).take (k+1)=(fq s2 to).take k++[r]:=by rw[zy7 hk',hri]
   have hN2:(fq s2 to).length≤400:=by
    have J:=Zs s2 to;omega
   have hk2:k<400:=Nat.lt_of_lt_of_le hk' hN2;have hlast:∀ j,j+1=k→∃ u,((fq s2 to).take k)[j]?=some u∧u≠r:=fun j hj=>by
    refine ⟨(fq s2 to)[j],by rw[List.getElem?_take_of_lt (by omega),zy4],fun e =>?_⟩;rw[←hri] at e;have:=(List.getElem_inj hnd).1 e;omega
   have hxl:((fq s2 to).take k).length=k:=by rw[zx7];omega
   generalize (fq s2 to).take k=xs at hsu hlast hxl ⊢;simp only[←hr0,tv,en,iX];have hst:∀ A rest b x y z w u,df A (some 5) 10 [] b (enc r) rest (some (.agg [.int .i64 x,.int .i64 y,.int .i64 z,.int .i64 w,.int .i64 u]))=aB rest (A.aV 10 (.box (enc r))):=fun A rest b x y z w u=>nh.1 A 10 b rest r x y z w u;have R:=y6 @hst (y6 @ca (y6 @bl (y6 @bU (y6 @bw (y6 @bq aC)))))
   repeat' ((first |(with_reducible refine .guard (fun hb =>?_) (fun hb =>?_) <;>try simp only[hb])|refine ae.aE (by decide +kernel) rfl fun K hK =>?_|(refine .av [0,1,2,4,5,6,7,9,10,14,24,40,41,54] hK ?_;clear hK K)|(with_reducible refine .done (hK _ ?_);clear hK K)|refine ae.of rfl ?_|(with_reducible refine aA.aD (fun h =>?_) (fun h =>?_) <;>try simp only[h])) <;>try simp only[aF,R,simprocAttr])
   all_goals clear R
   refine ⟨by simp[],?_⟩;have stOwn:∀ (A:ai) n b m k m' k' rest,df A none n [] b (.own m k) rest (some (.own m' k'))=aB rest (A.aV n (.box (.own m k))) :=
    fun _ _ _ m k m' k' _=>by rw[dE (s:=none) (v:=.own m k) (old:=.own m' k') rfl rfl rfl,og]
   have hbs:fA 5 (some [enc r])=some (enc [r]):=jf 5 r rfl;have hap:=fun (A:ai) d rest=>p7 (A:=A) (d:=d) 39 5 40 1000080 (l:=xs.length) (es:=xs) (ys:=[r]) (rest:=rest) rfl rfl (by simp) (by simp[maxLen];omega) (by simp;omega);have iz:∀ ts z1 z2 z3 z4 z5,EV o2 (fun os=>os=[(1000009,.box (.own 1000080 ((fq s2 to).take (k+1)).length)),(1000080,.b5 39 5 (((fq s2 to).take (k+1)).map enc))]) (fun _ _=>False) .normal
     (au ts [(1000009,.box (.own 1000080 (xs++[r]).length)),(1000080,.b5 39 5 ((xs++[r]).map enc)),(1999999,.dD o2),(10,z1),(10,z2),(1999999,z3),(1000009,z4),(1000080,z5)]):=fun ts z1 z2 z3 z4 z5=>by
    refine ⟨_,?_,rfl⟩;rw[hsu];intro n x hx;simp only[en,aj] at hx
    (repeat' split at hx) <;>first
     |(cases hx;done)
     |(subst_vars;simp only[v6] at hx;subst hx;simp[en,az,au,aj,aq.only,I.only,aq.eg,ic,-List.map_append])
   have hle:=fun (A:ai) (h:A.o 1000080=some (.b5 39 5 (xs.map enc)))=>Xh A 1000080 xs.length 39 5 xs h rfl;by_cases aY:k=0
   ·have hz:((xs.length:Int)==0)=true:=by rw[beq_iff_eq];omega
    have R:=y6 @hle (y6 @hz (y6 @hbs (y6 @hap (y6 @stOwn (y6 @ca (y6 @bl (y6 @bU (y6 @bw (y6 @bq aC)))))))))
    repeat' ((first |(with_reducible refine .guard (fun hb =>?_) (fun hb =>?_) <;>try simp only[hb])|refine ae.aE (by decide +kernel) rfl fun K hK =>?_|(refine .av [0,1,2,4,5,6,7,9,10,14,24,40,41,54] hK ?_;clear hK K)|(with_reducible refine .done (hK _ ?_);clear hK K)|refine ae.of rfl ?_|(with_reducible refine aA.aD (fun h =>?_) (fun h =>?_) <;>try simp only[h])) <;>try simp only[aF,R,simprocAttr])
    all_goals clear R
    exact iz _ _ _ _ _ _
   ·have hz:((xs.length:Int)==0)=false:=by rw[beq_eq_false_iff_ne];omega
    obtain ⟨u,hu,hne⟩:=hlast (k-1) (by omega);have hw1:IntKind.i64.wrap ((xs.length:Int)-1)=((k-1:Nat):Int):=by rw[lA _ (by omega) (by omega)];omega
    have hq:=AJ u r;rw[decide_eq_false hne] at hq;have hie:=fun (A:ai) (h:A.o 1000080=some (.b5 39 5 (xs.map enc)))=>(by
     have hu2:(xs.map (enc (α:=dB)))[k-1]?=some (enc u):=by rw[zy9,hu];rfl
     have hc:xs.length=(xs.map (enc (α:=dB))).length∧True∧(0:Int)≤((k-1:Nat):Int)∧((k-1:Nat):Int)<((xs.map (enc (α:=dB))).length:Nat):=⟨by simp,trivial,by omega,by simp;omega⟩
     simp only[jW,h];rw[if_pos hc,Int.toNat_natCast,hu2];rfl:jW A 5 ((k-1:Nat):Int) (.own 1000080 xs.length)=some (.ref (enc u)))
    have R:=y6 @hle (y6 @hz (y6 @hw1 (y6 @hie (y6 @hq (y6 @hbs (y6 @hap (y6 @stOwn (y6 @ca (y6 @bl (y6 @bU (y6 @bw (y6 @bq aC))))))))))))
    repeat' ((first |(with_reducible refine .guard (fun hb =>?_) (fun hb =>?_) <;>try simp only[hb])|refine ae.aE (by decide +kernel) rfl fun K hK =>?_|(refine .av [0,1,2,4,5,6,7,9,10,14,24,40,41,54] hK ?_;clear hK K)|(with_reducible refine .done (hK _ ?_);clear hK K)|refine ae.of rfl ?_|(with_reducible refine aA.aD (fun h =>?_) (fun h =>?_) <;>try simp only[h])) <;>try simp only[aF,R,simprocAttr])
    all_goals clear R
    all_goals exact iz _ _ _ _ _ _
  ·rintro os rfl;rw[List.take_length];simp only[iX,dy,zz4,zx8,bK,aq.bm,I.bm,tE,eB,jQ,reduceIte,Nat.reduceEqDiff,zz9,List.nil_append];have hfo:kU (fq s2 to).length (some (.b5 39 5 ((fq s2 to).map enc)))=some (enc (fq s2 to)):=qn 5 rfl rfl;have R:=y6 @hfo (y6 @ca (y6 @bl (y6 @bU (y6 @bw (y6 @bq aC)))))
   repeat' ((first |(with_reducible refine .guard (fun hb =>?_) (fun hb =>?_) <;>try simp only[hb])|refine ae.aE (by decide +kernel) rfl fun K hK =>?_|(refine .av [0,1,2,4,5,6,7,9,10,14,24,40,41,54] hK ?_;clear hK K)|(with_reducible refine .done (hK _ ?_);clear hK K)|refine ae.of rfl ?_|(with_reducible refine aA.aD (fun h =>?_) (fun h =>?_) <;>try simp only[h])) <;>try simp only[aF,R,simprocAttr])
   all_goals clear R
  ·rintro e os h;exact h.elim
def vk:bx:=⟨0,[],0⟩
def vl:bx:=⟨0,[⟨1,7,0,0⟩],0⟩
def vm:bx:=⟨0,[⟨1,7,0,0⟩],1⟩
def nA:bx:=⟨0,[⟨1,7,0,0⟩,⟨3,7,1,1⟩],1⟩
def nB:bx:=⟨0,[⟨1,7,0,0⟩,⟨3,7,1,1⟩],2⟩
def vn:bx:=⟨0,[⟨1,7,0,0⟩,⟨3,7,1,1⟩,⟨5,7,1,1⟩],2⟩
def vp:bx:=⟨1,[],0⟩
def qj:bx:=⟨1,[⟨7,7,0,1⟩],0⟩
def vq:bx:=⟨1,[⟨7,7,0,1⟩],1⟩
def oT:dB:=⟨1,0,1,7,1⟩
def oU:dB:=⟨2,1,0,7,1⟩
def vr:ff:=⟨⟨#[112,111,117,110,100,32,48,32,49,10,112,111,117,110,100,32,55,10,115,101,110,100,32,55,32,49,32,49,10]⟩⟩
theorem MP:qV 0=(vk,0):=by decide +kernel
theorem MZ:qV 1=(vp,0):=by decide +kernel
theorem MR:jj vk 7=(vl,0):=by decide +kernel
theorem MS:pO vl=(vm,0):=by decide +kernel
theorem MT:gx vm 7 1=(nA,⟨1,1,7,false⟩,0):=by decide +kernel
theorem MU:pA nA 1=([],0):=by decide +kernel
theorem MV:tu nA=(vr,0):=by decide +kernel
theorem MW:pO nA=(nB,0):=by decide +kernel
theorem MX:pA nB 1=([oT],0):=by decide +kernel
theorem M0:iG vp oT=(qj,0):=by decide +kernel
theorem M4:tZ [nB,qj] 7=([1],0):=by decide +kernel
theorem M2:pO qj=(vq,0):=by decide +kernel
theorem M3:pA vq 0=([oU],0):=by decide +kernel
theorem MY:iG nB oU=(vn,0):=by decide +kernel
theorem MQ:tG vn=([],0):=by decide +kernel
theorem HO(a b c d:Int):(dK [.int .i64 0,.int .i64 0,.int .i64 0,.int .i64 0,.int .i64 0] [(0,.int .i64 a),(2,.int .i64 b),(3,.int .i64 c),(4,.int .i64 d)]).map I.agg=some (enc (⟨a,0,b,c,d⟩:dB)):=by simp[dK,I.bT,I.size];rfl
theorem HP(a b c d:Int):(dK [.int .i64 0,.int .i64 0,.int .i64 0,.int .i64 0,.int .i64 0] [(0,.int .i64 a),(1,.int .i64 b),(3,.int .i64 c),(4,.int .i64 d)]).map I.agg=some (enc (⟨a,b,0,c,d⟩:dB)):=by simp[dK,I.bT,I.size];rfl
theorem HU(r:dB):fA 5 (some [enc r])=some (enc [r]):=jf 5 r rfl
theorem HY(a b:bx):fA 3 (some [enc a,enc b])=some (enc [a,b]):=qb (ys:=[a,b]) 3 rfl
theorem MI(s:ff)(b:ByteArray)(h:s.b=b):cz .eql (enc s) (.bR b)=some (.bool true):=by
 subst h
 show cz .eql (.bR s.b) (.bR s.b)=_
 simp[cz]
theorem F3:bf Tryz.prog 18 [] (enc true):=by
 have J:=xU 0;have U:=xU 1;have ah:=xV vk 7;have ar:=uf vl;have h5:=xW vm 7 1;have h6:=uh nA 1;have h7:=Gi nA;have h8:=uf nA;have h9:=uh nB 1;have h10:=uk vp oT;have h11:=Gd [nB,qj] 7;have h12:=uf qj;have h13:=uh vq 0;have h14:=uk nB oU;have h15:=Gf vn;rw[MP] at J;rw[MZ] at U;rw[MR] at ah;rw[MS] at ar;rw[MT] at h5;rw[MU] at h6;rw[MV] at h7;rw[MW] at h8;rw[MX] at h9;rw[M0] at h10;rw[M4] at h11;rw[M2] at h12;rw[M3] at h13;rw[MY] at h14;rw[MQ] at h15;simp only at J U ah ar h5 h6 h7 h8 h9 h10 h11 h12 h13 h14 h15;have h16:=xT [oT] [oT];have h17:=xT [oU] [oU];have h18:=Ge [1] [1];rw[decide_eq_true rfl] at h16 h17 h18;refine bf.bZ Tryz.func18 Ig Jp KK (u8 rfl) (fun hwf W0 bF E1 =>?_);simp only[yR,DF,bJ];clear hwf;have q3:((0:Int)==0)=true:=rfl;have hst:∀ A n b rest x y z w (q:cZ),df A (some 4) n [] b (enc q) rest (some (.agg [.int .i64 x,.int .i64 y,.int .i64 z,.bool w]))=aB rest (A.aV n (.box (enc q))):=fun A n b rest x y z w q=>iv.1 A n b rest q x y z w;have hst2:∀ A n b rest (q:dB) x y z w u,df A (some 5) n [] b (enc q) rest (some (.agg [.int .i64 x,.int .i64 y,.int .i64 z,.int .i64 w,.int .i64 u]))=aB rest (A.aV n (.box (enc q))):=fun A n b rest q x y z w u=>nh.1 A n b rest q x y z w u;have eO:(⟨1,0,1,7,1⟩:dB)=oT:=rfl;have eR:(⟨2,1,0,7,1⟩:dB)=oU:=rfl;have hR:=AK ⟨1,1,7,false⟩ ⟨1,1,7,false⟩;rw[decide_eq_true rfl] at hR;have hS:cz .eql (enc vr) (.bR ⟨#[112,111,117,110,100,32,48,32,49,10,112,111,117,110,100,32,55,10,115,101,110,100,32,55,32,49,32,49,10]⟩)=some (.bool true):=MI vr _ rfl;have hL:∀ α:Type,((([]:List α).length:Nat):Int)=0:=fun _=>rfl;have R:=y6 @q3 (y6 @hL (y6 @hst (y6 @hst2 (y6 @HO (y6 @HP (y6 @eO (y6 @eR (y6 @oL (y6 @HU (y6 @HY (y6 @yC (y6 @hR (y6 @hS (y6 @ca (y6 @bl (y6 @bU (y6 @bw (y6 @bq aC))))))))))))))))))
 repeat' ((first |(with_reducible refine .guard (fun hb =>?_) (fun hb =>?_) <;>try simp only[hb])|refine ae.aE (by decide +kernel) rfl fun K hK =>?_|refine .lead _ (J) ?_|refine .lead _ (U) ?_|refine .lead _ (ah) ?_|refine .lead _ (ar) ?_|refine .lead _ (h5) ?_|refine .lead _ (h6) ?_|refine .lead _ (h7) ?_|refine .lead _ (h8) ?_|refine .lead _ (h9) ?_|refine .lead _ (h10) ?_|refine .lead _ (h11) ?_|refine .lead _ (h12) ?_|refine .lead _ (h13) ?_|refine .lead _ (h14) ?_|refine .lead _ (h15) ?_|refine .flat _ (h16) rfl ?_|refine .flat _ (h17) rfl ?_|refine .flat _ (h18) rfl ?_|(refine .av [0,1,2,3,4,5,6,7,8,9,10,11,12,13,14,15,16,17,18,19,20,21,22,23,24,25,26] hK ?_;clear hK K)|(with_reducible refine .done (hK _ ?_);clear hK K)|refine ae.of rfl ?_|(with_reducible refine aA.aD (fun h =>?_) (fun h =>?_) <;>try simp only[h])) <;>try simp only[aF,R,simprocAttr])
 all_goals clear R
structure rV where
 aK:Int
 to:Int
 no:Int
 deriving DecidableEq,Inhabited
instance:Enc rV where
 enc g:=.agg [.int .i64 g.aK,.int .i64 g.to,.int .i64 g.no]
 sz:=3
 aX:=.eH [.one,.one,.one]
 gG:=true
 done g:=by simp only[I.done,I.hd,Bool.and_self]
 size g:=by simp only[I.size,I.sizes]
 iq g:=by simp only[I.aX,I.cT]
 agg _:=rfl
theorem Z6:(∀ g:rV,(enc g).dI=some [.int .i64 g.aK,.int .i64 g.to,.int .i64 g.no])∧(∀ (a b c:Int) v,c9 [.int .i64 a,.int .i64 b,.int .i64 c] 0 0 v=some v)∧(∀ (a b c:Int) v,c9 [.int .i64 a,.int .i64 b,.int .i64 c] 1 1 v=some v)∧(∀ (a b c:Int) v,c9 [.int .i64 a,.int .i64 b,.int .i64 c] 2 2 v=some v) :=
 ⟨fun _=>rfl,fun _ _ _ _=>rfl,fun _ _ _ _=>rfl,fun _ _ _ _=>rfl⟩
theorem Gg(p:bx)(r:dB)(a:rV):bf Tryz.prog 5 [enc p,enc r,enc a] (enc true):=by
 refine bf.bZ Tryz.func5 IB JI K3 (u8 rfl) (fun hwf W0 bF E1 =>?_);simp only[sr,DY,bJ,zz1,Nat.reduceAdd];clear hwf;have hS:∀ q:bx,bf Tryz.prog 16 [enc q,enc q] (enc true):=fun q=>by
  have:=F2 q q
  rwa [decide_eq_true rfl] at this
 have hc:∀ a:Int,(a==a)=true:=fun a=>beq_self_eq_true a;have h6:=F3;have hq:∀ x:cZ,b7 (.aP [.i .i64,.i .i64,.i .i64,.b]) (enc x) (enc x)=some true:=fun x=>by rw[AK];simp
 have R:=y6 @hc (y6 @hq (y6 @iv (y6 @Z6 (y6 @ca (y6 @bl aC)))))
 repeat' ((first |(with_reducible refine .guard (fun hb =>?_) (fun hb =>?_) <;>try simp only[hb])|refine ae.aE (by decide +kernel) rfl fun K hK =>?_|refine .lead _ (xV p a.aK) ?_|refine .lead _ (F6 p a.aK) ?_|refine .lead _ (F7 p a.aK) ?_|refine .lead _ (F8 p a.aK) ?_|refine .lead _ (xW p a.aK a.to) ?_|refine .lead _ (F9 p a.aK a.to) ?_|refine .lead _ (Ga p a.no) ?_|refine .lead _ (Gb p a.no) ?_|refine .lead _ (uk p r) ?_|refine .lead _ (Gc p r) ?_|refine .flat _ (hS _) rfl ?_|refine .flat _ (h6) rfl ?_|(refine .av [0,1,2,3,4,5,6,7,8,9,10,11,12,13,14,15,16,17,18,19,20,21,22,23,24,25,26,27,28] hK ?_;clear hK K)|(with_reducible refine .done (hK _ ?_);clear hK K)|refine ae.of rfl ?_|(with_reducible refine aA.aD (fun h =>?_) (fun h =>?_) <;>try simp only[h])) <;>try simp only[aF,R,simprocAttr])
 all_goals clear R
end Go.Proofs.YthbdbocionnfgaaGreatDoor
namespace Go.Proofs.YthbdbocionnfgaaGreatDoor
open Go Go.Abs Go.ChangeShapes Go.WideShapes Go.RowKit
open Go.Abs.Enc (enc)
theorem XK:iw Tryz.prog 46 rV:=⟨by kernel_rfl,by decide,fun h=>by
 obtain ⟨a,b,c,hab⟩:=CS (α:=Int) (β:=Int) (γ:=Int) (u0:=3) (u1:=3) (u2:=3) (by kernel_rfl) jm jm jm (by kernel_rfl) h;exact ⟨⟨a,b,c⟩,hab⟩⟩
end Go.Proofs.YthbdbocionnfgaaGreatDoor
