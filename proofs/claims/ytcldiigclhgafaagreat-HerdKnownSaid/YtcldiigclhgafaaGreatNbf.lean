/-
  A part of the proof that the law HerdKnown returns true for every input; conditions: none beyond the statement's own. (part 6 of 7)
-/
import Derived.Test.YtcldiigclhgafaaGreatRows
import Derived.Test.YtcldiigclhgafaaGreatNbe
set_option linter.unusedSimpArgs false
set_option linter.unusedVariables false
set_option maxHeartbeats 16000000
set_option maxRecDepth 100000
namespace Go.Proofs.YtcldiigclhgafaaGreat
open Go Go.Abs
open Go.Abs.Enc (enc)
section
variable {α:Type} [Enc α] {P:Program} {hs:List FuncId} {Y:Value→List I→List (Nat×ah)→cN→Prop} {K:ab→Prop} {A:ab} {rest:List az} {d:Nat} {e esz bytes:Nat} {q:Nat}
theorem zY(z:I){l:List α}(hsz:Enc.sz α=esz)(hl:l≠[])(hf:A.o d=none)(hb:l.length*bytes≤140737488355328)(hml:l.length≤maxLen) :
  ∃ p:Nat→Prop,gl A (some d) e esz bytes z (enc l) rest (.c0 q)=.any p fun m=>ay rest ((A.aN d (.box (.agg (l.map enc++List.replicate m z)))).aP (some d) (.view d [] esz 0 l.length)):=by
 have hne:l.map (enc (α:=α))≠[]:=by simpa using hl
 have h1:eC A esz (.c0 q)=some []:=rfl
 refine ⟨fun m=>l.length+m≤maxLen,?_⟩
 simp only[gl,h1,qb A esz l hsz,fm,if_neg hne,gj,hf,List.length_nil,Nat.zero_add,List.length_map,if_pos (And.intro hb hml),List.nil_append]
theorem bj.sc(z:I){l:List α}(hsz:Enc.sz α=esz)(hl:l≠[])(hf:A.o d=none)(hb:l.length*bytes≤140737488355328)(hml:l.length≤maxLen)
  (h:∀ m,bj P Y false K (ay rest ((A.aN d (.box (.agg (l.map enc++List.replicate m z)))).aP (some d) (.view d [] esz 0 l.length)))):bj P Y false K (gl A (some d) e esz bytes z (enc l) rest (.c0 q)):=by
 obtain ⟨p,h1⟩:=zY (rest:=rest) (e:=e) (q:=q) z hsz hl hf hb hml
 rw[h1]
 exact .any rfl fun m _=>h m
theorem cd.nT(z:α){l:List α}(hsz:Enc.sz α=esz)(hl:l≠[])(hf:A.o d=none)(hb:l.length*bytes≤140737488355328)(hml:l.length≤maxLen)
  (h:∀ m,cd P hs K (ay rest ((A.aN d (.box (.agg ((l++List.replicate m z).map enc)))).aP (some d) (.view d [] esz 0 l.length)))):cd P hs K (gl A (some d) e esz bytes (enc z) (enc l) rest (.c0 q)):=by
 obtain ⟨p,h1⟩:=zY (rest:=rest) (e:=e) (q:=q) (enc z) hsz hl hf hb hml
 rw[h1]
 refine .any fun m _ =>?_
 have:=h m
 simp only[List.map_append,List.map_replicate] at this
 exact this
theorem cd.uX(z:α)(hsz:Enc.sz α=esz){n l:Nat}{xs ys:List α}(hy:ys≠[])(ho:A.o n=some (.box (.agg (xs.map enc))))(hl:l≤xs.length)(hr:xs.length<l+ys.length)(hf:A.o d=none)(hb:(l+ys.length)*bytes≤140737488355328)(hml:l+ys.length≤maxLen)
  (h:∀ q,cd P hs K (ay rest ((A.aN d (.box (.agg ((xs.take l++(ys++List.replicate q z)).map enc)))).aP (some d) (.view d [] esz 0 (l+ys.length))))):cd P hs K (gl A (some d) e esz bytes (enc z) (enc ys) rest (.view n [] esz 0 l)):=by
 have h1:=qc (A:=A) (esz:=esz) (lo:=0) (k:=l) ho (by omega)
 have h2:(I.agg (xs.map (enc (α:=α)))).at []=some (.agg (xs.map enc)):=rfl
 have h4:(xs.take l).length=l:=by rw[List.length_take];omega
 simp only[gl,h1,List.drop_zero,qb A esz ys hsz,fm]
 rw[if_neg (by simpa using hy)]
 simp only[ho,h2,List.length_map,Nat.zero_add]
 rw[if_neg (by omega)]
 simp only[gj,hf,List.length_map,h4]
 rw[if_pos ⟨hb,hml⟩]
 refine .any fun q _ =>?_
 have:=h q
 simp only[List.map_append,List.map_replicate] at this
 exact this
theorem XQ{A:ab}{m n k:Nat}{ys q:List α}(ho:A.o n=some (.box (.agg ((ys++q).map enc))))(hsz:Enc.sz α=esz)(hk:k=ys.length):dv A (m+1) (.view n [] esz 0 k)=some (enc ys):=by
 subst hk hsz
 have h1:cu A (.ptr n [])=some (.agg ((ys++q).map enc)):=by simp only[cu,ho];rfl
 simp only[dv,I.br,Bool.false_eq_true,if_false,h1]
 have h2:(((ys++q).map (enc (α:=α))).drop 0).take ys.length=ys.map enc:=by
  rw[List.drop_zero,List.map_append,List.take_append_of_le_length (by simp),List.take_of_length_le (by simp)]
 rw[h2,if_pos (jI ys),fW]
end
theorem oP{A:ab}{n:Nat}{w:I}{b:aA}{rest:List az} : dg A (some 9) n [] w (enc b) rest (some (.agg [.int .i64 0,.int .i64 0,.int .i64 0,.int .i64 0,.int .i64 0,.int .i64 0,.int .i64 0,.bool false,.nils 6]))=ay rest (A.aN n (.box (enc b))):=by
 refine (eD (s:=some 9) (dQ _) (by rw[fX];rfl) (eM b)).trans ?_
 rw[gP]
theorem rJ :
  (∀ (A:ab) n (b:aA) (v u:Int) rest,dg A none n [3] (enc b) (.int .i64 v) rest (some (.int .i64 u))=ay rest (A.aN n (.box (enc { b with b5:=v })))) ∧
  (∀ (A:ab) n (b:aA) (v u:Int) rest,dg A none n [6] (enc b) (.int .i64 v) rest (some (.int .i64 u))=ay rest (A.aN n (.box (enc { b with dm:=v })))) ∧
  (∀ (A:ab) n (b:aA) (v u:Bool) rest,dg A none n [7] (enc b) (.bool v) rest (some (.bool u))=ay rest (A.aN n (.box (enc { b with found:=v })))) :=
 ⟨fun _ _ _ v u _=>by rw[eD (s:=none) (v:=.int .i64 v) (old:=.int .i64 u) rfl rfl rfl];rfl,fun _ _ _ v u _=>by rw[eD (s:=none) (v:=.int .i64 v) (old:=.int .i64 u) rfl rfl rfl];rfl,
  fun _ _ _ v u _=>by rw[eD (s:=none) (v:=.bool v) (old:=.bool u) rfl rfl rfl];rfl⟩
theorem qI{α:Type}[Enc α]{xs:List α}{R:List I}{sz k:Nat}(hsz:Enc.sz α=sz)(hk:k=xs.length):j6 sz 0 k (some (xs.map enc++R))=some (enc xs):=by
 subst hk hsz
 have h:((xs.map (enc (α:=α))++R).drop 0).take xs.length=xs.map enc:=by
  rw[List.drop_zero,List.take_append_of_le_length (by simp),List.take_of_length_le (by simp)]
 simp only[j6,h]
 rw[if_pos (jI xs),fW]
theorem sg{α:Type}[Enc α]{xs:List α}{R:List I}{i:Nat}(hi:i<xs.length):jt i [] (some (xs.map enc++R))=some (enc xs[i]):=by
 simp[jt,nU,hi,List.getElem?_append_left,I.at]
theorem uu{A:ab}{n i:Nat}{xs:List aA}{R:List I}{v u:aA}{rest:List az}(hi:i<xs.length):dg A (some 9) n [i] (.agg (xs.map enc++R)) (enc v) rest (some (enc u))=ay rest (A.aN n (.box (.agg ((xs.set i v).map enc++R)))):=by
 rw[eD (s:=some 9) (dQ v) (by rw[fX];rfl) ((eM v).trans (eM u).symm)]
 have h2:(xs.map (enc (α:=aA))++R)[i]?=some (enc xs[i]):=by simp[hi,List.getElem?_append_left]
 simp only[I.dH,h2]
 rw[List.set_append_left _ _ (by simpa using hi),List.map_set]
theorem amq(p:Nat→Bool)(l:List (bI 6 Int)):(I.agg (l.map enc)).only p=true:=by simp only[I.only];exact dU p l
def nc(b:aA)(s:I):I:=.agg [.int .i64 b.no,.int .i64 b.ec,.int .i64 b.dI,.int .i64 b.b5,.int .i64 b.iz,.int .i64 b.born,.int .i64 b.dm,.bool b.found,s]
theorem yZ{A:ab}{n m p z lo k:_}{b:aA}{rest:List az} : dg A none n [8] (enc b) (.view m p z lo k) rest (some (enc b.aY))=ay rest (A.aN n (.box (nc b (.view m p z lo k)))):=by
 rw[eD (s:=none) (v:=.view m p z lo k) (old:=enc b.aY) rfl rfl (eM b.aY).symm];rfl
theorem XP{A:ab}{m N k:Nat}{b:aA}{xs q:List (bI 6 Int)}(ho:A.o N=some (.box (.agg ((xs++q).map enc))))(hk:k=xs.length):dv A (m+2) (nc b (.view N [] 6 0 k))=some (enc ({ b with aY:=xs } : aA)):=by
 have h1:=XQ (m:=m) (esz:=6) ho rfl hk
 have hi:∀ (k:IntKind) (v:Int),dv A (m+1) (.int k v)=some (.int k v):=fun _ _=>by simp[dv,I.br]
 have hb:∀ v:Bool,dv A (m+1) (.bool v)=some (.bool v):=fun _=>by simp[dv,I.br]
 rw[nc,dv]
 simp only[I.br,I.bU,Bool.and_false,Bool.and_true,Bool.false_eq_true,if_false,fH,hi,hb,h1,Option.map_some]
 rfl
theorem vZ{ts:List (Nat×I)}{os:List (Nat×ah)}{N k:Nat}{b:aA}{xs q:List (bI 6 Int)}{bs:List aA}{i:Nat}(h9:Abs.bH ts 9=.ptr 9 [])(ho9:ai os 9=some (.box (nc b (.view N [] 6 0 k))))(hoN:ai os N=some (.box (.agg ((xs++q).map enc))))(hk:k=xs.length)
  (h0:Abs.bH ts 0=enc bs) (h6:Abs.bH ts 6=.int .i64 i) (hN:N≠9) (ho:bt (fun n => ![9,N].contains n) (cw [9,N] os)):aC (aq ts os) (aq [(0,enc bs),(6,.int .i64 i),(9,.ref (enc ({ b with aY:=xs } : aA)))] []):=by
 have hk9:ai (fS [9,N] os) 9=some (.box (nc b (.view N [] 6 0 k))):=by rw[lN];simpa using ho9
 have hkN:ai (fS [9,N] os) N=some (.box (.agg ((xs++q).map enc))):=by rw[lN];simpa using hoN
 have hf:bd true (aq ts (fS [9,N] os)) (.ptr 9 [])=some (.ref (enc ({ b with aY:=xs } : aA))):=by
  have h1:=XP (A:=aq ts (fS [9,N] os)) (m:=7) (b:=b) hkN hk
  have hd:cu (aq ts (fS [9,N] os)) (.ptr 9 [])=some (nc b (.view N [] 6 0 k)):=by
   simp only[cu,aq,hk9];exact m7 _
  have hc:(nc b (.view N [] 6 0 k)).br=false:=by simp[nc,I.br,I.bU]
  simp only[bd,if_true,hd,hc,Bool.false_eq_true,if_false,h1,Option.map_some]
 refine (aC.gU [9,N] 9 h9 hf ho).trans (aC.bZ ?_ trivial ?_ trivial)
 ·have hfg:∀ t,Abs.bH (fG [9,N] ts) t=if (Abs.bH ts t).only (fun j => ![9,N].contains j)=true then Abs.bH ts t else .c7:=Dn _ ts
  simp[aX,aW,hfg,h0,h6,bB,I.only]
 ·simp[bM,bB,I.only]
theorem sf{bs:List aA}{x:al}(hd:(bs.map (·.no)).Nodup)(hk:¬ (x.kind=1∨x.kind=2)){i:Nat}(hi:i<bs.length)(hg:cB bs x.c4=some bs[i]){b:aA}(ht:fF bs[i] x=some b)(hno:b.no=(bs[i]).no):dW bs x=(bs.set i b,true):=by
 simp only[dW,di,if_neg hk,hg,ht,Option.map_some,My hd hi hno]
theorem Pr{bs:List aA}{x:al}(hk:¬ (x.kind=1∨x.kind=2))(hg:cB bs x.c4=none):dW bs x=(bs,false):=by
 simp only[dW,di,if_neg hk,hg]
theorem z8{bs:List aA}{x:al}(hk:¬ (x.kind=1∨x.kind=2)){b:aA}(hg:cB bs x.c4=some b)(ht:fF b x=none):dW bs x=(bs,false):=by
 simp only[dW,di,if_neg hk,hg,ht,Option.map_none]
theorem rU(bs:List aA)(x:al)(hk:3≤x.kind)(hg:cB bs x.c4=none):av Tryz.prog 132 [enc bs,enc x] (.tuple [enc (dW bs x).1,enc (dW bs x).2]):=by
 refine av.bn Tryz.func132 ph pk pq (Nat.le_of_ble_eq_true rfl) (fun hwf W0 D0 E1 =>?_)
 simp only[nY,oC,a6,Nat.zero_add]
 clear hwf
 have hk12:¬ (x.kind=1∨x.kind=2):=by omega
 have hk1:(x.kind==1)=false:=gL (by omega)
 have hk2:(x.kind==2)=false:=gL (by omega)
 have hF1:=m3 bs x.c4
 have hg2:decide ((-1:Int)<0)=true:=rfl
 rcases nt bs x.c4 with ⟨g1,e1⟩ | ⟨i,hi,g1,-,e1⟩
 ·rw[e1] at hF1
  rw[Pr hk12 g1]
  have R:=And.intro @hk1 (And.intro @hk2 (And.intro @hg2 (And.intro @aK (And.intro @bh (And.intro @cC @U)))))
  repeat' ((first
   |(with_reducible refine .guard (fun hb =>?_) (fun hb =>?_) <;>try simp only[hb])
   |refine J.aG (by decide +kernel) rfl fun K hK =>?_
   |refine .flat _ (hF1) rfl ?_
   |(refine .aw [0,1,3,4,5,6,7,8,9,10,22,24,28,62,81,88,89,105,110,121,127,131] hK ?_;clear hK K)
   |(with_reducible refine .done (hK _ ?_);clear hK K)
   |refine J.of rfl ?_
   |(with_reducible refine ak.aE (fun h =>?_) (fun h =>?_) <;>try simp only[h])) <;>try simp only[aH,R,Nat.reduceEqDiff,reduceIte,Nat.reduceBEq])
  all_goals clear R
 ·rw[g1] at hg;cases hg
theorem NC(bs:List aA)(x:al)(hn:bs.length≤99)(hd:(bs.map (·.no)).Nodup)(hk:x.kind=3):av Tryz.prog 132 [enc bs,enc x] (.tuple [enc (dW bs x).1,enc (dW bs x).2]):=by
 cases hg0:cB bs x.c4 with
 |none=>exact rU bs x (by omega) hg0
 |some b0 =>
 refine av.bn Tryz.func132 ph pk pq (Nat.le_of_ble_eq_true rfl) (fun hwf W0 D0 E1 =>?_)
 simp only[nY,oC,a6,Nat.zero_add]
 clear hwf
 have hk12:¬ (x.kind=1∨x.kind=2):=by omega
 have hk1:(x.kind==1)=false:=gL (by omega)
 have hk2:(x.kind==2)=false:=gL (by omega)
 have hF1:=m3 bs x.c4
 have hg2:decide ((-1:Int)<0)=true:=rfl
 have hk3:(x.kind==3)=true:=sG hk
 rcases nt bs x.c4 with ⟨g1,e1⟩ | ⟨i,hi,g1,gno,e1⟩
 ·rw[g1] at hg0;cases hg0
 rw[e1] at hF1
 have hg3:decide ((i:Int)<0)=false:=by simp
 have he:=fun A=>eA (A:=A) 9 hi rfl
 obtain ⟨b,hb0⟩:∃ b,b=bs[i]:=⟨_,rfl⟩
 have hne:bs≠[]:=fun e=>by rw[e] at hi;simp at hi
 rw[←hb0] at he g1 gno
 by_cases hv:fF b x=none
 ·rw[z8 hk12 g1 hv]
  have hv2:0≤b.dm∨b.b5=0∨b.b5=x.b5:=by
   simp only[fF,hk,if_true] at hv
   split at hv
   ·assumption
   ·cases hv
  rcases q1:decide (0≤b.dm) <;>rcases q2:(b.b5==0) <;>rcases q3:(b.b5==x.b5)
  ·simp at q1 q2 q3;omega
  all_goals
   have R:=And.intro @hk1 (And.intro @hk2 (And.intro @hk3 (And.intro @hg3 (And.intro @he (And.intro @q1 (And.intro @q2 (And.intro @q3 (And.intro @oP (And.intro @aK (And.intro @fI (And.intro @bh (And.intro @cG (And.intro @cC @U)))))))))))))
   repeat' ((first
    |(with_reducible refine .guard (fun hb =>?_) (fun hb =>?_) <;>try simp only[hb])
    |refine J.aG (by decide +kernel) rfl fun K hK =>?_
    |refine .flat _ (hF1) rfl ?_
    |(refine .aw [0,1,3,4,5,6,7,8,9,10,22,24,28,62,81,88,89,105,110,121,127,131] hK ?_;clear hK K)
    |(with_reducible refine .done (hK _ ?_);clear hK K)
    |refine J.of rfl ?_
    |(with_reducible refine ak.aE (fun h =>?_) (fun h =>?_) <;>try simp only[h])) <;>try simp only[aH,R,Nat.reduceEqDiff,reduceIte,Nat.reduceBEq])
   all_goals clear R
 ·have hv2:¬ (0≤b.dm∨b.b5=0∨b.b5=x.b5):=by
   simp only[fF,hk,if_true] at hv
   split at hv
   ·exact absurd rfl hv
   ·assumption
  have ht:fF b x=some { b with b5:=x.b5 } :=by
   simp only[fF,hk,if_true]
   rw[if_neg hv2]
  rw[sf hd hk12 hi (by rw[g1,hb0]) (b := { b with b5:=x.b5 }) (by rw[←hb0];exact ht) (by rw[←hb0])]
  have q1:decide (0≤b.dm)=false:=by simp;omega
  have q2:(b.b5==0)=false:=gL (by omega)
  have q3:(b.b5==x.b5)=false:=gL (by omega)
  have R:=And.intro @hk1 (And.intro @hk2 (And.intro @hk3 (And.intro @hg3 (And.intro @he (And.intro @q1 (And.intro @q2 (And.intro @q3 (And.intro @oP (And.intro @rJ (And.intro @aK (And.intro @fI (And.intro @bh (And.intro @cG (And.intro @cC @U))))))))))))))
  repeat' ((first
   |(with_reducible refine .guard (fun hb =>?_) (fun hb =>?_) <;>try simp only[hb])
   |refine J.aG (by decide +kernel) rfl fun K hK =>?_
   |refine .flat _ (hF1) rfl ?_
   |(refine .aw [0,1,3,4,5,6,7,8,9,10,22,24,28,62,81,88,89,105,110,121,127,131] hK ?_;clear hK K)
   |(with_reducible refine .done (hK _ ?_);clear hK K)
   |refine J.of rfl ?_
   |(with_reducible refine ak.aE (fun h =>?_) (fun h =>?_) <;>try simp only[h])) <;>try simp only[aH,R,Nat.reduceEqDiff,reduceIte,Nat.reduceBEq])
  all_goals clear R
  refine bj.sc _ rfl hne rfl (by omega) (by simp only[maxLen];omega) fun mm =>?_
  obtain ⟨R,hR⟩:∃ R,R=List.replicate mm (I.agg [.int .i64 0,.int .i64 0,.int .i64 0,.int .i64 0,.int .i64 0,.int .i64 0,.int .i64 0,.bool false,.nils 6]):=⟨_,rfl⟩
  rw[←hR]
  have hv:∀ fs,ja 138 [] 9 0 bs.length 9 (i:Int) (some fs)=some (.ptr 138 [i]):=fun fs=>by
   have:=nz (m:=138) (sz:=9) (lo:=0) (l:=bs.length) (i:=i) (fs:=fs) hi
   rwa [Nat.zero_add] at this
  have hat:=sg (R:=R) hi
  have hst:=fun (A:ab) v u rest=>uu (A:=A) (n:=138) (R:=R) (v:=v) (u:=u) (rest:=rest) hi
  have hfv:=fun v:aA=>qI (xs:=bs.set i v) (R:=R) (k:=bs.length) (sz:=9) rfl (by simp)
  try simp only[U,Nat.reduceEqDiff,reduceIte]
  have R:=And.intro @hv (And.intro @hat (And.intro @hst (And.intro @hfv (And.intro @cG (And.intro @aK (And.intro @bh (And.intro @cC @U)))))))
  repeat' ((first
   |(with_reducible refine .guard (fun hb =>?_) (fun hb =>?_) <;>try simp only[hb])
   |refine J.aG (by decide +kernel) rfl fun K hK =>?_
   |(refine .aw [0,1,3,4,5,6,7,8,9,10,22,24,28,62,81,88,89,105,110,121,127,131] hK ?_;clear hK K)
   |(with_reducible refine .done (hK _ ?_);clear hK K)
   |refine J.of rfl ?_
   |(with_reducible refine ak.aE (fun h =>?_) (fun h =>?_) <;>try simp only[h])) <;>try simp only[aH,R,Nat.reduceEqDiff,reduceIte,Nat.reduceBEq])
  all_goals clear R
theorem NF(bs:List aA)(x:al)(hn:bs.length≤99)(hd:(bs.map (·.no)).Nodup)(hk:x.kind=5):av Tryz.prog 132 [enc bs,enc x] (.tuple [enc (dW bs x).1,enc (dW bs x).2]):=by
 cases hg0:cB bs x.c4 with
 |none=>exact rU bs x (by omega) hg0
 |some b0 =>
 refine av.bn Tryz.func132 ph pk pq (Nat.le_of_ble_eq_true rfl) (fun hwf W0 D0 E1 =>?_)
 simp only[nY,oC,a6,Nat.zero_add]
 clear hwf
 have hk12:¬ (x.kind=1∨x.kind=2):=by omega
 have hk1:(x.kind==1)=false:=gL (by omega)
 have hk2:(x.kind==2)=false:=gL (by omega)
 have hF1:=m3 bs x.c4
 have hg2:decide ((-1:Int)<0)=true:=rfl
 have hk3:(x.kind==3)=false:=gL (by omega)
 have hk4:(x.kind==4)=false:=gL (by omega)
 have hk5:(x.kind==5)=true:=sG hk
 rcases nt bs x.c4 with ⟨g1,e1⟩ | ⟨i,hi,g1,gno,e1⟩
 ·rw[g1] at hg0;cases hg0
 rw[e1] at hF1
 have hg3:decide ((i:Int)<0)=false:=by simp
 have he:=fun A=>eA (A:=A) 9 hi rfl
 obtain ⟨b,hb0⟩:∃ b,b=bs[i]:=⟨_,rfl⟩
 have hne:bs≠[]:=fun e=>by rw[e] at hi;simp at hi
 rw[←hb0] at he g1 gno
 have ht:fF b x=some { b with b5:=x.b5,found:=true } :=by simp[fF,hk]
 rw[sf hd hk12 hi (by rw[g1,hb0]) (b := { b with b5:=x.b5,found:=true }) (by rw[←hb0];exact ht) (by rw[←hb0])]
 have R:=And.intro @hk1 (And.intro @hk2 (And.intro @hk3 (And.intro @hk4 (And.intro @hk5 (And.intro @hg3 (And.intro @he (And.intro @oP (And.intro @rJ (And.intro @aK (And.intro @fI (And.intro @bh (And.intro @cG (And.intro @cC @U)))))))))))))
 repeat' ((first
  |(with_reducible refine .guard (fun hb =>?_) (fun hb =>?_) <;>try simp only[hb])
  |refine J.aG (by decide +kernel) rfl fun K hK =>?_
  |refine .flat _ (hF1) rfl ?_
  |(refine .aw [0,1,3,4,5,6,7,8,9,10,22,24,28,62,81,88,89,105,110,121,127,131] hK ?_;clear hK K)
  |(with_reducible refine .done (hK _ ?_);clear hK K)
  |refine J.of rfl ?_
  |(with_reducible refine ak.aE (fun h =>?_) (fun h =>?_) <;>try simp only[h])) <;>try simp only[aH,R,Nat.reduceEqDiff,reduceIte,Nat.reduceBEq])
 all_goals clear R
 refine bj.sc _ rfl hne rfl (by omega) (by simp only[maxLen];omega) fun mm =>?_
 obtain ⟨R,hR⟩:∃ R,R=List.replicate mm (I.agg [.int .i64 0,.int .i64 0,.int .i64 0,.int .i64 0,.int .i64 0,.int .i64 0,.int .i64 0,.bool false,.nils 6]):=⟨_,rfl⟩
 rw[←hR]
 have hv:∀ fs,ja 138 [] 9 0 bs.length 9 (i:Int) (some fs)=some (.ptr 138 [i]):=fun fs=>by
  have:=nz (m:=138) (sz:=9) (lo:=0) (l:=bs.length) (i:=i) (fs:=fs) hi
  rwa [Nat.zero_add] at this
 have hat:=sg (R:=R) hi
 have hst:=fun (A:ab) v u rest=>uu (A:=A) (n:=138) (R:=R) (v:=v) (u:=u) (rest:=rest) hi
 have hfv:=fun v:aA=>qI (xs:=bs.set i v) (R:=R) (k:=bs.length) (sz:=9) rfl (by simp)
 try simp only[U,Nat.reduceEqDiff,reduceIte]
 have R:=And.intro @hv (And.intro @hat (And.intro @hst (And.intro @hfv (And.intro @cG (And.intro @aK (And.intro @bh (And.intro @cC @U)))))))
 repeat' ((first
  |(with_reducible refine .guard (fun hb =>?_) (fun hb =>?_) <;>try simp only[hb])
  |refine J.aG (by decide +kernel) rfl fun K hK =>?_
  |(refine .aw [0,1,3,4,5,6,7,8,9,10,22,24,28,62,81,88,89,105,110,121,127,131] hK ?_;clear hK K)
  |(with_reducible refine .done (hK _ ?_);clear hK K)
  |refine J.of rfl ?_
  |(with_reducible refine ak.aE (fun h =>?_) (fun h =>?_) <;>try simp only[h])) <;>try simp only[aH,R,Nat.reduceEqDiff,reduceIte,Nat.reduceBEq])
 all_goals clear R
theorem NG(bs:List aA)(x:al)(hn:bs.length≤99)(hd:(bs.map (·.no)).Nodup)(hk:x.kind=6):av Tryz.prog 132 [enc bs,enc x] (.tuple [enc (dW bs x).1,enc (dW bs x).2]):=by
 cases hg0:cB bs x.c4 with
 |none=>exact rU bs x (by omega) hg0
 |some b0 =>
 refine av.bn Tryz.func132 ph pk pq (Nat.le_of_ble_eq_true rfl) (fun hwf W0 D0 E1 =>?_)
 simp only[nY,oC,a6,Nat.zero_add]
 clear hwf
 have hk12:¬ (x.kind=1∨x.kind=2):=by omega
 have hk1:(x.kind==1)=false:=gL (by omega)
 have hk2:(x.kind==2)=false:=gL (by omega)
 have hF1:=m3 bs x.c4
 have hg2:decide ((-1:Int)<0)=true:=rfl
 have hk3:(x.kind==3)=false:=gL (by omega)
 have hk4:(x.kind==4)=false:=gL (by omega)
 have hk5:(x.kind==5)=false:=gL (by omega)
 have hk6:(x.kind==6)=true:=sG hk
 rcases nt bs x.c4 with ⟨g1,e1⟩ | ⟨i,hi,g1,gno,e1⟩
 ·rw[g1] at hg0;cases hg0
 rw[e1] at hF1
 have hg3:decide ((i:Int)<0)=false:=by simp
 have he:=fun A=>eA (A:=A) 9 hi rfl
 obtain ⟨b,hb0⟩:∃ b,b=bs[i]:=⟨_,rfl⟩
 have hne:bs≠[]:=fun e=>by rw[e] at hi;simp at hi
 rw[←hb0] at he g1 gno
 by_cases q:0≤b.dm
 ·have q1:decide (0≤b.dm)=true:=by simp[q]
  rw[z8 hk12 g1 (by simp[fF,hk,q])]
  have R:=And.intro @hk1 (And.intro @hk2 (And.intro @hk3 (And.intro @hk4 (And.intro @hk5 (And.intro @hk6 (And.intro @hg3 (And.intro @he (And.intro @q1 (And.intro @oP (And.intro @rJ (And.intro @aK (And.intro @fI (And.intro @bh (And.intro @cG (And.intro @cC @U)))))))))))))))
  repeat' ((first
   |(with_reducible refine .guard (fun hb =>?_) (fun hb =>?_) <;>try simp only[hb])
   |refine J.aG (by decide +kernel) rfl fun K hK =>?_
   |refine .flat _ (hF1) rfl ?_
   |(refine .aw [0,1,3,4,5,6,7,8,9,10,22,24,28,62,81,88,89,105,110,121,127,131] hK ?_;clear hK K)
   |(with_reducible refine .done (hK _ ?_);clear hK K)
   |refine J.of rfl ?_
   |(with_reducible refine ak.aE (fun h =>?_) (fun h =>?_) <;>try simp only[h])) <;>try simp only[aH,R,Nat.reduceEqDiff,reduceIte,Nat.reduceBEq])
  all_goals clear R
 ·have q1:decide (0≤b.dm)=false:=by simp[q]
  have ht:fF b x=some { b with dm:=x.day } :=by simp[fF,hk,q]
  rw[sf hd hk12 hi (by rw[g1,hb0]) (b := { b with dm:=x.day }) (by rw[←hb0];exact ht) (by rw[←hb0])]
  have R:=And.intro @hk1 (And.intro @hk2 (And.intro @hk3 (And.intro @hk4 (And.intro @hk5 (And.intro @hk6 (And.intro @hg3 (And.intro @he (And.intro @q1 (And.intro @oP (And.intro @rJ (And.intro @aK (And.intro @fI (And.intro @bh (And.intro @cG (And.intro @cC @U)))))))))))))))
  repeat' ((first
   |(with_reducible refine .guard (fun hb =>?_) (fun hb =>?_) <;>try simp only[hb])
   |refine J.aG (by decide +kernel) rfl fun K hK =>?_
   |refine .flat _ (hF1) rfl ?_
   |(refine .aw [0,1,3,4,5,6,7,8,9,10,22,24,28,62,81,88,89,105,110,121,127,131] hK ?_;clear hK K)
   |(with_reducible refine .done (hK _ ?_);clear hK K)
   |refine J.of rfl ?_
   |(with_reducible refine ak.aE (fun h =>?_) (fun h =>?_) <;>try simp only[h])) <;>try simp only[aH,R,Nat.reduceEqDiff,reduceIte,Nat.reduceBEq])
  all_goals clear R
  refine bj.sc _ rfl hne rfl (by omega) (by simp only[maxLen];omega) fun mm =>?_
  obtain ⟨R,hR⟩:∃ R,R=List.replicate mm (I.agg [.int .i64 0,.int .i64 0,.int .i64 0,.int .i64 0,.int .i64 0,.int .i64 0,.int .i64 0,.bool false,.nils 6]):=⟨_,rfl⟩
  rw[←hR]
  have hv:∀ fs,ja 138 [] 9 0 bs.length 9 (i:Int) (some fs)=some (.ptr 138 [i]):=fun fs=>by
   have:=nz (m:=138) (sz:=9) (lo:=0) (l:=bs.length) (i:=i) (fs:=fs) hi
   rwa [Nat.zero_add] at this
  have hat:=sg (R:=R) hi
  have hst:=fun (A:ab) v u rest=>uu (A:=A) (n:=138) (R:=R) (v:=v) (u:=u) (rest:=rest) hi
  have hfv:=fun v:aA=>qI (xs:=bs.set i v) (R:=R) (k:=bs.length) (sz:=9) rfl (by simp)
  try simp only[U,Nat.reduceEqDiff,reduceIte]
  have R:=And.intro @hv (And.intro @hat (And.intro @hst (And.intro @hfv (And.intro @cG (And.intro @aK (And.intro @bh (And.intro @cC @U)))))))
  repeat' ((first
   |(with_reducible refine .guard (fun hb =>?_) (fun hb =>?_) <;>try simp only[hb])
   |refine J.aG (by decide +kernel) rfl fun K hK =>?_
   |(refine .aw [0,1,3,4,5,6,7,8,9,10,22,24,28,62,81,88,89,105,110,121,127,131] hK ?_;clear hK K)
   |(with_reducible refine .done (hK _ ?_);clear hK K)
   |refine J.of rfl ?_
   |(with_reducible refine ak.aE (fun h =>?_) (fun h =>?_) <;>try simp only[h])) <;>try simp only[aH,R,Nat.reduceEqDiff,reduceIte,Nat.reduceBEq])
  all_goals clear R
theorem ND(bs:List aA)(x:al)(hn:bs.length≤99)(hd:(bs.map (·.no)).Nodup)(hk:x.kind=4)(hsn:∀ b∈bs,b.aY.length≤1000):av Tryz.prog 132 [enc bs,enc x] (.tuple [enc (dW bs x).1,enc (dW bs x).2]):=by
 cases hg0:cB bs x.c4 with
 |none=>exact rU bs x (by omega) hg0
 |some b0 =>
 refine av.bn Tryz.func132 ph pk pq (Nat.le_of_ble_eq_true rfl) (fun hwf W0 D0 E1 =>?_)
 simp only[nY,oC,a6,Nat.zero_add]
 clear hwf
 have hk12:¬ (x.kind=1∨x.kind=2):=by omega
 have hk1:(x.kind==1)=false:=gL (by omega)
 have hk2:(x.kind==2)=false:=gL (by omega)
 have hF1:=m3 bs x.c4
 have hg2:decide ((-1:Int)<0)=true:=rfl
 have hk3:(x.kind==3)=false:=gL (by omega)
 have hk4:(x.kind==4)=true:=sG hk
 rcases nt bs x.c4 with ⟨g1,e1⟩ | ⟨i,hi,g1,gno,e1⟩
 ·rw[g1] at hg0;cases hg0
 rw[e1] at hF1
 have hg3:decide ((i:Int)<0)=false:=by simp
 have he:=fun A=>eA (A:=A) 9 hi rfl
 obtain ⟨b,hb0⟩:∃ b,b=bs[i]:=⟨_,rfl⟩
 have hne:bs≠[]:=fun e=>by rw[e] at hi;simp at hi
 rw[←hb0] at he g1 gno
 have ht:fF b x=some { b with aY:=b.aY++[x.aY] } :=by simp[fF,hk]
 rw[sf hd hk12 hi (by rw[g1,hb0]) (b := { b with aY:=b.aY++[x.aY] }) (by rw[←hb0];exact ht) (by rw[←hb0])]
 have hbl:b.aY.length≤1000:=hsn b (hb0▸List.getElem_mem hi)
 have R:=And.intro @hk1 (And.intro @hk2 (And.intro @hk3 (And.intro @hk4 (And.intro @hg3 (And.intro @he (And.intro @oP (And.intro @rJ (And.intro @aK (And.intro @fI (And.intro @bh (And.intro @cG (And.intro @cC @U))))))))))))
 repeat' ((first
  |(with_reducible refine .guard (fun hb =>?_) (fun hb =>?_) <;>try simp only[hb])
  |refine J.aG (by decide +kernel) rfl fun K hK =>?_
  |refine .flat _ (hF1) rfl ?_
  |(refine .aw [0,1,3,4,5,6,7,8,9,10,22,24,28,62,81,88,89,105,110,121,127,131] hK ?_;clear hK K)
  |(with_reducible refine .done (hK _ ?_);clear hK K)
  |refine J.of rfl ?_
  |(with_reducible refine ak.aE (fun h =>?_) (fun h =>?_) <;>try simp only[h])) <;>try simp only[aH,R,Nat.reduceEqDiff,reduceIte,Nat.reduceBEq])
 all_goals clear R
 refine J.nO (aq [(0,enc bs),(6,.int .i64 i),(9,.ref (enc ({ b with aY:=b.aY++[x.aY] } : aA)))] []) ?_ (fun B hsub =>?_)
 ·refine J.rA (gs:=wu) [] [(112,[])] [0,1,2,4,5,6,3,7,8,9] (by decide +kernel) (ew.of (by simp[nx,aW,tm,I.only])) fun K hK =>?_
  have hbs6:=nX 6 x.aY rfl
  try simp only[lT,wu,List.getD_cons_zero,List.getD_cons_succ,hbs6,aK,fI,cG,cC,U,Nat.reduceEqDiff,reduceIte]
  by_cases hs0:b.aY=[]
  ·rw[hs0]
   rw[zZ (α:=bI 6 Int) (esz:=6) _ rfl]
   try simp only[U,Nat.reduceEqDiff,reduceIte]
   refine cd.nT iu (l:=[x.aY]) rfl (by simp) rfl (by simp) (by simp[maxLen]) fun m =>?_
   try simp only[yZ,aK,fI,U,Nat.reduceEqDiff,reduceIte]
   refine .done (hK _ ?_);clear hK K
   exact vZ (N:=119) (xs:=b.aY++[x.aY]) (q:=List.replicate m iu) rfl rfl (by rw[hs0];rfl) (by simp[hs0]) rfl rfl (by decide) (by simp[bt,cw,ah.only,bB])
  ·refine cd.nT iu (l:=b.aY) rfl hs0 rfl (by omega) (by simp only[maxLen];omega) fun m =>?_
   try simp only[U,Nat.reduceEqDiff,reduceIte]
   cases m with
   |zero =>
    refine cd.uX iu (xs:=b.aY++List.replicate 0 iu) (ys:=[x.aY]) rfl (by simp) rfl (by simp) (by simp) rfl (by simp;omega) (by simp[maxLen];omega) fun q =>?_
    have e1:(b.aY++List.replicate 0 iu).take b.aY.length++([x.aY]++List.replicate q iu)=(b.aY++[x.aY])++List.replicate q iu:=by simp
    rw[e1]
    try simp only[yZ,aK,fI,U,Nat.reduceEqDiff,reduceIte]
    refine .done (hK _ ?_);clear hK K
    exact vZ (N:=119) (xs:=b.aY++[x.aY]) (q:=List.replicate q iu) rfl rfl rfl (by simp) rfl rfl (by decide) (by simp only[cw,List.filter_cons,List.filter_nil];simp[bt,ah.only,I.only,bB,dU])
   |succ m =>
    have e1:(b.aY++List.replicate (m+1) iu).take b.aY.length++([x.aY]++(b.aY++List.replicate (m+1) iu).drop (b.aY.length+[x.aY].length))=(b.aY++[x.aY])++List.replicate m iu:=by
     simp[List.drop_append]
    rw[uY (esz:=6) (xs:=b.aY++List.replicate (m+1) iu) (ys:=[x.aY]) _ rfl (by simp) rfl (by simp)]
    rw[e1]
    try simp only[yZ,aK,fI,U,Nat.reduceEqDiff,reduceIte]
    refine .done (hK _ ?_);clear hK K
    exact vZ (N:=115) (xs:=b.aY++[x.aY]) (q:=List.replicate m iu) rfl rfl rfl (by simp) rfl rfl (by decide) (by simp only[cw,List.filter_cons,List.filter_nil];simp[bt,ah.only,bB])
 ·simp only[aF,b8]
  refine J.sub hsub ?_
  have R:=And.intro @aK (And.intro @fI (And.intro @bh (And.intro @cG (And.intro @cC @U))))
  repeat' ((first
   |(with_reducible refine .guard (fun hb =>?_) (fun hb =>?_) <;>try simp only[hb])
   |refine J.aG (by decide +kernel) rfl fun K hK =>?_
   |(refine .aw [0,1,3,4,5,6,7,8,9,10,22,24,28,62,81,88,89,105,110,121,127,131] hK ?_;clear hK K)
   |(with_reducible refine .done (hK _ ?_);clear hK K)
   |refine J.of rfl ?_
   |(with_reducible refine ak.aE (fun h =>?_) (fun h =>?_) <;>try simp only[h])) <;>try simp only[aH,R,Nat.reduceEqDiff,reduceIte])
  all_goals clear R
  refine bj.sc _ rfl hne rfl (by omega) (by simp only[maxLen];omega) fun mm =>?_
  obtain ⟨R,hR⟩:∃ R,R=List.replicate mm (I.agg [.int .i64 0,.int .i64 0,.int .i64 0,.int .i64 0,.int .i64 0,.int .i64 0,.int .i64 0,.bool false,.nils 6]):=⟨_,rfl⟩
  rw[←hR]
  have hv:∀ fs,ja 138 [] 9 0 bs.length 9 (i:Int) (some fs)=some (.ptr 138 [i]):=fun fs=>by
   have:=nz (m:=138) (sz:=9) (lo:=0) (l:=bs.length) (i:=i) (fs:=fs) hi
   rwa [Nat.zero_add] at this
  have hat:=sg (R:=R) hi
  have hst:=fun (A:ab) v u rest=>uu (A:=A) (n:=138) (R:=R) (v:=v) (u:=u) (rest:=rest) hi
  have hfv:=fun v:aA=>qI (xs:=bs.set i v) (R:=R) (k:=bs.length) (sz:=9) rfl (by simp)
  try simp only[U,Nat.reduceEqDiff,reduceIte]
  have R:=And.intro @hv (And.intro @hat (And.intro @hst (And.intro @hfv (And.intro @cG (And.intro @aK (And.intro @bh (And.intro @cC @U)))))))
  repeat' ((first
   |(with_reducible refine .guard (fun hb =>?_) (fun hb =>?_) <;>try simp only[hb])
   |refine J.aG (by decide +kernel) rfl fun K hK =>?_
   |(refine .aw [0,1,3,4,5,6,7,8,9,10,22,24,28,62,81,88,89,105,110,121,127,131] hK ?_;clear hK K)
   |(with_reducible refine .done (hK _ ?_);clear hK K)
   |refine J.of rfl ?_
   |(with_reducible refine ak.aE (fun h =>?_) (fun h =>?_) <;>try simp only[h])) <;>try simp only[aH,R,Nat.reduceEqDiff,reduceIte,Nat.reduceBEq])
  all_goals clear R
theorem NA(bs:List aA)(x:al)(hn:bs.length≤99)(hd:(bs.map (·.no)).Nodup)(hsn:∀ b∈bs,b.aY.length≤1000)(hok:hE x=true)(hk:x.kind≠0):av Tryz.prog 132 [enc bs,enc x] (.tuple [enc (dW bs x).1,enc (dW bs x).2]):=by
 obtain ⟨h1,h2,h3⟩:=Jb hok
 have hdam:0≤x.dI:=by
  simp only[hE,Bool.and_eq_true,decide_eq_true_eq] at hok
  obtain ⟨q1,q2,_⟩:=hok
  by_cases e:x.kind=1
  ·simp only[j7,e,ca] at q1
   simp at q1
   omega
  ·have:x.dI=(mf x).dI:=by rw[←q2]
   rw[this];simp[mf,e]
 by_cases e12:x.kind=1∨x.kind=2
 ·exact NB bs x hn e12 hdam
 by_cases e3:x.kind=3
 ·exact NC bs x hn hd e3
 by_cases e4:x.kind=4
 ·exact ND bs x hn hd e4 hsn
 by_cases e5:x.kind=5
 ·exact NF bs x hn hd e5
 ·exact NG bs x hn hd (by omega)
def l8(known:Int)(m:List al)(a:Item)(j:Nat):Bool:=(eP known m).1.getD j false&&(decide ((ae m j).kind=0)&&decide ((ae m j).gZ=a))
theorem II(known:Int)(a:Item):∀ m:List al,(eP known m).2.contains a=(List.range m.length).any (l8 known m a)
 | []=>rfl
 |x::m=>by
  have ih:=II known a m
  have e:∀ j,l8 known (x::m) a (j+1)=l8 known m a j:=fun j=>by simp[l8,eP,ae]
  have e0:l8 known (x::m) a 0=((decide (x.known≤known) && !(eP known m).2.contains x.cW)&&(decide (x.kind=0)&&decide (x.gZ=a))):=by simp[l8,eP,ae]
  rw[List.length_cons,List.range_succ_eq_map,List.any_cons,List.any_map]
  have e2:(l8 known (x::m) a∘Nat.succ)=l8 known m a:=funext e
  rw[e2,←ih,e0]
  simp only[eP]
  generalize (decide (x.known≤known) && !(eP known m).2.contains x.cW)=b
  cases b <;>by_cases hk:x.kind=0
  ·simp
  ·simp
  ·simp only[hk,decide_true,Bool.and_true,if_true,List.contains_cons,Bool.true_and]
   congr 1
   by_cases h:x.gZ=a
   ·simp[h]
   ·have h2:¬ a=x.gZ:=fun e=>h e.symm
    simp[h,h2]
  ·simp[hk]
def m9(known:Int)(l:List al)(n t:Nat):Bool:=decide ((ae l (n-1)).known≤known) && !(List.range t).any (l8 known (l.drop n) (ae l (n-1)).cW)
def jk(known:Int)(l:List al)(n:Nat)(b:Bool):List Bool:=List.replicate (n-1) false++b::(eP known (l.drop n)).1
theorem yG{known:Int}{l:List al}{n:Nat}{b:Bool}(h:n≤l.length)(h0:0<n):(jk known l n b).length=l.length:=by
 simp only[jk,List.length_append,List.length_replicate,List.length_cons,rK,List.length_drop];omega
theorem ak8{known:Int}{l:List al}{n:Nat}{b v:Bool} : (jk known l n b).set (n-1) v=jk known l n v:=by
 simp only[jk]
 rw[List.set_append_right _ _ (by simp)]
 simp
theorem ak7{known:Int}{l:List al}{n t:Nat}{b:Bool}(h0:0<n):(jk known l n b).getD (n+t) false=(eP known (l.drop n)).1.getD t false:=by
 simp only[jk,List.getD_eq_getElem?_getD]
 rw[List.getElem?_append_right (by simp;omega)]
 simp only[List.length_replicate]
 rw[show n+t-(n-1)=t+1 by omega,List.getElem?_cons_succ]
theorem alK{known:Int}{l:List al}{n:Nat}(h:n≤l.length)(h0:0<n):jk known l n (m9 known l n (l.length-n))=List.replicate (n-1) false++(eP known (l.drop (n-1))).1:=by
 have hil:n-1<l.length:=by omega
 have hd:l.drop (n-1)=ae l (n-1)::l.drop n:=by
  rw[List.drop_eq_getElem_cons hil,kI hil,show n-1+1=n by omega]
 rw[hd]
 simp only[jk,eP,m9,II,List.length_drop]
theorem XA(l:List al)(n t:Nat):ae (l.drop n) t=ae l (n+t):=by simp[ae,List.getD_eq_getElem?_getD]
theorem PU(known:Int)(l:List al)(n t:Nat):m9 known l n (t+1)=(m9 known l n t && !((eP known (l.drop n)).1.getD t false&&(decide ((ae l (n+t)).kind=0)&&decide ((ae l (n+t)).gZ=(ae l (n-1)).cW)))):=by
 simp only[m9,List.range_succ,List.any_append,List.any_cons,List.any_nil,Bool.or_false,l8,XA,Bool.not_or,Bool.and_assoc]
theorem I7{m l:Nat}{fs:List I}{i:Nat}(h:i<l):ja m [] 1 0 l 1 (i:Int) (some fs)=some (.ptr m [i]):=by
 have:=nz (m:=m) (sz:=1) (lo:=0) (l:=l) (i:=i) (fs:=fs) h
 rwa [Nat.zero_add] at this
theorem zk(l:List al)(known:Int)(hl:l.length≤60):av Tryz.prog 106 [enc l,enc known] (enc (ep l known)):=by
 refine av.bn Tryz.func106 P9 R3 Ug (Nat.le_of_ble_eq_true rfl) (fun hwf W0 D0 E1 =>?_)
 simp only[Ar,Kf,a6,Nat.zero_add]
 clear hwf
 refine .au (by decide +kernel) fun K hK =>?_
 simp only[D9,U]
 refine .done (hK _ ?_);clear hK K
 refine .au (by decide +kernel) fun K hK =>?_
 simp only[Ea,U,Nat.reduceEqDiff,reduceIte]
 try simp only[eB,bh,U,Nat.reduceEqDiff,reduceIte]
 rw[Jx (by omega) (by simp[maxLen];omega)]
 try simp only[U,Nat.reduceEqDiff,reduceIte]
 refine .done (hK _ ?_);clear hK K
 have hw0:IntKind.i64.wrap ((l.length:Int)-1)=(l.length:Int)-1:=dz _ (by omega) (by omega)
 refine J.seq (J.seq ?_)
 refine .bV (by decide +kernel) fun K hK =>?_
 simp only[Eb,U,Nat.reduceEqDiff,reduceIte]
 try simp only[bh,hw0,U,Nat.reduceEqDiff,reduceIte]
 refine .done (hK _ ?_);clear hK K;try simp only[aF]
 refine J.block (J.loop (fun n:Nat=>aq [(0,enc l),(1,.int .i64 known),(5,.view 10 [] 1 0 l.length),(6,.int .i64 ((n:Int)-1))] [(10,.box (.agg ((List.replicate n false++(eP known (l.drop n)).1).map enc)))]) (fun n=>n≤l.length) (fun n=>n) l.length (Nat.le_refl _) ?_ (fun n hn =>?_))
 ·simp only[List.drop_length,eP,List.append_nil,List.map_replicate]
  refine aC.bZ ?_ ?_ ?_ ?_ <;>simp[aX,bO,bM,bt,ao,aW,ai,I.only,bB,ah.only,tN,vF]
 by_cases h0:n=0
 ·subst h0
  have hc:decide ((0:Int)≤((0:Nat):Int)-1)=false:=by decide
  have hf:∀ R:List Bool,R.length=l.length→j6 1 0 l.length (some (R.map enc))=some (enc R):=fun R hR=>by
   have:=qI (xs:=R) (R:=[]) (sz:=1) (k:=l.length) rfl hR.symm
   rwa [List.append_nil] at this
  have hf2:=hf (eP known l).1 (rK known l)
  simp only[List.replicate_zero,List.nil_append,List.drop_zero]
  have R:=And.intro @hc (And.intro @hf2 (And.intro @cG (And.intro @bh (And.intro @aK @U))))
  repeat' ((first
   |(with_reducible refine .guard (fun hb =>?_) (fun hb =>?_) <;>try simp only[hb])
   |refine J.aG (by decide +kernel) rfl fun K hK =>?_
   |(refine .aw [0,1,4,5,6,7,15,33,60] hK ?_;clear hK K)
   |(with_reducible refine .done (hK _ ?_);clear hK K)
   |refine J.of rfl ?_
   |(with_reducible refine ak.aE (fun h =>?_) (fun h =>?_) <;>try simp only[h])) <;>try simp only[aH,R,Nat.reduceEqDiff,reduceIte,Nat.reduceBEq])
  all_goals clear R
  rfl
 obtain ⟨i,hi⟩:∃ i,i=n-1:=⟨_,rfl⟩
 have hni:(n:Int)-1=(i:Int):=by omega
 have hil:i<l.length:=by omega
 have hc:decide ((0:Int)≤(i:Int))=true:=by simp
 have he:=fun A=>gJ (A:=A) hil
 have hv:=fun fs=>I7 (m:=10) (fs:=fs) hil
 have hRn:List.replicate n false++(eP known (l.drop n)).1=jk known l n false:=by
  simp only[jk]
  rw[show n=(n-1)+1 by omega,List.replicate_succ']
  simp
 have hset:=fun b (A:ab) v u rest=>MT (A:=A) (n:=10) (i:=i) (xs:=jk known l n b) (by rw[yG hn (by omega)];exact hil) v u rest
 have hat:=fun b=>sh (xs:=jk known l n b) (i:=i) (by rw[yG hn (by omega)];exact hil)
 have hs2:=fun b v=>ak8 (known:=known) (l:=l) (n:=n) (b:=b) (v:=v)
 rw[←hi] at hs2
 have hw1:=eH (i:=i) (by omega)
 have hi1:i+1=n:=by omega
 rw[hi1] at hw1
 simp only[hRn,hni]
 have R:=And.intro @hc (And.intro @he (And.intro @hv (And.intro @hset (And.intro @hat (And.intro @hs2 (And.intro @hw1 (And.intro @cG (And.intro @bh (And.intro @aK (And.intro @nE @U))))))))))
 repeat' ((first
  |(with_reducible refine .guard (fun hb =>?_) (fun hb =>?_) <;>try simp only[hb])
  |refine J.aG (by decide +kernel) rfl fun K hK =>?_
  |(refine .aw [0,1,4,5,6,7,15,33,60] hK ?_;clear hK K)
  |(with_reducible refine .done (hK _ ?_);clear hK K)
  |refine J.of rfl ?_
  |(with_reducible refine ak.aE (fun h =>?_) (fun h =>?_) <;>try simp only[h])) <;>try simp only[aH,R,decide_true,Nat.reduceEqDiff,reduceIte,Nat.reduceBEq])
 all_goals clear R
 refine J.loop (fun t:Nat=>aq [(0,enc l),(1,.int .i64 known),(5,.view 10 [] 1 0 l.length),(6,.int .i64 i),(7,.int .i64 ((n+t:Nat):Int))] [(10,.box (.agg ((jk known l n (m9 known l n t)).map enc)))]) (fun t=>n+t≤l.length) (fun t=>l.length-n-t) 0 hn ?_ (fun t ht =>?_)
 ·have hb0:m9 known l n 0=decide ((ae l i).known≤known):=by simp[m9,hi]
  rw[hb0]
  refine aC.cD ?_ (fun m =>?_)
  ·simp[aX,aW]
  ·simp only[ai];split <;>rfl
 by_cases hlt:n+t<l.length
 ·have hc2:=fy hlt
  have he2:=fun A=>gJ (A:=A) hlt
  have hv2:=fun fs=>I7 (m:=10) (fs:=fs) hlt
  have hat2:=fun b=>sh (xs:=jk known l n b) (i:=n+t) (by rw[yG hn (by omega)];exact hlt)
  have hget:=fun b=>ak7 (known:=known) (l:=l) (n:=n) (t:=t) (b:=b) (by omega)
  have hw2:=eH (i:=n+t) (by omega)
  have hbs:=PU known l n t
  rw[←hi] at hbs
  rcases q1:(eP known (l.drop n)).1.getD t false <;>rcases q2:(ae l (n+t)).kind==0 <;>rcases q3:decide ((ae l (n+t)).gZ=(ae l i).cW)
  all_goals
   have q2':=q2
   rw[show ((ae l (n+t)).kind==0)=decide ((ae l (n+t)).kind=0) from rfl] at q2'
   simp only[q1,q2',q3,Bool.and_true,Bool.and_false,Bool.not_true,Bool.not_false] at hbs
   have R:=And.intro @hc2 (And.intro @he (And.intro @he2 (And.intro @hv (And.intro @hv2 (And.intro @hset (And.intro @hat (And.intro @hat2 (And.intro @hget (And.intro @hs2 (And.intro @hw2 (And.intro @q1 (And.intro @q2 (And.intro @q3 (And.intro @cG (And.intro @bh (And.intro @aK (And.intro @nE @U)))))))))))))))))
   repeat' ((first
    |(with_reducible refine .guard (fun hb =>?_) (fun hb =>?_) <;>try simp only[hb])
    |refine J.aG (by decide +kernel) rfl fun K hK =>?_
    |(refine .aw [0,1,4,5,6,7,15,33,60] hK ?_;clear hK K)
    |(with_reducible refine .done (hK _ ?_);clear hK K)
    |refine J.of rfl ?_
    |(with_reducible refine ak.aE (fun h =>?_) (fun h =>?_) <;>try simp only[h])) <;>try simp only[aH,R,Nat.reduceEqDiff,reduceIte,Nat.reduceBEq])
   all_goals clear R
   refine ⟨t+1,by omega,by omega,?_⟩
   rw[hbs]
   refine aC.cD ?_ (fun m =>?_)
   ·simp[aX,aW] <;>omega
   ·first | rfl | (simp only[ai];split <;>rfl)
 ·have hc2:=fD hlt
  have hw3:IntKind.i64.wrap ((i:Int)-1)=(i:Int)-1:=dz _ (by omega) (by omega)
  have htn:t=l.length-n:=by omega
  have hsn:=alK (known:=known) hn (by omega)
  rw[←htn,←hi] at hsn
  rw[hsn]
  have R:=And.intro @hc2 (And.intro @hw3 (And.intro @cG (And.intro @bh (And.intro @aK @U))))
  repeat' ((first
   |(with_reducible refine .guard (fun hb =>?_) (fun hb =>?_) <;>try simp only[hb])
   |refine J.aG (by decide +kernel) rfl fun K hK =>?_
   |(refine .aw [0,1,4,5,6,7,15,33,60] hK ?_;clear hK K)
   |(with_reducible refine .done (hK _ ?_);clear hK K)
   |refine J.of rfl ?_
   |(with_reducible refine ak.aE (fun h =>?_) (fun h =>?_) <;>try simp only[h])) <;>try simp only[aH,R,Nat.reduceEqDiff,reduceIte,Nat.reduceBEq])
  all_goals clear R
  refine ⟨i,by omega,by omega,?_⟩
  refine aC.cD ?_ (fun m=>rfl)
  simp[aX,aW]
theorem alj{α:Type}[Enc α]{A:ab}(esz:Nat){l:List α}{i:Nat}(h:i≤l.length)(hs:Enc.sz α=esz):mW A esz (some (.int .i64 i)) none none (enc l)=some (enc (l.drop i)):=by
 simp only[mW,fW,hs,if_true,jD,ic,List.length_map]
 rw[if_pos ⟨by omega,by omega,by omega,by omega⟩]
 simp[List.take_of_length_le]
def n9(l:List al)(day known:Int)(i:Nat):Bool:=(ep l known).getD i false&&ny l day i
def jT(l:List al)(day known:Int)(n:Nat):List Nat:=rp (fun i=>(ae l i).day) ((List.range n).filter (n9 l day known))
theorem akd(l:List al)(day known:Int):jT l day known l.length=fe l day known:=by
 simp only[jT,fe,iS,ed,List.filter_filter]
 congr 1
 refine List.filter_congr fun i _ =>?_
 simp only[n9,ny,Bool.and_comm]
theorem akf(l:List al)(day known:Int)(n:Nat):jT l day known (n+1)=if n9 l day known n then fZ (fun i=>(ae l i).day) n (jT l day known n) else jT l day known n:=by
 simp only[jT,rp,List.range_succ,List.filter_append,List.foldl_append,List.filter_cons,List.filter_nil]
 split <;>rfl
theorem ake(l:List al)(day known:Int)(n:Nat):(jT l day known n).Pairwise (kP fun i=>(ae l i).day)∧(∀ x∈jT l day known n,x<n)∧(jT l day known n).length≤n:=by
 have h:=pY (fun i=>(ae l i).day) ((List.range n).filter (n9 l day known)) [] (by simp) (List.Pairwise.filter _ List.pairwise_lt_range) (by simp)
 refine ⟨h.2,fun x hx =>?_,?_⟩
 ·have:=h.1.mem_iff.1 hx
  simp only[List.nil_append,List.mem_filter,List.mem_range] at this
  exact this.1
 ·have:=h.1.length_eq
  simp only[jT,rp]
  rw[this]
  have:=List.length_filter_le (n9 l day known) (List.range n)
  simpa using this
theorem ahW{key:Nat→Int}{i k:Nat}{o:List Nat}(h1:∀ x∈o.take k,key x≤key i)(h2:∀ x∈o.drop k,key i<key x):fZ key i o=o.take k++i::o.drop k:=by
 have key':∀ (a b:List Nat),(∀ x∈a,key x≤key i)→(∀ x∈b,key i<key x)→fZ key i (a++b)=a++i::b:=by
  intro a b ha hb
  induction a with
  |nil =>
   cases b with
   |nil=>simp[fZ]
   |cons y b =>
    have:=hb y (by simp)
    simp[fZ,show ¬ key y≤key i by omega]
  |cons y a ih =>
   have hy:=ha y (by simp)
   have e:∀ m:List Nat,fZ key i (y::m)=y::fZ key i m:=fun m=>by simp[fZ,hy]
   rw[List.cons_append,e,ih fun x hx=>ha x (by simp[hx])];rfl
 have:=key' (o.take k) (o.drop k) h1 h2
 rwa [List.take_append_drop] at this
theorem vY{ts:List (Nat×I)}{os:List (Nat×ah)}{N k:Nat}{xs q:List Int}{l:List al}{day:Int}{bg:List Bool}{i:Nat}{Z:I}(h8:Abs.bH ts 8=.view N [] 1 0 k)(hoN:ai os N=some (.box (.agg ((xs++q).map enc))))(hk:k=xs.length)(hN:N=74∨N=77∨N=81)
  (h0:Abs.bH ts 0=enc l) (h2:Abs.bH ts 2=.int .i64 day) (h6:Abs.bH ts 6=.ptr 6 []) (h7:Abs.bH ts 7=enc bg) (h9:Abs.bH ts 9=.int .i64 i) (ho6:ai os 6=some (.box Z)) (hZ:Z.br=true∨Z=.agg [.nils 9,.nils 1])
  (ho:bt (fun n => ![74,77,81].contains n) (cw [74,77,81] os)):aC (aq ts os) (aq [(0,enc l),(2,.int .i64 day),(6,.ptr 6 []),(7,enc bg),(8,enc xs),(9,.int .i64 i)] [(6,.box Z)]):=by
 have hkN:ai (fS [74,77,81] os) N=some (.box (.agg ((xs++q).map enc))):=by rw[lN];rcases hN with rfl | rfl | rfl <;>simpa using hoN
 have hf:bd true (aq ts (fS [74,77,81] os)) (.view N [] 1 0 k)=some (enc xs):=by
  rw[Dw]
  simp only[aq,hkN,fo,fC,m7,I.dn]
  exact vV hk.symm
 refine (aC.gU [74,77,81] 8 h8 hf ho).trans (aC.bZ ?_ ?_ ?_ ?_)
 ·have hfg:∀ t,Abs.bH (fG [74,77,81] ts) t=if (Abs.bH ts t).only (fun j => ![74,77,81].contains j)=true then Abs.bH ts t else .c7:=Dn _ ts
  simp[aX,aW,hfg,h0,h2,h6,h7,h9,bB,I.only]
 ·simp[bO,lM,ho6]
 ·simp[bM,bB,I.only,ao,ai]
 ·rcases hZ with hZ | rfl
  ·exact ⟨jR _ _ hZ,trivial⟩
  ·exact ⟨rfl,trivial⟩
abbrev qp(l:List al)(day:Int)(bg:List Bool)(xs:List Int)(i:Nat)(Z:I):ab:=aq [(0,enc l),(2,.int .i64 day),(6,.ptr 6 []),(7,enc bg),(8,enc xs),(9,.int .i64 i)] [(6,.box Z)]
theorem za{K:ab→Prop}{ts:List (Nat×I)}{os:List (Nat×ah)}{N k:Nat}{xs q A2:List Int}{l:List al}{day:Int}{bg:List Bool}{i:Nat}{Z:I}(h77:Abs.bH ts 77=.view N [] 1 0 k)(hk:k=xs.length)(hoN:ai os N=some (.box (.agg ((xs++q).map enc))))(h80:Abs.bH ts 80=enc A2)(h81:ai os 81=none)(hN:N=74∨N=77)(hb:xs.length+A2.length≤100)
  (h0:Abs.bH ts 0=enc l) (h2:Abs.bH ts 2=.int .i64 day) (h6:Abs.bH ts 6=.ptr 6 []) (h7:Abs.bH ts 7=enc bg) (h9:Abs.bH ts 9=.int .i64 i) (ho6:ai os 6=some (.box Z)) (hZ:Z.br=true∨Z=.agg [.nils 9,.nils 1])
  (ho:bt (fun n => ![74,77,81].contains n) (cw [74,77,81] os)) (hK:∀ B,Abs.aC B (qp l day bg (xs++A2) i Z)→K B) :
  cd Tryz.prog [] K (ay [⟨some 81,.cL 3 1 8 (.int .i64 0) (.t 77) (.t 80),none⟩,⟨some 8,.mv (.t 81),none⟩] (aq ts os)):=by
 subst hk
 have hdr:∀ (m:Nat) (y:ah),[74,77,81].contains m=true→cw [74,77,81] ((m,y)::os)=cw [74,77,81] os:=fun m y hm=>by
  simp only[cw,List.filter_cons,hm,Bool.not_true,Bool.false_eq_true,if_false]
 have hNc:[74,77,81].contains N=true:=by rcases hN with rfl | rfl <;>rfl
 try simp only[h77,h80,U]
 by_cases hA:A2=[]
 ·subst hA
  rw[z1 (esz:=1) (xs:=xs++q) _ _ (qb _ 1 ([]:List Int) rfl) hoN (by simp)]
  try simp only[U,reduceIte]
  refine .done (hK _ ?_)
  rw[List.append_nil]
  exact vY (N:=N) (q:=q) rfl hoN rfl (by omega) h0 h2 h6 h7 h9 ho6 hZ ho
 ·by_cases hr:A2.length≤q.length
  ·have e1:(xs++q).take xs.length++(A2++(xs++q).drop (xs.length+A2.length))=(xs++A2)++q.drop A2.length:=by
    simp[List.drop_append]
   rw[uY (esz:=1) (xs:=xs++q) (ys:=A2) _ rfl hA hoN (by simp;omega)]
   rw[e1]
   try simp only[U,reduceIte]
   refine .done (hK _ ?_)
   refine vY (N:=N) (xs:=xs++A2) (q:=q.drop A2.length) rfl (by simp[ai]) (by simp) (by omega) h0 h2 h6 h7 h9 ?_ hZ (by rw[hdr _ _ hNc];exact ho)
   simp only[ai];rw[if_neg (by omega)];exact ho6
  ·refine cd.uX (0:Int) (xs:=xs++q) (ys:=A2) rfl hA hoN (by simp) (by simp;omega) h81 (by omega) (by simp[maxLen];omega) fun qq =>?_
   have e1:(xs++q).take xs.length++(A2++List.replicate qq 0)=(xs++A2)++List.replicate qq 0:=by simp
   rw[e1]
   try simp only[U,reduceIte]
   refine .done (hK _ ?_)
   refine vY (N:=81) (xs:=xs++A2) (q:=List.replicate qq 0) rfl (by simp[ai]) (by simp) (by omega) h0 h2 h6 h7 h9 ?_ hZ (by rw[hdr _ _ rfl];exact ho)
   simp only[ai];rw[if_neg (by omega)];exact ho6
theorem L9{c:cJ}(hP:c.P=Tryz.prog){l:List al}{day:Int}{bg:List Bool}{xs:List Int}{i k:Nat}{Z:I}(hk:k≤xs.length)(hb:xs.length≤60)(hZ:Z.br=true∨Z=.agg [.nils 9,.nils 1]) :
  J c (.bS CV sR) (aF (fun B=>Abs.aC B (qp l day bg (xs.take k++(i:Int)::xs.drop k) i Z)) fun _ _=>False) (aq [(0,enc l),(2,.int .i64 day),(6,.ptr 6 []),(7,enc bg),(8,enc xs),(9,.int .i64 i),(10,.int .i64 k)] [(6,.box Z)]):=by
 refine J.akJ (gs:=sR) [] [(70,[]),(8,[]),(78,[])] [0,1,2,3,5,6,8,9,10,4,7,11,12] (by decide +kernel) (ew.of (by simp[nx,aW,tm,I.only,bB])) fun K hK =>?_
 rw[hP]
 have htl:(xs.take k).length=k:=by rw[List.length_take];omega
 have hdl:(xs.drop k).length=xs.length-k:=List.length_drop
 try simp only[lT,sR,List.getD_cons_zero,List.getD_cons_succ,yT 1 hk rfl,alj 1 hk rfl,Option.map_none,Option.map_some,iO,cG,U,Nat.reduceEqDiff,reduceIte]
 have hK':∀ B,Abs.aC B (qp l day bg ((xs.take k++[(i:Int)])++xs.drop k) i Z)→K B:=fun B h=>hK B (by simp only[aF];simpa using h)
 by_cases hA:xs.take k=[]
 ·rw[hA]
  rw[zZ (α:=Int) (esz:=1) _ rfl]
  try simp only[U,Nat.reduceEqDiff,reduceIte]
  refine cd.nT (0:Int) (l:=[(i:Int)]) rfl (by simp) rfl (by simp) (by simp[maxLen]) fun m =>?_
  simp only[lO,tv]
  refine za (N:=77) (xs:=xs.take k++[(i:Int)]) (q:=List.replicate m 0) (A2:=xs.drop k) rfl (by simp[hA]) (by rw[hA];rfl) rfl rfl (.inr rfl) (by simp;omega) rfl rfl rfl rfl rfl rfl hZ ?_ hK'
  rcases hZ with hZ | rfl
  ·exact ⟨jR _ _ hZ,trivial⟩
  ·exact ⟨rfl,trivial⟩
 ·refine cd.nT (0:Int) (l:=xs.take k) rfl hA rfl (by omega) (by simp only[maxLen];omega) fun m =>?_
  try simp only[U,Nat.reduceEqDiff,reduceIte]
  cases m with
  |zero =>
   refine cd.uX (0:Int) (xs:=xs.take k++List.replicate 0 0) (ys:=[(i:Int)]) rfl (by simp) rfl (by simp) (by simp) rfl (by simp;omega) (by simp[maxLen];omega) fun q =>?_
   have e1:∀ A1:List Int,(A1++List.replicate 0 0).take A1.length++([(i:Int)]++List.replicate q 0)=(A1++[(i:Int)])++List.replicate q 0:=fun A1=>by simp
   rw[e1]
   simp only[lO,tv]
   refine za (N:=77) (xs:=xs.take k++[(i:Int)]) (q:=List.replicate q 0) (A2:=xs.drop k) rfl (by simp) rfl rfl rfl (.inr rfl) (by simp;omega) rfl rfl rfl rfl rfl rfl hZ ?_ hK'
   rcases hZ with hZ | rfl
   ·exact ⟨jR _ _ hZ,trivial⟩
   ·exact ⟨rfl,trivial⟩
  |succ m =>
   have e1:∀ A1:List Int,(A1++List.replicate (m+1) 0).take A1.length++([(i:Int)]++(A1++List.replicate (m+1) 0).drop (A1.length+[(i:Int)].length))=(A1++[(i:Int)])++List.replicate m 0:=fun A1=>by
    simp[List.drop_append]
   rw[uY (esz:=1) (xs:=xs.take k++List.replicate (m+1) 0) (ys:=[(i:Int)]) _ rfl (by simp) rfl (by simp)]
   rw[e1]
   simp only[lO,tv]
   refine za (N:=74) (xs:=xs.take k++[(i:Int)]) (q:=List.replicate m 0) (A2:=xs.drop k) rfl (by simp) rfl rfl rfl (.inl rfl) (by simp;omega) rfl rfl rfl rfl rfl rfl hZ ?_ hK'
   rcases hZ with hZ | rfl
   ·exact ⟨jR _ _ hZ,trivial⟩
   ·exact ⟨rfl,trivial⟩
structure oX where
 qy:List aA
 zf:List Int
instance:Enc oX where
 enc x:=.agg [enc x.qy,enc x.zf]
 sz:=2
 aR:=.eh [.one,.one]
 ga:=true
 done x:=by simp only[I.done,I.eS,Enc.done,Bool.and_self]
 size x:=by simp only[I.size,I.sizes,iT,qD]
 jV x:=by simp only[I.aR,I.cT,eM];rfl
 agg _:=rfl
def oB(l:List al)(day known:Int):oX:=⟨(hJ fu l (fe l day known)).1,gA (bL (hJ fu l (fe l day known)).2)⟩
theorem aC.ai0{ts:List (Nat×I)}{os:List (Nat×ah)}(m z:Nat)(p:List Nat)(b:I)(hm:ai os m=some (.box b))(hp:b.at p=some (.nils z)):aC (aq ts os) (aq ts ((m,.box (b.dH p (.slice z [])))::os)):=by
 rintro c a w ⟨D,E,h⟩
 refine ⟨D,E,h.sz,h.eQ,h.dZ,h.dO,h.c5,h.c9,fun k =>?_,h.cS,h.dR,h.eV,h.cF,h.eX,h.fE⟩
 have ho:=h.bQ k
 simp only[aq,ai] at ho ⊢
 split
 ·rename_i hk
  subst hk
  rw[hm] at ho
  obtain ⟨b',cs,T',h1,h2,h3,h4,h5⟩:=ho
  obtain ⟨q1,q2⟩:=yu (y:=.slice z []) h4 hp (fun ds hd=>by
   simp only[af] at hd
   subst hd
   refine ⟨none,0,rfl,Nat.le_refl _,Nat.zero_le _,.inl rfl,by simp⟩) rfl
  exact ⟨b',cs,T',by rw[q2];exact h1,h2,h3,q1,h5⟩
 ·exact ho
def jh(l:List al)(o:List Nat)(i:Nat):List aA×List Nat:=(o.take i).foldl (hX fu l) ([],[])
theorem akq{l:List al}{o:List Nat}{i:Nat}(h:i<o.length):jh l o (i+1)=hX fu l (jh l o i) o[i]:=by
 simp only[jh]
 rw[List.take_succ_eq_append_getElem h,List.foldl_append];rfl
theorem ako(l:List al)(o:List Nat):jh l o o.length=hJ fu l o:=by simp only[jh,List.take_length];rfl
theorem akp(l:List al)(o:List Nat)(i:Nat)(hi:i≤o.length):((jh l o i).1.map (·.no)).Nodup∧(jh l o i).1.length≤i∧(∀ b∈(jh l o i).1,b.aY.length≤i)∧(jh l o i).2.length≤i:=by
 obtain ⟨h1,h2,h3,h4⟩:=tR l o i hi
 have hr:oY (fA l o i) (jh l o i):=vX r6 r7 l (o.take i) ⟨.nil,.nil,rfl⟩
 obtain ⟨k1,k2,k3⟩:=hr
 refine ⟨(k1.map _).nodup_iff.1 k2,by rw[←k1.length_eq];exact h2,fun b hb=>h3 b (k1.mem_iff.2 hb),by rw[←k3];exact h4⟩
theorem alP(l:List al)(s:List aA×List Nat)(i:Nat):hX fu l s i=((dW s.1 (ae l i)).1,if (dW s.1 (ae l i)).2 then s.2 else s.2++[i]):=by
 have key:∀ (b:List aA) (v:List Nat) (r:Option (List aA)),(match r with | some bs=>(bs,v) | none=>(b,v++[i]))=((match r with | some bs'=>(bs',true) | none=>(b,false)).1,if (match r with | some bs'=>(bs',true) | none=>(b,false)).2=true then v else v++[i]):=fun b v r=>by cases r <;>rfl
 exact key s.1 s.2 (di fu s.1 (ae l i))
theorem akr(l:List al)(day known:Int):oB l day known=⟨(hJ fu l (fe l day known)).1,gA (bL (hJ fu l (fe l day known)).2)⟩:=rfl
theorem alC{A:ab}{n:Nat}{w:I}{rest:List az} : dg A (some 2) n [] w (.agg [.nils 9,.nils 1]) rest (some (.agg [.nils 9,.nils 1]))=ay rest (A.aN n (.box (.agg [.nils 9,.nils 1]))):=by
 refine (eD (s:=some 2) (by rfl) (by rfl) (by rfl)).trans ?_
 rw[gP]
theorem PX:eG [.nils 9,.nils 1] []=some [.nils 9,.nils 1]:=rfl
def oq(bs:List aA):I:=.agg [enc bs,.nils 1]
theorem Ja(bs:List aA):(oq bs).dn=some [enc bs,.nils 1]:=rfl
theorem rl(a b:I)(v:I):dK [a,b] 0 0 v=some v:=by simp[dK,I.sizes]
theorem xZ(bs:List aA)(b v:I):dK [enc bs,b] 1 1 v=some v:=by simp[dK,I.sizes,iT,qD]
theorem alA{A:ab}{n:Nat}{bs bs':List aA}{rest:List az} : dg A none n [0] (oq bs) (enc bs') rest (some (enc bs))=ay rest (A.aN n (.box (oq bs'))):=by
 rw[eD (s:=none) (v:=enc bs') (old:=enc bs) (dQ _) (by rw[kH];rfl) ((eM bs').trans (eM bs).symm)];rfl
theorem alB{A:ab}{n:Nat}{bs:List aA}{v:List Int}{rest:List az} : dg A none n [1] (oq bs) (enc v) rest (some (.nils 1))=ay rest (A.aN n (.box (enc (⟨bs,v⟩:oX)))):=by
 rw[eD (s:=none) (v:=enc v) (old:=.nils 1) (dQ _) (by rw[kH];rfl) (eM v)];rfl
theorem yX{A:ab}{n:Nat}{w:I}{x:oX}{rest:List az} : dg A (some 2) n [] w (enc x) rest (some (.agg [.nils 9,.nils 1]))=ay rest (A.aN n (.box (enc x))):=by
 refine (eD (s:=some 2) (dQ x) (by rw[fX];rfl) (by rw[eM];rfl)).trans ?_
 rw[gP]
theorem x2(x:oX):b6 (some 2) (enc x)=true:=by rw[fX];rfl
theorem vP(x:oX):(enc x:I).dn=some [enc x.qy,enc x.zf]:=rfl
theorem M4{o:List Nat}{k:Nat}(h:k<o.length)(A:ab):gX A 1 (k:Int) (enc (bL o))=some (.ref (.int .i64 (o[k]:Nat))):=by
 have h2:k<(bL o).length:=by simpa[bL] using h
 rw[eA 1 h2 rfl]
 simp[bL,ij]
theorem alW{key:Nat→Int}{o:List Nat}(hp:o.Pairwise (kP key)){k:Nat}(hk:k<o.length){v:Int}(h:key o[k]≤v):∀ x∈o.take (k+1),key x≤v:=by
 intro x hx
 obtain ⟨j,hj,rfl⟩:=List.getElem_of_mem hx
 rw[List.length_take] at hj
 rw[List.getElem_take]
 by_cases e:j=k
 ·subst e;exact h
 ·have:=List.pairwise_iff_getElem.1 hp j k (by omega) hk (by omega)
  simp only[kP] at this;omega
theorem zJ(l:List al)(known day:Int)(hok:df l=true):av Tryz.prog 76 [enc l,enc known,enc day] (enc (oB l day known)):=by
 have hl:=ke hok
 refine av.bn Tryz.func76 RG TE VO (Nat.le_of_ble_eq_true rfl) (fun hwf W0 D0 E1 =>?_)
 simp only[B7,LO,a6,Nat.zero_add,Nat.reduceAdd]
 clear hwf
 have hS:=zk l known hl
 have R:=And.intro @bh (And.intro @aK @U)
 repeat' ((first
  |(with_reducible refine .guard (fun hb =>?_) (fun hb =>?_) <;>try simp only[hb])
  |refine J.aG (by decide +kernel) rfl fun K hK =>?_
  |refine .lead _ (hS) ?_
  |(refine .aw [0,1,2,6,7,8,9,10,11,12,13,14,15,22,46,67,86,105] hK ?_;clear hK K)
  |(with_reducible refine .done (hK _ ?_);clear hK K)
  |refine J.of rfl ?_
  |(with_reducible refine ak.aE (fun h =>?_) (fun h =>?_) <;>try simp only[h])) <;>try simp only[aH,R,Nat.reduceEqDiff,reduceIte,Nat.reduceBEq])
 all_goals clear R
 refine J.loop (fun i:Nat=>aq [(0,enc l),(2,.int .i64 day),(6,.ptr 6 []),(7,enc (ep l known)),(8,enc (bL (jT l day known i))),(9,.int .i64 i)] [(6,.box (.agg [.nils 9,.nils 1]))]) (fun i=>i≤l.length) (fun i=>l.length-i) 0 (Nat.zero_le _) ?_ (fun i hi =>?_)
 ·refine aC.oe [] 8 (x:=.nils 1) (y:=enc ([]:List Int)) rfl (by rfl) ?_ ?_ ?_ ?_ ?_ <;>simp[cw,bt,aX,bO,bM,fG,aW,I.only,I.bP,ah.only,bB,ai,ao,jT,rp,bL]
 by_cases hlt:i<l.length
 ·have hc:=fy hlt
  have he:=fun A=>gJ (A:=A) hlt
  have hw:=eH (i:=i) (by omega)
  have hst:i<(ep l known).length:=by rw[uv];exact hlt
  have heS:=fun A=>eA (A:=A) 1 hst rfl
  have hsu:=akf l day known i
  obtain ⟨hp1,hp2,hp3⟩:=ake l day known i
  have hdue:n9 l day known i=((ep l known)[i]&&(((ae l i).kind != 0)&&decide ((ae l i).day≤day))):=by
   simp only[n9,ny,List.getD_eq_getElem?_getD,List.getElem?_eq_getElem hst,Option.getD_some,bne,ne_eq,decide_not];rfl
  have hgt:decide (day<(ae l i).day) = !decide ((ae l i).day≤day):=by
   by_cases h:(ae l i).day≤day
   ·simp[h]
   ·simp[h];omega
  rcases q1:(ep l known)[i] <;>rcases q2:((ae l i).kind==0) <;>rcases q3:decide ((ae l i).day≤day)
  all_goals
   rw[q3] at hgt
   have q2':((ae l i).kind != 0) = !((ae l i).kind==0):=rfl
   rw[q1,q2',q2,q3] at hdue
   simp only[Bool.not_true,Bool.not_false,Bool.and_true,Bool.and_false] at hdue hgt
   rw[hdue] at hsu
  case true.false.true =>
   simp only[if_true] at hsu
   generalize jT l day known i=o at *
   have htl:(bL o).length=o.length:=by simp[bL]
   have R:=And.intro @hc (And.intro @he (And.intro @heS (And.intro @hw (And.intro @q1 (And.intro @q2 (And.intro @hgt (And.intro @htl (And.intro @bh (And.intro @aK (And.intro @nE @U))))))))))
   repeat' ((first
    |(with_reducible refine .guard (fun hb =>?_) (fun hb =>?_) <;>try simp only[hb])
    |refine J.aG (by decide +kernel) rfl fun K hK =>?_
    |(refine .aw [0,1,2,6,7,8,9,10,11,12,13,14,15,22,46,67,86,105] hK ?_;clear hK K)
    |(with_reducible refine .done (hK _ ?_);clear hK K)
    |refine J.of rfl ?_
    |(with_reducible refine ak.aE (fun h =>?_) (fun h =>?_) <;>try simp only[h])) <;>try simp only[aH,R,Nat.reduceEqDiff,reduceIte,Nat.reduceBEq])
   all_goals clear R
   refine J.loop (fun k:Nat=>aq [(0,enc l),(2,.int .i64 day),(6,.ptr 6 []),(7,enc (ep l known)),(8,enc (bL o)),(9,.int .i64 i),(10,.int .i64 k)] [(6,.box (.agg [.nils 9,.nils 1]))]) (fun k=>k≤o.length∧∀ x∈o.drop k,(ae l i).day<(ae l x).day) (fun k=>k) o.length ⟨Nat.le_refl _,by simp⟩ ?_ (fun k hk =>?_)
   ·refine aC.cD ?_ (fun m=>rfl)
    simp[aX,aW]
   obtain ⟨hk1,hk2⟩:=hk
   have bd:(∀ x∈o.take k,(ae l x).day≤(ae l i).day)→fZ (fun i=>(ae l i).day) i o=o.take k++i::o.drop k:=fun h=>ahW h hk2
   have hT:bL (o.take k++i::o.drop k)=(bL o).take k++(i:Int)::(bL o).drop k:=by simp[bL,List.map_take,List.map_drop]
   by_cases hk0:k=0
   ·subst hk0
    have hg0:decide ((0:Int)<((0:Nat):Int))=false:=by decide
    rw[bd (by simp)] at hsu
    have R:=And.intro @hg0 (And.intro @bh (And.intro @aK @U))
    repeat' ((first
     |(with_reducible refine .guard (fun hb =>?_) (fun hb =>?_) <;>try simp only[hb])
     |refine J.aG (by decide +kernel) rfl fun K hK =>?_
     |(refine .aw [0,1,2,6,7,8,9,10,11,12,13,14,15,22,46,67,86,105] hK ?_;clear hK K)
     |(with_reducible refine .done (hK _ ?_);clear hK K)
     |refine J.of rfl ?_
     |(with_reducible refine ak.aE (fun h =>?_) (fun h =>?_) <;>try simp only[h])) <;>try simp only[aH,R,Nat.reduceEqDiff,reduceIte,Nat.reduceBEq])
    all_goals clear R
    refine J.nO (qp l day (ep l known) ((bL o).take 0++(i:Int)::(bL o).drop 0) i (.agg [.nils 9,.nils 1])) (J.sub ?_ (L9 rfl (by omega) (by omega) (.inr rfl))) (fun B hsub =>?_)
    ·refine aC.cD ?_ (fun m=>rfl)
     simp[aX,aW]
    simp only[aF,b8]
    refine J.sub hsub ?_
    have R:=And.intro @hw (And.intro @bh (And.intro @aK @U))
    repeat' ((first
     |(with_reducible refine .guard (fun hb =>?_) (fun hb =>?_) <;>try simp only[hb])
     |refine J.aG (by decide +kernel) rfl fun K hK =>?_
     |(refine .aw [0,1,2,6,7,8,9,10,11,12,13,14,15,22,46,67,86,105] hK ?_;clear hK K)
     |(with_reducible refine .done (hK _ ?_);clear hK K)
     |refine J.of rfl ?_
     |(with_reducible refine ak.aE (fun h =>?_) (fun h =>?_) <;>try simp only[h])) <;>try simp only[aH,R,Nat.reduceEqDiff,reduceIte])
    all_goals clear R
    refine ⟨i+1,by omega,by omega,?_⟩
    rw[hsu,hT]
    refine aC.cD ?_ (fun m=>rfl)
    simp[aX,aW]
   obtain ⟨k',rfl⟩:∃ k',k=k'+1:=⟨k-1,by omega⟩
   have hkl:k'<o.length:=by omega
   have hg1:decide ((0:Int)<((k'+1:Nat):Int))=true:=decide_eq_true (by omega)
   have hwk:IntKind.i64.wrap (((k'+1:Nat):Int)-1)=(k':Int):=by rw[dz _ (by omega) (by omega)];omega
   have hek:=fun A=>M4 (A:=A) hkl
   have hol:o[k']<l.length:=by have:=hp2 _ (List.getElem_mem hkl);omega
   have heo:=fun A=>gJ (A:=A) hol
   rcases q4:decide ((ae l i).day<(ae l o[k']).day)
   ·have q4':(ae l o[k']).day≤(ae l i).day:=by simp at q4;omega
    rw[bd (alW hp1 hkl q4')] at hsu
    have R:=And.intro @hg1 (And.intro @hwk (And.intro @hek (And.intro @heo (And.intro @he (And.intro @q4 (And.intro @bh (And.intro @aK (And.intro @nE @U))))))))
    repeat' ((first
     |(with_reducible refine .guard (fun hb =>?_) (fun hb =>?_) <;>try simp only[hb])
     |refine J.aG (by decide +kernel) rfl fun K hK =>?_
     |(refine .aw [0,1,2,6,7,8,9,10,11,12,13,14,15,22,46,67,86,105] hK ?_;clear hK K)
     |(with_reducible refine .done (hK _ ?_);clear hK K)
     |refine J.of rfl ?_
     |(with_reducible refine ak.aE (fun h =>?_) (fun h =>?_) <;>try simp only[h])) <;>try simp only[aH,R,Nat.reduceEqDiff,reduceIte,Nat.reduceBEq])
    all_goals clear R
    refine J.nO (qp l day (ep l known) ((bL o).take (k'+1)++(i:Int)::(bL o).drop (k'+1)) i (.agg [.nils 9,.nils 1])) (J.sub ?_ (L9 rfl (by omega) (by omega) (.inr rfl))) (fun B hsub =>?_)
    ·refine aC.cD ?_ (fun m=>rfl)
     simp[aX,aW]
    simp only[aF,b8]
    refine J.sub hsub ?_
    have R:=And.intro @hw (And.intro @bh (And.intro @aK @U))
    repeat' ((first
     |(with_reducible refine .guard (fun hb =>?_) (fun hb =>?_) <;>try simp only[hb])
     |refine J.aG (by decide +kernel) rfl fun K hK =>?_
     |(refine .aw [0,1,2,6,7,8,9,10,11,12,13,14,15,22,46,67,86,105] hK ?_;clear hK K)
     |(with_reducible refine .done (hK _ ?_);clear hK K)
     |refine J.of rfl ?_
     |(with_reducible refine ak.aE (fun h =>?_) (fun h =>?_) <;>try simp only[h])) <;>try simp only[aH,R,Nat.reduceEqDiff,reduceIte])
    all_goals clear R
    refine ⟨i+1,by omega,by omega,?_⟩
    rw[hsu,hT]
    refine aC.cD ?_ (fun m=>rfl)
    simp[aX,aW]
   ·have q4':(ae l i).day<(ae l o[k']).day:=by simpa using q4
    have R:=And.intro @hg1 (And.intro @hwk (And.intro @hek (And.intro @heo (And.intro @he (And.intro @q4 (And.intro @bh (And.intro @aK (And.intro @nE @U))))))))
    repeat' ((first
     |(with_reducible refine .guard (fun hb =>?_) (fun hb =>?_) <;>try simp only[hb])
     |refine J.aG (by decide +kernel) rfl fun K hK =>?_
     |(refine .aw [0,1,2,6,7,8,9,10,11,12,13,14,15,22,46,67,86,105] hK ?_;clear hK K)
     |(with_reducible refine .done (hK _ ?_);clear hK K)
     |refine J.of rfl ?_
     |(with_reducible refine ak.aE (fun h =>?_) (fun h =>?_) <;>try simp only[h])) <;>try simp only[aH,R,Nat.reduceEqDiff,reduceIte,Nat.reduceBEq])
    all_goals clear R
    refine ⟨k',⟨by omega,fun x hx =>?_⟩,by omega,?_⟩
    ·rw[List.drop_eq_getElem_cons hkl] at hx
     rcases List.mem_cons.1 hx with rfl | hx
     ·exact q4'
     ·exact hk2 x hx
    ·refine aC.cD ?_ (fun m=>rfl)
     simp[aX,aW]
  all_goals
   simp only[Bool.false_eq_true,if_false] at hsu
   have R:=And.intro @hc (And.intro @he (And.intro @heS (And.intro @hw (And.intro @q1 (And.intro @q2 (And.intro @hgt (And.intro @bh (And.intro @aK (And.intro @nE @U)))))))))
   repeat' ((first
    |(with_reducible refine .guard (fun hb =>?_) (fun hb =>?_) <;>try simp only[hb])
    |refine J.aG (by decide +kernel) rfl fun K hK =>?_
    |(refine .aw [0,1,2,6,7,8,9,10,11,12,13,14,15,22,46,67,86,105] hK ?_;clear hK K)
    |(with_reducible refine .done (hK _ ?_);clear hK K)
    |refine J.of rfl ?_
    |(with_reducible refine ak.aE (fun h =>?_) (fun h =>?_) <;>try simp only[h])) <;>try simp only[aH,R,Nat.reduceEqDiff,reduceIte,Nat.reduceBEq])
   all_goals clear R
   refine ⟨i+1,by omega,by omega,?_⟩
   rw[hsu]
   refine aC.cD ?_ (fun m=>rfl)
   simp[aX,aW]
 ·have hc:=fD hlt
  have hge:i=l.length:=by omega
  subst hge
  rw[akd]
  have R:=And.intro @hc (And.intro @alC (And.intro @PX (And.intro @bh (And.intro @aK @U))))
  repeat' ((first
   |(with_reducible refine .guard (fun hb =>?_) (fun hb =>?_) <;>try simp only[hb])
   |refine J.aG (by decide +kernel) rfl fun K hK =>?_
   |(refine .aw [0,1,2,6,7,8,9,10,11,12,13,14,15,22,46,67,86,105] hK ?_;clear hK K)
   |(with_reducible refine .done (hK _ ?_);clear hK K)
   |refine J.of rfl ?_
   |(with_reducible refine ak.aE (fun h =>?_) (fun h =>?_) <;>try simp only[h])) <;>try simp only[aH,R,Nat.reduceEqDiff,reduceIte,Nat.reduceBEq])
  all_goals clear R
  have hpl:=akr l day known
  have hmem:∀ i∈fe l day known,i<l.length∧(ae l i).kind≠0:=fun i hi=>by
   have h1:=ye hi
   refine ⟨sC h1,?_⟩
   have:=(List.mem_filter.1 h1).2
   simp only[Bool.and_eq_true,decide_eq_true_eq] at this
   exact this.1
  have hol:(fe l day known).length≤60:=by rw[tO];exact Nat.le_trans (qC l day known) hl
  rw[hpl]
  generalize fe l day known=o at *
  have htl:(bL o).length=o.length:=by simp[bL]
  refine J.sub (aC.ai0 11 9 [0] (.agg [.nils 9,.nils 1]) rfl rfl) ?_
  refine J.loop (fun i:Nat=>aq [(0,enc l),(6,.ptr 6 []),(8,enc (bL o)),(11,.ptr 11 []),(12,.own 912 (bL (jh l o i).2).length),(13,.int .i64 i)] [(6,.box (.agg [.nils 9,.nils 1])),(11,.box (oq (jh l o i).1)),(912,.bT 3 1 ((bL (jh l o i).2).map enc))]) (fun i=>i≤o.length) (fun i=>o.length-i) 0 (Nat.zero_le _) ?_ (fun i hi =>?_)
  ·refine aC.ln 12 912 3 1 1 rfl rfl ?_
   refine aC.bZ ?_ ?_ ?_ ?_ <;>simp[aX,bO,bM,bt,ao,aW,ai,I.only,I.bP,bB,ah.only,jh,bL,oq]
   rfl
  obtain ⟨hr1,hr2,hr3,hr4⟩:=akp l o i hi
  by_cases hlt:i<o.length
  ·have hc:=fy hlt
   have he:=fun A=>M4 (A:=A) hlt
   have hw:=eH (i:=i) (by omega)
   obtain ⟨hjl,hjk⟩:=hmem o[i] (List.getElem_mem hlt)
   have he2:=fun A=>gJ (A:=A) hjl
   have hs:=akq (l:=l) hlt
   rw[alP] at hs
   generalize jh l o i=s at *
   obtain ⟨bs,vd⟩:=s
   simp only at hr1 hr2 hr3 hr4 hs ⊢
   have hF:=NA bs (ae l o[i]) (by omega) hr1 (fun b hb=>by have:=hr3 b hb;omega) (tK hok hjl) hjk
   have happ:=fun (A:ab) d rest=>jr (α:=Int) (A:=A) (d:=d) 3 1 8 912 (l:=(bL vd).length) (es:=bL vd) (ys:=[(o[i]:Int)]) (rest:=rest) rfl rfl (by simp) (by simp[maxLen,bL];omega) (by simp[bL];omega)
   generalize dW bs (ae l o[i])=r at hF hs
   obtain ⟨bs',did⟩:=r
   simp only at hF hs
   cases did
   all_goals
    simp only[Bool.false_eq_true,if_false,if_true] at hs
    have R:=And.intro @hc (And.intro @htl (And.intro @he (And.intro @he2 (And.intro @hw (And.intro @happ (And.intro @iO (And.intro @Ja (And.intro @rl (And.intro @alA (And.intro @cC (And.intro @bh (And.intro @aK @U))))))))))))
    repeat' ((first
     |(with_reducible refine .guard (fun hb =>?_) (fun hb =>?_) <;>try simp only[hb])
     |refine J.aG (by decide +kernel) rfl fun K hK =>?_
     |refine .lead _ (hF) ?_
     |(refine .aw [0,1,2,6,7,8,9,10,11,12,13,14,15,22,46,67,86,105] hK ?_;clear hK K)
     |(with_reducible refine .done (hK _ ?_);clear hK K)
     |refine J.of rfl ?_
     |(with_reducible refine ak.aE (fun h =>?_) (fun h =>?_) <;>try simp only[h])) <;>try simp only[aH,R,Nat.reduceEqDiff,reduceIte,Nat.reduceBEq])
    all_goals clear R
    refine ⟨i+1,by omega,by omega,?_⟩
    rw[hs]
    have ae:bL (vd++[o[i]])=bL vd++[(o[i]:Int)]:=by simp[bL]
    simp only[ae]
    refine aC.bZ ?_ ?_ ?_ ?_ <;>simp[aX,bO,bM,bt,ao,aW,ai,I.only,I.bP,bB,ah.only,dU,gv,oq]
  ·have hc:=fD hlt
   have hge:i=o.length:=by omega
   subst hge
   rw[ako] at hr4 ⊢
   have hF:=zL (bL (hJ fu l o).2) (by simp[bL];omega)
   have hfo:=lF (k:=(bL (hJ fu l o).2).length) (T:=3) (es:=bL (hJ fu l o).2) 1 rfl rfl
   have R:=And.intro @hc (And.intro @htl (And.intro @hfo (And.intro @Ja (And.intro @rl (And.intro @xZ (And.intro @alB (And.intro @yX (And.intro @x2 (And.intro @cC (And.intro @bh (And.intro @aK @U)))))))))))
   repeat' ((first
    |(with_reducible refine .guard (fun hb =>?_) (fun hb =>?_) <;>try simp only[hb])
    |refine J.aG (by decide +kernel) rfl fun K hK =>?_
    |refine .lead _ (hF) ?_
    |(refine .aw [0,1,2,6,7,8,9,10,11,12,13,14,15,22,46,67,86,105] hK ?_;clear hK K)
    |(with_reducible refine .done (hK _ ?_);clear hK K)
    |refine J.of rfl ?_
    |(with_reducible refine ak.aE (fun h =>?_) (fun h =>?_) <;>try simp only[h])) <;>try simp only[aH,R,Nat.reduceEqDiff,reduceIte,Nat.reduceBEq])
   all_goals clear R
   trace_state
end Go.Proofs.YtcldiigclhgafaaGreat
namespace Go.Proofs.YtcldiigclhgafaaGreat
open Go Go.Abs Go.ChangeShapes Go.WideShapes Go.RowKit
open Go.Abs.Enc (enc)
theorem Tryz.own:ownKnob Tryz.prog.godebug=none:=by kernel_rfl
theorem Tryz.aiq:laidOutB Tryz.prog=true:=by kernel_rfl
theorem kd:iM Tryz.prog 3 Int:=aj8 (by kernel_rfl) (by kernel_rfl)
theorem ai6:iM Tryz.prog 66 (bI 6 Int):=aj7 (ah1 (by kernel_rfl)) kd (by kernel_rfl) (by decide)
theorem JB:iM Tryz.prog 65 Item:=⟨by kernel_rfl,by decide,fun h=>by
 obtain ⟨a,b,hab⟩:=akb (α:=Int) (β:=Int) (u0:=3) (u1:=3) (by kernel_rfl) kd kd (by kernel_rfl) h
 exact ⟨⟨a,b⟩,hab⟩⟩
theorem ai4:iM Tryz.prog 68 al:=⟨by kernel_rfl,by decide,fun h=>by
 obtain ⟨vs,hv,hr⟩:=aka [(65,0),(3,2),(3,3),(3,4),(3,5),(3,6),(3,7),(3,8),(66,9),(65,15)]
  [(2,fun v=>∃ a:Item,v=enc a),(1,fun v=>∃ a:Int,v=enc a),(1,fun v=>∃ a:Int,v=enc a),(1,fun v=>∃ a:Int,v=enc a),(1,fun v=>∃ a:Int,v=enc a),(1,fun v=>∃ a:Int,v=enc a),(1,fun v=>∃ a:Int,v=enc a),(1,fun v=>∃ a:Int,v=enc a),(6,fun v=>∃ a:bI 6 Int,v=enc a),(2,fun v=>∃ a:Item,v=enc a)]
  (by kernel_rfl) (by simp only[rm];exact ⟨trivial,JB.bx,trivial,kd.bx,trivial,kd.bx,trivial,kd.bx,trivial,kd.bx,trivial,kd.bx,trivial,kd.bx,trivial,kd.bx,trivial,ai6.bx,trivial,JB.bx,trivial⟩) (by kernel_rfl) h
 obtain ⟨v0,vs0,e0,h0,hv0⟩:=lp hv
 obtain ⟨a0,f0⟩:∃ a:Item,v0=enc a:=h0
 obtain ⟨v1,vs1,e1,h1,hv1⟩:=lp hv0
 obtain ⟨a1,f1⟩:∃ a:Int,v1=enc a:=h1
 obtain ⟨v2,vs2,e2,h2,hv2⟩:=lp hv1
 obtain ⟨a2,f2⟩:∃ a:Int,v2=enc a:=h2
 obtain ⟨v3,vs3,e3,h3,hv3⟩:=lp hv2
 obtain ⟨a3,f3⟩:∃ a:Int,v3=enc a:=h3
 obtain ⟨v4,vs4,e4,h4,hv4⟩:=lp hv3
 obtain ⟨a4,f4⟩:∃ a:Int,v4=enc a:=h4
 obtain ⟨v5,vs5,e5,h5,hv5⟩:=lp hv4
 obtain ⟨a5,f5⟩:∃ a:Int,v5=enc a:=h5
 obtain ⟨v6,vs6,e6,h6,hv6⟩:=lp hv5
 obtain ⟨uS,f6⟩:∃ a:Int,v6=enc a:=h6
 obtain ⟨v7,vs7,e7,h7,hv7⟩:=lp hv6
 obtain ⟨a7,f7⟩:∃ a:Int,v7=enc a:=h7
 obtain ⟨v8,vs8,e8,h8,hv8⟩:=lp hv7
 obtain ⟨a8,f8⟩:∃ a:bI 6 Int,v8=enc a:=h8
 obtain ⟨v9,vs9,e9,h9,hv9⟩:=lp hv8
 obtain ⟨a9,f9⟩:∃ a:Item,v9=enc a:=h9
 have e10:=Pb hv9
 rw[e0,e1,e2,e3,e4,e5,e6,e7,e8,e9,e10,f0,f1,f2,f3,f4,f5,f6,f7,f8,f9] at hr
 exact ⟨⟨a0,a1,a2,a3,a4,a5,uS,a7,a8,a9⟩,hr⟩⟩
theorem ai5:iM Tryz.prog 27 (List al):=aj9 (by kernel_rfl) ai4 (by kernel_rfl)
theorem alb{w:World}{D:aQ}{E:aU}{x y z:I}{a b c:Value}(hx:∃ cs,bK x a cs∧af w D E x cs)(hy:∃ cs,bK y b cs∧af w D E y cs)(hz:∃ cs,bK z c cs∧af w D E z cs):aI w D E [x,y,z] [a,b,c]:=by
 obtain ⟨c1,h1,h2⟩:=hx
 obtain ⟨c2,h3,h4⟩:=hy
 obtain ⟨c3,h5,h6⟩:=hz
 simp only[aI]
 exact ⟨a,[b,c],c1,rfl,h1,h2,b,[c],c2,rfl,h3,h4,c,[],c3,rfl,h5,h6,rfl⟩
end Go.Proofs.YtcldiigclhgafaaGreat
namespace Go.Proofs.YtcldiigclhgafaaGreat
open Go Go.Abs
open Go.Abs.Enc (enc)
theorem Xv(a b:Bool):cg .b (.bool a) (.bool b)=some (a==b):=by simp[cg]
theorem ev.JP{aB:Bool}{ρ:List (Nat×Nat)}{k:Nat}{x:ah}{os0:List (Nat×ah)}{r c:I}(h1:∀ p,c.only p=true)(h2:aB=true→c.cY=true)(h3:r.only (ao [(k,.box c)])=true)(h4:aB=true→r.cY=true):ev aB ρ [(k,x)] os0 r [(k,.box c)]:=by
 refine ⟨fun m x h =>?_,fun m m' h h' _ =>?_,fun m h =>?_,fun m h h' =>?_,h3,h4⟩
 ·simp only[ai] at h
  split at h
  ·simp only[Option.some.injEq] at h;subst h;exact ⟨h1 _,rfl,h2⟩
  ·cases h
 ·rw[cQ.1 h,cQ.1 h']
 ·rw[cQ.1 h];exact cQ.2 rfl
 ·rw[cQ.1 h] at h'
  have:ao [(k,x)] k=true:=cQ.2 rfl
  rw[this] at h';cases h'
theorem xL(p:Nat→Bool)(l:List al):(I.agg (l.map enc)).only p=true:=by simp only[I.only];exact dU p l
theorem OJ(l:List al)(i:Nat)(hi:i<l.length)(hlen:l.length≤60):av Tryz.prog 78 [enc l,enc (i:Int)] (enc (eZ l i)):=by
 have hne:l≠[]:=fun e=>by rw[e] at hi;simp at hi
 have hdl:=CZ hi
 refine av.bn Tryz.func78 RH TF VP (Nat.le_of_ble_eq_true rfl) (fun hwf W0 D0 E1 =>?_)
 simp only[B8,LP,a6,Nat.zero_add]
 clear hwf
 refine .au (by decide +kernel) fun K hK =>?_
 simp only[If,U,simprocAttr]
 refine .done (hK _ ?_);clear hK K
 refine .au (by decide +kernel) fun K hK =>?_
 simp only[Ig,U,simprocAttr]
 refine .bQ false [(7,6)] [] [enc l] (CJ l) rfl (NJ l (by omega)) fU.nil ⟨.inl ⟨(jM _ _).symm,bB _ _,dQ _⟩,trivial⟩ ?_ ?_
 ·rintro x os' (⟨_,h | h,rfl⟩ | ⟨_,k,rfl,rfl⟩)
  ·subst h;exact ev.nil (fun _=>rfl) (fun h=>by cases h)
  ·subst h;exact ev.nil (fun _=>rfl) (fun h=>by cases h)
  ·exact ev.tC (fun p=>xL p _) (fun h=>by cases h) rfl (fun h=>by cases h) rfl (by decide)
 ·rintro x os' (⟨hn,_,_⟩ | ⟨hn,k,rfl,rfl⟩)
  ·exact absurd hn hne
  try simp only[kV,jj,gw,List.cons_append,List.nil_append,U,simprocAttr]
  rw[dz _ (by omega) (by omega)]
  have hp1:(i:Int)+1=((i+1:Nat):Int):=by omega
  simp only[hp1]
  refine .bQ false [(1000000,6)] (kV 1000000 l k) [.view 1000000 [] 17 0 l.length,enc (i:Int),enc ((i+1:Nat):Int)] (CX l i) rfl (NI l i k hi (by omega)) ⟨?_,?_⟩ ⟨.inl ⟨?_,?_,rfl⟩,.inl ⟨rfl,rfl,rfl⟩,.inl ⟨rfl,rfl,rfl⟩,trivial⟩ ?_ ?_
  ·intro n x h
   simp only[kV,ai] at h
   split at h
   ·rename_i hn'
    subst hn'
    simp only[Option.some.injEq] at h
    subst h
    exact ⟨by simp only[jj,gw,U,simprocAttr],xL _ _,rfl⟩
   ·cases h
  ·intro a b ha hb _
   rw[cQ.1 ha,cQ.1 hb]
  ·try simp only[jj,simprocAttr]
  ·exact cQ.2 rfl
  ·rintro x os' ⟨q,rfl,rfl⟩
   exact ev.JP (fun p=>xL p _) (fun h=>by cases h) rfl (fun h=>by cases h)
  ·rintro x os' ⟨q,rfl,rfl⟩
   rw[←hdl]
   generalize hL:eZ l i=L at hdl ⊢
   try simp only[kV,jj,gw,List.cons_append,List.nil_append,U,simprocAttr]
   refine .done (hK _ ?_);clear hK K
   refine J.ret ?_
   simp only[U,simprocAttr]
   try simp only[qJ (α:=al) (sz:=17) rfl,U,simprocAttr]
   rw[hL];simp
theorem NH(a b:List Int):av Tryz.prog 134 [enc a,enc b] (enc (decide (a=b))):=by
 refine av.bn Tryz.func134 Qr Sl Uy (Nat.le_of_ble_eq_true rfl) (fun hwf W0 D0 E1 =>?_)
 simp only[AL,Ky,a6,Nat.zero_add]
 have hlen:a.length≤maxLen:=((jZ a).1 hwf.1).1
 simp only[maxLen] at hlen
 clear hwf
 by_cases hl:a.length=b.length
 case neg =>
  have hn:((a.length:Int) != (b.length:Int))=true:=by simp;omega
  have R:=And.intro @hn (And.intro @bh (And.intro @aK @U))
  repeat' ((first
   |(with_reducible refine .guard (fun hb =>?_) (fun hb =>?_) <;>try simp only[hb])
   |refine J.aG (by decide +kernel) rfl fun K hK =>?_
   |(refine .aw [0,1,4,5,10,12,13,14,24] hK ?_;clear hK K)
   |(with_reducible refine .done (hK _ ?_);clear hK K)
   |refine J.of rfl ?_
   |(with_reducible refine ak.aE (fun h =>?_) (fun h =>?_) <;>try simp only[h])) <;>try simp only[aH,R,simprocAttr])
  all_goals clear R
  have:¬ a=b:=fun e=>hl (by rw[e])
  simp[this]
 have hn:((a.length:Int) != (b.length:Int))=false:=by simp;omega
 have R:=And.intro @hn (And.intro @bh (And.intro @aK @U))
 repeat' ((first
  |(with_reducible refine .guard (fun hb =>?_) (fun hb =>?_) <;>try simp only[hb])
  |refine J.aG (by decide +kernel) rfl fun K hK =>?_
  |(refine .aw [0,1,4,5,10,12,13,14,24] hK ?_;clear hK K)
  |(with_reducible refine .done (hK _ ?_);clear hK K)
  |refine J.of rfl ?_
  |(with_reducible refine ak.aE (fun h =>?_) (fun h =>?_) <;>try simp only[h])) <;>try simp only[aH,R,simprocAttr])
 all_goals clear R
 refine J.loop (fun i:Nat=>aq [(0,enc a),(1,enc b),(12,.int .i64 a.length),(13,.int .i64 i)] []) (fun i=>i≤a.length∧∀ k,k<i→a[k]?=b[k]?) (fun i=>a.length-i) 0 ⟨Nat.zero_le _,fun k h=>by omega⟩ ?_ (fun i hi =>?_)
 ·refine aC.bZ ?_ ?_ ?_ ?_ <;>simp[aX,bO,bM,bt,aW,I.only,bB]
 obtain ⟨hi1,hi2⟩:=hi
 by_cases hlt:i<a.length
 ·have hc:=fy hlt
  have he:=fun A=>eA (A:=A) 1 hlt rfl
  have hlt2:i<b.length:=by omega
  have he2:=fun A=>eA (A:=A) 1 hlt2 rfl
  have hw:=eH (i:=i) (by omega)
  rcases hp:(a[i] != b[i])
  ·have R:=And.intro @hc (And.intro @he (And.intro @he2 (And.intro @hp (And.intro @hw (And.intro @lR (And.intro @bh @U))))))
   repeat' ((first
    |(with_reducible refine .guard (fun hb =>?_) (fun hb =>?_) <;>try simp only[hb])
    |refine J.aG (by decide +kernel) rfl fun K hK =>?_
    |(refine .aw [0,1,4,5,10,12,13,14,24] hK ?_;clear hK K)
    |(with_reducible refine .done (hK _ ?_);clear hK K)
    |refine J.of rfl ?_
    |(with_reducible refine ak.aE (fun h =>?_) (fun h =>?_) <;>try simp only[h])) <;>try simp only[aH,R,simprocAttr])
   all_goals clear R
   refine ⟨i+1,⟨by omega,fun k hk =>?_⟩,by omega,?_⟩
   ·by_cases e:k=i
    ·subst e
     have:a[k]=b[k]:=by simpa using hp
     simp[hlt,hlt2,this]
    ·exact hi2 k (by omega)
   ·refine aC.bZ ?_ ?_ ?_ ?_ <;>simp[aX,bO,bM,bt,aW,I.only,bB]
  ·have R:=And.intro @hc (And.intro @he (And.intro @he2 (And.intro @hp (And.intro @lR (And.intro @bh @U)))))
   repeat' ((first
    |(with_reducible refine .guard (fun hb =>?_) (fun hb =>?_) <;>try simp only[hb])
    |refine J.aG (by decide +kernel) rfl fun K hK =>?_
    |(refine .aw [0,1,4,5,10,12,13,14,24] hK ?_;clear hK K)
    |(with_reducible refine .done (hK _ ?_);clear hK K)
    |refine J.of rfl ?_
    |(with_reducible refine ak.aE (fun h =>?_) (fun h =>?_) <;>try simp only[h])) <;>try simp only[aH,R,simprocAttr])
   all_goals clear R
   have:¬ a=b:=fun e=>by subst e;simp at hp
   simp[this]
 ·have hc:=fD hlt
  have R:=And.intro @hc (And.intro @bh @U)
  repeat' ((first
   |(with_reducible refine .guard (fun hb =>?_) (fun hb =>?_) <;>try simp only[hb])
   |refine J.aG (by decide +kernel) rfl fun K hK =>?_
   |(refine .aw [0,1,4,5,10,12,13,14,24] hK ?_;clear hK K)
   |(with_reducible refine .done (hK _ ?_);clear hK K)
   |refine J.of rfl ?_
   |(with_reducible refine ak.aE (fun h =>?_) (fun h =>?_) <;>try simp only[h])) <;>try simp only[aH,R,simprocAttr])
  all_goals clear R
  have:a=b:=List.ext_getElem? fun k=>by
   by_cases hk:k<i
   ·exact hi2 k hk
   ·rw[List.getElem?_eq_none (by omega),List.getElem?_eq_none (by omega)]
  simp[this]
def sj(b:aA):bI 8 Int:=⟨[b.no,b.ec,b.dI,b.b5,b.iz,b.born,b.dm,if b.found then 1 else 0],rfl⟩
theorem PV(a b c d e f g h:Int):(eG [.int .i64 0,.int .i64 0,.int .i64 0,.int .i64 0,.int .i64 0,.int .i64 0,.int .i64 0,.int .i64 0] [(0,.int .i64 a),(1,.int .i64 b),(2,.int .i64 c),(3,.int .i64 d),(4,.int .i64 e),(5,.int .i64 f),(6,.int .i64 g),(7,.int .i64 h)])=some [.int .i64 a,.int .i64 b,.int .i64 c,.int .i64 d,.int .i64 e,.int .i64 f,.int .i64 g,.int .i64 h]:=by simp[eG,I.cm,I.size]
theorem alw{A:ab}{n:Nat}{w:I}{a b c d e f g h a' b' c' d' e' f' g' h':Int}{rest:List az} : dg A (some 8) n [] w (.agg [.int .i64 a,.int .i64 b,.int .i64 c,.int .i64 d,.int .i64 e,.int .i64 f,.int .i64 g,.int .i64 h]) rest (some (.agg [.int .i64 a',.int .i64 b',.int .i64 c',.int .i64 d',.int .i64 e',.int .i64 f',.int .i64 g',.int .i64 h'])) =
  ay rest (A.aN n (.box (.agg [.int .i64 a,.int .i64 b,.int .i64 c,.int .i64 d,.int .i64 e,.int .i64 f,.int .i64 g,.int .i64 h]))):=by
 refine (eD (s:=some 8) (by rfl) (by rfl) (by rfl)).trans ?_
 rw[gP]
theorem aj2{a b c d e f g h:Int} : b6 (some 8) (.agg [.int .i64 a,.int .i64 b,.int .i64 c,.int .i64 d,.int .i64 e,.int .i64 f,.int .i64 g,.int .i64 h])=true:=rfl
theorem zr(b:aA):av Tryz.prog 133 [.ref (enc (⟨b⟩:eK))] (enc (sj b)):=by
 refine av.bn Tryz.func133 Qq Sk Ux (Nat.le_of_ble_eq_true rfl) (fun hwf W0 D0 E1 =>?_)
 simp only[AK,Kx,a6]
 clear hwf
 rcases hf:b.found
 all_goals
  have R:=And.intro @hf (And.intro @PV (And.intro @alw (And.intro @aj2 ee)))
  repeat' ((first
   |(with_reducible refine .guard (fun hb =>?_) (fun hb =>?_) <;>try simp only[hb])
   |refine J.aG (by decide +kernel) rfl fun K hK =>?_
   |(refine .aw [0,2,3,8] hK ?_;clear hK K)
   |(with_reducible refine .done (hK _ ?_);clear hK K)
   |refine J.of rfl ?_
   |(with_reducible refine ak.aE (fun h =>?_) (fun h =>?_) <;>try simp only[h])) <;>try simp only[aH,R,simprocAttr])
  all_goals clear R
  simp[sj,hf];rfl
def jS:Option aA→I
 |none=>.nilp
 |some b=>.ref (enc (⟨b⟩:eK))
def oK(m:cH):Option aA→Option aA→Bool
 |some a,some b=>decide ((sj a).l=(sj b).l)&&decide ((jd m a.aY).1=(jd m b.aY).1)
 |none,none=>true
 |_,_=>false
theorem yi:mJ false (some true) (some false)=some (.bool false):=rfl
theorem OI(m:cH)(x y:Option aA):av Tryz.prog 77 [enc m,jS x,jS y] (enc (oK m x y)):=by
 rcases x with _ | a
 ·rcases y with _ | b
  all_goals
   simp only[jS,oK]
   refine av.bn Tryz.func77 vp vr vA (Nat.le_of_ble_eq_true rfl) (fun hwf W0 D0 E1 =>?_)
   simp only[sr,tU,a6,Nat.zero_add,Nat.reduceAdd]
   clear hwf
   have R:=And.intro @yi (And.intro @px (And.intro @iD ee))
   repeat' ((first
    |(with_reducible refine .guard (fun hb =>?_) (fun hb =>?_) <;>try simp only[hb])
    |refine J.aG (by decide +kernel) rfl fun K hK =>?_
    |(refine .aw [0,1,2,3,6,7,13] hK ?_;clear hK K)
    |(with_reducible refine .done (hK _ ?_);clear hK K)
    |refine J.of rfl ?_
    |(with_reducible refine ak.aE (fun h =>?_) (fun h =>?_) <;>try simp only[h])) <;>try simp only[aH,R,simprocAttr])
   all_goals clear R
 rcases y with _ | b
 ·simp only[jS,oK]
  refine av.bn Tryz.func77 vp vr vA (Nat.le_of_ble_eq_true rfl) (fun hwf W0 D0 E1 =>?_)
  simp only[sr,tU,a6,Nat.zero_add,Nat.reduceAdd]
  clear hwf
  have R:=And.intro @yi (And.intro @px (And.intro @iD ee))
  repeat' ((first
   |(with_reducible refine .guard (fun hb =>?_) (fun hb =>?_) <;>try simp only[hb])
   |refine J.aG (by decide +kernel) rfl fun K hK =>?_
   |(refine .aw [0,1,2,3,6,7,13] hK ?_;clear hK K)
   |(with_reducible refine .done (hK _ ?_);clear hK K)
   |refine J.of rfl ?_
   |(with_reducible refine ak.aE (fun h =>?_) (fun h =>?_) <;>try simp only[h])) <;>try simp only[aH,R,simprocAttr])
  all_goals clear R
 simp only[jS,oK]
 refine av.bn Tryz.func77 vp vr vA (Nat.le_of_ble_eq_true rfl) (fun hwf W0 D0 E1 =>?_)
 simp only[sr,tU,a6,Nat.zero_add,Nat.reduceAdd]
 clear hwf
 have ha:=rY m a
 have hyB:=rY m b
 have h3:=zr a
 have h4:=zr b
 have R:=And.intro @yi (And.intro @px (And.intro @iD ee))
 repeat' ((first
  |(with_reducible refine .guard (fun hb =>?_) (fun hb =>?_) <;>try simp only[hb])
  |refine J.aG (by decide +kernel) rfl fun K hK =>?_
  |refine .flat _ (h3) rfl ?_
  |refine .flat _ (h4) rfl ?_
  |refine .lead _ (ha) ?_
  |refine .lead _ (hyB) ?_
  |refine .flat _ (NH _ _) rfl ?_
  |(refine .aw [0,1,2,3,6,7,13] hK ?_;clear hK K)
  |(with_reducible refine .done (hK _ ?_);clear hK K)
  |refine J.of rfl ?_
  |(with_reducible refine ak.aE (fun h =>?_) (fun h =>?_) <;>try simp only[h])) <;>try simp only[aH,R,List.cons_append,simprocAttr])
 all_goals clear R
 all_goals simp_all
def ue(m:cH)(l:List al)(no known:Int)(i:Nat):Bool := !oK m (cB (dw l 100000 known) no) (cB (dw (eZ l i) 100000 known) no)
def jA(m:cH)(l:List al)(no known:Int)(n:Nat):List Item:=((List.range n).filter (ue m l no known)).map fun i=>(ae l i).cW
theorem akW(m:cH)(l:List al)(no known:Int)(n:Nat):jA m l no known (n+1)=jA m l no known n++if ue m l no known n then [(ae l n).cW] else []:=by
 simp only[jA,List.range_succ,List.filter_append,List.map_append,List.filter_cons,List.filter_nil]
 congr 1
 split <;>rfl
theorem akV(m:cH)(l:List al)(no known:Int)(n:Nat):(jA m l no known n).length≤n:=by
 simp only[jA,List.length_map]
 have:=List.length_filter_le (ue m l no known) (List.range n)
 simpa using this
def uf(m:cH)(l:List al)(no known:Int):List Item×Int:=if (lq m l no known).2=0 then (jA m l no known l.length,0) else ([],(lq m l no known).2)
theorem Pw{m:cH}{l:List al}{no known:Int}(h:(lq m l no known).2=0):df l=true:=by
 simp only[lq] at h
 repeat' split at h
 all_goals first | (exact kD (by assumption)) | (simp_all;done) | exact kD h
theorem JT(p:Nat→Bool)(x:Option aA):(jS x).only p=true:=by cases x <;>simp[jS,I.only,bB]
theorem JI{l:List al} : df l=true↔l.length≤60∧(∀ x∈l,hE x=true)∧l.Pairwise fun a b=>before a.cW b.cW=true:=by
 constructor
 ·intro h
  refine ⟨ke h,fun x hx =>?_,List.pairwise_iff_getElem.2 fun i j hi hj hij =>?_⟩
  ·obtain ⟨i,hi,rfl⟩:=List.getElem_of_mem hx
   have:=tK h hi
   rwa [←kI hi] at this
  ·have:=JJ h hij hj
   rwa [←kI hi,←kI hj] at this
 ·rintro ⟨h1,h2,h3⟩
  refine x4 h1 fun i hi =>?_
  simp only[il,Bool.and_eq_true,Bool.or_eq_true,decide_eq_true_eq]
  refine ⟨by rw[←kI hi];exact h2 _ (List.getElem_mem hi),?_⟩
  by_cases h0:i=0
  ·exact .inl h0
  ·right
   have:=List.pairwise_iff_getElem.1 h3 (i-1) i (by omega) hi (by omega)
   rwa [kI,kI] at this
theorem ajT{l l':List al}(hs:l'.Sublist l)(h:df l=true):df l'=true:=by
 obtain ⟨h1,h2,h3⟩:=JI.1 h
 exact JI.2 ⟨Nat.le_trans hs.length_le h1,fun x hx=>h2 x (hs.subset hx),h3.sublist hs⟩
theorem WY(l:List al)(i:Nat):(eZ l i).Sublist l:=by
 have:=(List.take_append_drop i l)
 simp only[eZ]
 conv=>rhs;rw[←this]
 refine List.Sublist.append_left ?_ _
 rw[←List.drop_drop]
 exact List.drop_sublist _ _
theorem ajS{l:List al}(hok:df l=true)(i:Nat):df (eZ l i)=true:=ajT (WY l i) hok
theorem Ob(m:cH)(l:List al)(no known:Int):av Tryz.prog 18 [enc m,enc l,enc no,enc known] (.tuple [enc (uf m l no known).1,enc (uf m l no known).2]):=by
 refine av.bn Tryz.func18 Q0 SY U9 (Nat.le_of_ble_eq_true rfl) (fun hwf W0 D0 E1 =>?_)
 simp only[Bp,K8,a6,Nat.zero_add,Nat.reduceAdd]
 clear hwf
 have hC:=uI m l no known
 simp only[uf]
 have hok0:=Pw (m:=m) (l:=l) (no:=no) (known:=known)
 generalize lq m l no known=e at hC hok0 ⊢
 obtain ⟨e1,e2⟩:=e
 simp only at hC hok0 ⊢
 by_cases he:e2=0
 case neg =>
  have hn:=lQ he
  have R:=And.intro @hn (And.intro @he (And.intro @iD ee))
  repeat' ((first
   |(with_reducible refine .guard (fun hb =>?_) (fun hb =>?_) <;>try simp only[hb])
   |refine J.aG (by decide +kernel) rfl fun K hK =>?_
   |refine .lead _ (hC) ?_
   |(refine .aw [0,1,2,3,4,8,9,11,12,13,14,15,25,35,36,37,38,55] hK ?_;clear hK K)
   |(with_reducible refine .done (hK _ ?_);clear hK K)
   |refine J.of rfl ?_
   |(with_reducible refine ak.aE (fun h =>?_) (fun h =>?_) <;>try simp only[h])) <;>try simp only[aH,R,simprocAttr])
  all_goals clear R
  all_goals rfl
 have hn:=lP he
 have hok:=hok0 he
 subst he
 have hF:=ql l known hok
 have hk:=qZ (dw l 100000 known) no
 have hx:gp (.i .i64) .nilp (.int .i64 no) (dp (dw l 100000 known)) ((dw l 100000 known).map fun b=>.ref (enc (⟨b⟩:eK)))=some (jS (cB (dw l 100000 known) no),(cB (dw l 100000 known) no).isSome):=by
  rw[hk];cases cB (dw l 100000 known) no <;>rfl
 have hlen:=ke hok
 have R:=And.intro @hn (And.intro @hx (And.intro @iD ee))
 repeat' ((first
  |(with_reducible refine .guard (fun hb =>?_) (fun hb =>?_) <;>try simp only[hb])
  |refine J.aG (by decide +kernel) rfl fun K hK =>?_
  |refine .lead _ (hC) ?_
  |refine .lead _ (hF) ?_
  |(refine .aw [0,1,2,3,4,8,9,11,12,13,14,15,25,35,36,37,38,55] hK ?_;clear hK K)
  |(with_reducible refine .done (hK _ ?_);clear hK K)
  |refine J.of rfl ?_
  |(with_reducible refine ak.aE (fun h =>?_) (fun h =>?_) <;>try simp only[h])) <;>try simp only[aH,R,simprocAttr])
 all_goals clear R
 refine J.loop (fun i:Nat=>aq [(1,enc l),(2,.int .i64 no),(3,.int .i64 known),(4,.ptr 4 []),(12,jS (cB (dw l 100000 known) no)),(13,.own 913 (jA m l no known i).length),(35,enc l),(36,.int .i64 l.length),(37,.int .i64 i)] [(4,.box (enc m)),(913,.bT 65 2 ((jA m l no known i).map enc))]) (fun i=>i≤l.length) (fun i=>l.length-i) 0 (Nat.zero_le _) ?_ (fun i hi =>?_)
 ·refine aC.ln 13 913 65 2 2 rfl rfl ?_
  simp only[jA,List.range_zero,List.filter_nil,List.map_nil,List.length_nil]
  refine aC.bZ ?_ ?_ ?_ ?_ <;>simp[*,aX,bO,bM,bt,ao,aW,cA,I.only,I.bP,ah.only,bB,JT]
 have hRl:=akV m l no known i
 by_cases hlt:i<l.length
 ·have hc:=fy hlt
  have he:=fun A=>gJ (A:=A) hlt
  have hw:=eH (i:=i) (by omega)
  have hD:=OJ l i hlt hlen
  have hokd:=ajS hok i
  have hF2:=ql (eZ l i) known hokd
  have hk2:=qZ (dw (eZ l i) 100000 known) no
  have hx2:gp (.i .i64) .nilp (.int .i64 no) (dp (dw (eZ l i) 100000 known)) ((dw (eZ l i) 100000 known).map fun b=>.ref (enc (⟨b⟩:eK)))=some (jS (cB (dw (eZ l i) 100000 known) no),(cB (dw (eZ l i) 100000 known) no).isSome):=by
   rw[hk2];cases cB (dw (eZ l i) 100000 known) no <;>rfl
  have hS:=OI m (cB (dw l 100000 known) no) (cB (dw (eZ l i) 100000 known) no)
  have hsu:=akW m l no known i
  have hp:ue m l no known i = !oK m (cB (dw l 100000 known) no) (cB (dw (eZ l i) 100000 known) no):=rfl
  rw[hp] at hsu
  generalize oK m (cB (dw l 100000 known) no) (cB (dw (eZ l i) 100000 known) no)=b at hS hsu
  have happ:=fun (A:ab) d rest=>jr (α:=Item) (A:=A) (d:=d) 65 2 16 913 (l:=(jA m l no known i).length) (es:=jA m l no known i) (ys:=[(ae l i).cW]) (rest:=rest) rfl rfl (by simp) (by simp[maxLen];omega) (by simp;omega)
  have hbs:=nX 2 (ae l i).cW rfl
  have hol:(∀ aB A x,bd aB A (jS x)=some (jS x)):=fun aB A x=>by cases x <;>simp[jS,bd,dP]
  cases b
  all_goals
   simp only[Bool.not_true,Bool.not_false,if_true,Bool.false_eq_true,if_false,List.append_nil] at hsu
   have R:=And.intro @hc (And.intro @he (And.intro @hw (And.intro @hx2 (And.intro @happ (And.intro @hbs (And.intro @hol (And.intro @iD ee)))))))
   repeat' ((first
    |(with_reducible refine .guard (fun hb =>?_) (fun hb =>?_) <;>try simp only[hb])
    |refine J.aG (by decide +kernel) rfl fun K hK =>?_
    |refine .lead _ (hD) ?_
    |refine .lead _ (hF2) ?_
    |refine .flat _ (hS) rfl ?_
    |(refine .aw [0,1,2,3,4,8,9,11,12,13,14,15,25,35,36,37,38,55] hK ?_;clear hK K)
    |(with_reducible refine .done (hK _ ?_);clear hK K)
    |refine J.of rfl ?_
    |(with_reducible refine ak.aE (fun h =>?_) (fun h =>?_) <;>try simp only[h])) <;>try simp only[aH,R,simprocAttr])
   all_goals clear R
   refine ⟨i+1,by omega,by omega,?_⟩
   simp only[hsu]
   refine aC.bZ ?_ ?_ ?_ ?_ <;>simp[*,aX,bO,bM,bt,ao,aW,cA,I.only,I.bP,ah.only,dU,gv,bB,JT]
 ·have hc:=fD hlt
  have hie:i=l.length:=by omega
  subst hie
  have hfo:oc (jA m l no known l.length).length (some (.bT 65 2 ((jA m l no known l.length).map enc)))=some (enc (jA m l no known l.length)):=lF 2 rfl rfl
  have R:=And.intro @hc (And.intro @hfo (And.intro @bh (And.intro @aK @U)))
  repeat' ((first
   |(with_reducible refine .guard (fun hb =>?_) (fun hb =>?_) <;>try simp only[hb])
   |refine J.aG (by decide +kernel) rfl fun K hK =>?_
   |(refine .aw [0,1,2,3,4,8,9,11,12,13,14,15,25,35,36,37,38,55] hK ?_;clear hK K)
   |(with_reducible refine .done (hK _ ?_);clear hK K)
   |refine J.of rfl ?_
   |(with_reducible refine ak.aE (fun h =>?_) (fun h =>?_) <;>try simp only[h])) <;>try simp only[aH,R,simprocAttr])
  all_goals clear R
theorem zG(a b:List Item):av Tryz.prog 21 [enc a,enc b] (enc (decide (a=b))):=by
 refine av.bn Tryz.func21 Rb S9 Vk (Nat.le_of_ble_eq_true rfl) (fun hwf W0 D0 E1 =>?_)
 simp only[BB,Lj,a6,Nat.zero_add]
 have hlen:a.length≤maxLen:=((jZ a).1 hwf.1).1
 simp only[maxLen] at hlen
 clear hwf
 by_cases hl:a.length=b.length
 case neg =>
  have hn:((a.length:Int) != (b.length:Int))=true:=by simp;omega
  have R:=And.intro @hn (And.intro @bh (And.intro @aK @U))
  repeat' ((first
   |(with_reducible refine .guard (fun hb =>?_) (fun hb =>?_) <;>try simp only[hb])
   |refine J.aG (by decide +kernel) rfl fun K hK =>?_
   |(refine .aw [0,1,4,5,10,14,25] hK ?_;clear hK K)
   |(with_reducible refine .done (hK _ ?_);clear hK K)
   |refine J.of rfl ?_
   |(with_reducible refine ak.aE (fun h =>?_) (fun h =>?_) <;>try simp only[h])) <;>try simp only[aH,R,simprocAttr])
  all_goals clear R
  have:¬ a=b:=fun e=>hl (by rw[e])
  simp[this]
 have hn:((a.length:Int) != (b.length:Int))=false:=by simp;omega
 have R:=And.intro @hn (And.intro @bh (And.intro @aK @U))
 repeat' ((first
  |(with_reducible refine .guard (fun hb =>?_) (fun hb =>?_) <;>try simp only[hb])
  |refine J.aG (by decide +kernel) rfl fun K hK =>?_
  |(refine .aw [0,1,4,5,10,14,25] hK ?_;clear hK K)
  |(with_reducible refine .done (hK _ ?_);clear hK K)
  |refine J.of rfl ?_
  |(with_reducible refine ak.aE (fun h =>?_) (fun h =>?_) <;>try simp only[h])) <;>try simp only[aH,R,simprocAttr])
 all_goals clear R
 refine J.loop (fun i:Nat=>aq [(0,enc a),(1,enc b),(5,.int .i64 i)] []) (fun i=>i≤a.length∧∀ k,k<i→a[k]?=b[k]?) (fun i=>a.length-i) 0 ⟨Nat.zero_le _,fun k h=>by omega⟩ ?_ (fun i hi =>?_)
 ·refine aC.bZ ?_ ?_ ?_ ?_ <;>simp[aX,bO,bM,bt,aW,I.only,bB]
 obtain ⟨hi1,hi2⟩:=hi
 by_cases hlt:i<a.length
 ·have hc:=fy hlt
  have he:=fun A=>eA (A:=A) 2 hlt rfl
  have hlt2:i<b.length:=by omega
  have he2:=fun A=>eA (A:=A) 2 hlt2 rfl
  have hw:=eH (i:=i) (by omega)
  rcases hp:decide (a[i]=b[i])
  ·have R:=And.intro @hc (And.intro @he (And.intro @he2 (And.intro @hp (And.intro @lR (And.intro @bh (And.intro @aK @U))))))
   repeat' ((first
    |(with_reducible refine .guard (fun hb =>?_) (fun hb =>?_) <;>try simp only[hb])
    |refine J.aG (by decide +kernel) rfl fun K hK =>?_
    |(refine .aw [0,1,4,5,10,14,25] hK ?_;clear hK K)
    |(with_reducible refine .done (hK _ ?_);clear hK K)
    |refine J.of rfl ?_
    |(with_reducible refine ak.aE (fun h =>?_) (fun h =>?_) <;>try simp only[h])) <;>try simp only[aH,R,simprocAttr])
   all_goals clear R
   have:¬ a=b:=fun e=>by subst e;simp at hp
   simp[this]
  ·have R:=And.intro @hc (And.intro @he (And.intro @he2 (And.intro @hp (And.intro @hw (And.intro @lR (And.intro @bh (And.intro @aK @U)))))))
   repeat' ((first
    |(with_reducible refine .guard (fun hb =>?_) (fun hb =>?_) <;>try simp only[hb])
    |refine J.aG (by decide +kernel) rfl fun K hK =>?_
    |(refine .aw [0,1,4,5,10,14,25] hK ?_;clear hK K)
    |(with_reducible refine .done (hK _ ?_);clear hK K)
    |refine J.of rfl ?_
    |(with_reducible refine ak.aE (fun h =>?_) (fun h =>?_) <;>try simp only[h])) <;>try simp only[aH,R,simprocAttr])
   all_goals clear R
   refine ⟨i+1,⟨by omega,fun k hk =>?_⟩,by omega,?_⟩
   ·by_cases e:k=i
    ·subst e
     have:a[k]=b[k]:=by simpa using hp
     simp[hlt,hlt2,this]
    ·exact hi2 k (by omega)
   ·refine aC.bZ ?_ ?_ ?_ ?_ <;>simp[aX,bO,bM,bt,aW,I.only,bB]
 ·have hc:=fD hlt
  have R:=And.intro @hc (And.intro @bh (And.intro @aK @U))
  repeat' ((first
   |(with_reducible refine .guard (fun hb =>?_) (fun hb =>?_) <;>try simp only[hb])
   |refine J.aG (by decide +kernel) rfl fun K hK =>?_
   |(refine .aw [0,1,4,5,10,14,25] hK ?_;clear hK K)
   |(with_reducible refine .done (hK _ ?_);clear hK K)
   |refine J.of rfl ?_
   |(with_reducible refine ak.aE (fun h =>?_) (fun h =>?_) <;>try simp only[h])) <;>try simp only[aH,R,simprocAttr])
  all_goals clear R
  have:a=b:=List.ext_getElem? fun k=>by
   by_cases hk:k<i
   ·exact hi2 k hk
   ·rw[List.getElem?_eq_none (by omega),List.getElem?_eq_none (by omega)]
  simp[this]
def jH(a b c d e f:Int):bI 6 Int:=⟨[a,b,c,d,e,f],rfl⟩
def Pt(a b c d e:Int):bI 5 Int:=⟨[a,b,c,d,e],rfl⟩
def lC(n k d kn b dI s o:Int)(r:bI 6 Int)(f:Int):al:=⟨⟨0,n⟩,k,d,kn,b,dI,s,o,r,⟨0,f⟩⟩
def iV:List al:=[lC 0 1 1 1 10 0 3 2 (jH 0 0 0 0 0 0) 0,lC 1 1 5 5 11 10 3 2 (jH 0 0 0 0 0 0) 0,lC 2 2 6 6 20 0 3 0 (jH 0 0 0 0 0 0) 0,lC 3 4 6 6 20 0 0 0 (jH 31 1 1 1 1 31) 0,lC 4 3 7 7 10 0 0 1 (jH 0 0 0 0 0 0) 0,
 lC 5 4 6 9 20 0 0 0 (jH 24 1 1 1 1 31) 0,lC 6 5 10 10 20 0 0 3 (jH 0 0 0 0 0 0) 0,lC 7 4 8 11 11 0 0 0 (jH 1 1 1 1 1 1) 0,lC 8 6 12 12 10 0 0 0 (jH 0 0 0 0 0 0) 0,lC 9 0 0 14 0 0 0 0 (jH 0 0 0 0 0 0) 5]
def lD:cH:=⟨Pt 1 3 4 24 24,0,[⟨1,jH 0 0 0 0 0 0⟩,⟨2,jH 2 0 0 0 0 0⟩,⟨3,jH 3 0 0 0 0 2⟩]⟩
theorem OL:av Tryz.prog 81 [] (enc iV):=by
 refine av.bn Tryz.func81 RJ TH VR (Nat.le_of_ble_eq_true rfl) (fun hwf W0 D0 E1 =>?_)
 simp only[Ca,LR,a6]
 clear hwf
 refine .au (by decide +kernel) fun K hK =>?_
 simp only[Ih,U,simprocAttr]
 refine .done (hK _ ?_);clear hK K
 refine .au (by decide +kernel) fun K hK =>?_
 simp only[Ii,U,simprocAttr]
 try simp only[eG,I.cm,I.size,I.sizes,List.set_cons_zero,List.set_cons_succ,List.getElem?_cons_zero,List.getElem?_cons_succ,and_self,U,simprocAttr]
 simp only[ig]
 rw[if_pos ⟨by rfl,by rfl⟩]
 try simp only[U,simprocAttr]
 refine .done (hK _ ?_);clear hK K
 refine J.ret ?_
 simp only[U,simprocAttr]
 try simp only[Bool.and_self,U,simprocAttr]
 rfl
theorem OM:av Tryz.prog 82 [] (enc lD):=by
 refine av.bn Tryz.func82 RK TI VS (Nat.le_of_ble_eq_true rfl) (fun hwf W0 D0 E1 =>?_)
 simp only[Cb,LS,a6]
 clear hwf
 refine .au (by decide +kernel) fun K hK =>?_
 simp only[Ij,U,simprocAttr]
 refine .done (hK _ ?_);clear hK K
 refine .au (by decide +kernel) fun K hK =>?_
 simp only[Ik,U,simprocAttr]
 try simp only[eG,I.cm,I.size,I.sizes,List.set_cons_zero,List.set_cons_succ,List.getElem?_cons_zero,List.getElem?_cons_succ,and_self,U,simprocAttr]
 simp only[ig]
 rw[if_pos ⟨by rfl,by rfl⟩]
 try simp only[eG,I.cm,I.size,I.sizes,List.set_cons_zero,List.set_cons_succ,List.getElem?_cons_zero,List.getElem?_cons_succ,and_self,U,simprocAttr]
 rw[eD (by rfl) (by rfl) (by rfl)]
 try simp only[gP,U,simprocAttr]
 refine .done (hK _ ?_);clear hK K
 refine J.ret ?_
 simp only[U,simprocAttr]
 rw[if_pos (by rfl)]
 try simp only[Bool.and_self,U,simprocAttr]
 rfl
def oo(x:Int):List Int→List Int
 | []=>[x]
 |y::l=>if x≤y then x::y::l else y::oo x l
def lJ:List Int→List Int
 | []=>[]
 |x::l=>oo x (lJ l)
theorem xu(x:Int):∀ l,(oo x l).Perm (x::l)
 | []=>.refl _
 |y::l=>by
  simp only[oo]
  split
  ·exact .refl _
  ·exact ((xu x l).cons y).trans (.swap x y l)
theorem IX(x:Int):∀ l:List Int,l.Pairwise (· ≤ ·)→(oo x l).Pairwise (· ≤ ·)
 | [],_=>by simp[oo]
 |y::l,h=>by
  obtain ⟨h1,h2⟩:=List.pairwise_cons.1 h
  simp only[oo]
  split
  ·rename_i hxy
   refine List.pairwise_cons.2 ⟨fun z hz =>?_,h⟩
   rcases List.mem_cons.1 hz with rfl | hz
   ·exact hxy
   ·have:=h1 z hz;omega
  ·refine List.pairwise_cons.2 ⟨fun z hz =>?_,IX x l h2⟩
   rcases List.mem_cons.1 ((xu x l).mem_iff.1 hz) with rfl | hz
   ·omega
   ·exact h1 z hz
theorem I4:∀ l,(lJ l).Perm l
 | []=>.refl _
 |x::l=>(xu x _).trans ((I4 l).cons x)
theorem I5:∀ l,(lJ l).Pairwise (· ≤ ·)
 | []=>.nil
 |x::l=>IX x _ (I5 l)
theorem alv{a b:List Int}(ha:a.Pairwise (· ≤ ·))(hb:b.Pairwise (· ≤ ·))(h:a.Perm b):a=b :=
 List.Perm.eq_of_pairwise (fun x y _ _ h k=>Int.le_antisymm h k) ha hb h
theorem yV(l:List Int):(du l).Pairwise (· ≤ ·):=by
 have hx:=List.pairwise_mergeSort (le:=fun x y:Int=>decide (x≤y)) (by intro a b c;simp;omega) (by intro a b;simp;omega) l
 exact hx.imp fun {a b} h=>by simpa using h
theorem oO(l:List Int):(du l).Perm l:=List.mergeSort_perm _ _
theorem MG(l:List Int):du l=lJ l:=alv (yV l) (I5 l) ((oO l).trans (I4 l).symm)
theorem XC:s9 iV 10 6 7=(2,0):=by decide +kernel
theorem XD:lq lD iV 20 9=([3],0):=by decide +kernel
theorem XE:lq lD iV 20 14=([1,2,3],0):=by decide +kernel
theorem XF:rQ lD iV 11=([11],0):=by
 simp only[rQ,MG];decide +kernel
theorem XG:sx iV 2 3 7 7=(1,0):=by decide +kernel
theorem XH:qu iV 12 12=([11,20],0):=by
 simp only[qu,MG];decide +kernel
theorem XI:uf lD iV 20 9=([⟨0,2⟩,⟨0,5⟩],0):=by decide +kernel
theorem PW(b:Int):eG [.int .i64 0,.int .i64 0] [(1,.int .i64 b)]=some [.int .i64 0,.int .i64 b]:=by simp[eG,I.cm,I.size]
theorem P3(a b c d:Int):ig 2 (some [.agg [.int .i64 a,.int .i64 b],.agg [.int .i64 c,.int .i64 d]])=some (enc ([⟨a,b⟩,⟨c,d⟩]:List Item)):=na (ys:=([⟨a,b⟩,⟨c,d⟩]:List Item)) 2 rfl
theorem P2(a b c:Int):ig 1 (some [.int .i64 a,.int .i64 b,.int .i64 c])=some (enc [a,b,c]):=na (ys:=[a,b,c]) 1 rfl
theorem alD{A:ab}{n:Nat}{b:I}(m:cH)(x y z:I){rest:List az}(h:I.aR (.agg [x,y,z])=Enc.aR cH):dg A (some 7) n [] b (enc m) rest (some (.agg [x,y,z]))=ay rest (A.aN n (.box (enc m))):=by
 refine (eD (s:=some 7) (dQ _) (by rw[fX];rfl) ((eM m).trans h.symm)).trans ?_
 rw[gP]
theorem Ot:av Tryz.prog 22 [] (enc true):=by
 have h1:=Ov iV 10 6 7
 have h2:=uI lD iV 20 9
 have h3:=uI lD iV 20 14
 have h4:=NT lD iV 11
 have h5:=Ow iV 2 3 7 7
 have h6:=Ou iV 12 12
 have h7:=Ob lD iV 20 9
 rw[XC] at h1
 rw[XD] at h2
 rw[XE] at h3
 rw[XF] at h4
 rw[XG] at h5
 rw[XH] at h6
 rw[XI] at h7
 simp only at h1 h2 h3 h4 h5 h6 h7
 have h8:=fun a b=>uL a b
 refine av.bn Tryz.func22 Rh Te Vp (Nat.le_of_ble_eq_true rfl) (fun hwf W0 D0 E1 =>?_)
 simp only[BG,Lo,a6]
 clear hwf
 have hst:=fun (A:ab) (rest:List az)=>alD (A:=A) (n:=2) (b:=.agg [.agg [.int .i64 0,.int .i64 0,.int .i64 0,.int .i64 0,.int .i64 0],.int .i64 0,.nils 7]) lD (.agg [.int .i64 0,.int .i64 0,.int .i64 0,.int .i64 0,.int .i64 0]) (.int .i64 0) (.nils 7) (rest:=rest) rfl
 have q1:((2:Int)==2)=true:=rfl
 have q2:((1:Int)==1)=true:=rfl
 have q3:((0:Int)==0)=true:=rfl
 have R:=And.intro @hst (And.intro @q1 (And.intro @q2 (And.intro @q3 (And.intro @iD (And.intro @PW (And.intro @P3 (And.intro @iO (And.intro @qz (And.intro @P2 (And.intro @aK @U))))))))))
 repeat' ((first
  |(with_reducible refine .guard (fun hb =>?_) (fun hb =>?_) <;>try simp only[hb])
  |refine J.aG (by decide +kernel) rfl fun K hK =>?_
  |refine .lead _ (OL) ?_
  |refine .lead _ (OM) ?_
  |refine .flat _ (h1) rfl ?_
  |refine .lead _ (h2) ?_
  |refine .lead _ (h3) ?_
  |refine .lead _ (h4) ?_
  |refine .flat _ (h5) rfl ?_
  |refine .lead _ (h6) ?_
  |refine .lead _ (h7) ?_
  |refine .flat _ (uL _ _) rfl ?_
  |refine .flat _ (zG _ _) rfl ?_
  |(refine .aw [0,1,2,3,4,5,6,7,8,9,10,11,12,13,14,15,16,17] hK ?_;clear hK K)
  |(with_reducible refine .done (hK _ ?_);clear hK K)
  |refine J.of rfl ?_
  |(with_reducible refine ak.aE (fun h =>?_) (fun h =>?_) <;>try simp only[h])) <;>try simp only[aH,R,decide_true,simprocAttr])
 all_goals clear R
 all_goals trace_state
theorem ahm(l:List al)(day known:Int)(no:Int):cB (oB l day known).qy no=cB (dw l day known) no:=by
 obtain ⟨k1,k2,k3⟩:=J5 r6 r7 l (fe l day known)
 exact (xc k1 k2 no).symm
theorem OQ(l:List al)(no known:Int):av Tryz.prog 92 [enc l,enc no,enc known] (enc (dX l [eR no 9999] [known])):=by
 have hF:=rX l
 refine av.bn Tryz.func92 RQ TO VY (Nat.le_of_ble_eq_true rfl) (fun hwf W0 D0 E1 =>?_)
 simp only[Ch,LZ,a6,Nat.zero_add,Nat.reduceAdd]
 clear hwf
 simp only[dX]
 rcases q1:df l
 ·rw[q1,if_neg (by decide)] at hF
  have R:=And.intro @aK @U
  repeat' ((first
   |(with_reducible refine .guard (fun hb =>?_) (fun hb =>?_) <;>try simp only[hb])
   |refine J.aG (by decide +kernel) rfl fun K hK =>?_
   |refine .flat _ (hF) rfl ?_
   |(refine .aw [0,1,2,6,9,12,15] hK ?_;clear hK K)
   |(with_reducible refine .done (hK _ ?_);clear hK K)
   |refine J.of rfl ?_
   |(with_reducible refine ak.aE (fun h =>?_) (fun h =>?_) <;>try simp only[h])) <;>try simp only[aH,R,Nat.reduceEqDiff,reduceIte,Int.reduceBNe,Nat.reduceBEq])
  all_goals clear R
 ·rw[q1,if_pos rfl] at hF
  have e1:([eR no 9999].all fun n=>ca 1 (n.g 1) (n.g 0))=ca 1 9999 no:=by simp[eR,bI.g]
  have e2:([known].any fun d => !ca 0 100000 d) = !ca 0 100000 known:=by simp
  rw[e1,e2]
  rcases q2:ca 1 9999 no <;>rcases q3:ca 0 100000 known
  all_goals
   have R:=And.intro @q2 (And.intro @q3 (And.intro @aK @U))
   repeat' ((first
    |(with_reducible refine .guard (fun hb =>?_) (fun hb =>?_) <;>try simp only[hb])
    |refine J.aG (by decide +kernel) rfl fun K hK =>?_
    |refine .flat _ (hF) rfl ?_
    |refine .flat _ (nP _ _ _) rfl ?_
    |refine .flat _ (qm _) rfl ?_
    |(refine .aw [0,1,2,6,9,12,15] hK ?_;clear hK K)
    |(with_reducible refine .done (hK _ ?_);clear hK K)
    |refine J.of rfl ?_
    |(with_reducible refine ak.aE (fun h =>?_) (fun h =>?_) <;>try simp only[h])) <;>try simp only[aH,R,Nat.reduceEqDiff,reduceIte,Int.reduceBNe,Nat.reduceBEq])
   all_goals clear R
def ve:aA:=⟨0,0,0,0,0,0,0,false,[]⟩
def ku:I:=.agg [.int .i64 0,.int .i64 0,.int .i64 0,.int .i64 0,.int .i64 0,.int .i64 0,.int .i64 0,.bool false,.nils 6]
theorem oa:I.agg [.int .i64 0,.int .i64 0,.int .i64 0,.int .i64 0,.int .i64 0,.int .i64 0,.int .i64 0,.bool false,.nils 6]=ku:=rfl
theorem oV:(∀ (A:ab) n w rest,dg A (some 9) n [] w ku rest (some ku)=ay rest (A.aN n (.box ku)))∧(∀ (A:ab) n w (b:aA) rest,dg A (some 9) n [] w (enc b) rest (some ku)=ay rest (A.aN n (.box (enc b)))) ∧
  (∀ aB A,bd aB A ku=some (enc ve))∧b6 (some 9) ku=true∧((eG [.int .i64 0,.int .i64 0,.int .i64 0,.int .i64 0,.int .i64 0,.int .i64 0,.int .i64 0,.bool false,.nils 6] []).map .agg=some ku)∧(ku.cm=true) :=
 ⟨fun A n w rest=>by rw[eD (s:=some 9) (v:=ku) (old:=ku) rfl rfl rfl,gP],fun A n w b rest=>oP,fun aB A=>by simp[ku,bd,bY];rfl,rfl,rfl,rfl⟩
def nW(l:List al)(no known:Int):aA×Int:=if dX l [eR no 9999] [known]=0 then (match cB (dw l 100000 known) no with
 |none=>(ve,42)
 |some b=>(b,0)) else (ve,dX l [eR no 9999] [known])
theorem OE(l:List al)(no known:Int):av Tryz.prog 46 [enc l,enc no,enc known] (.tuple [enc (nW l no known).1,enc (nW l no known).2]):=by
 have hC:=OQ l no known
 refine av.bn Tryz.func46 Rs Tq VA (Nat.le_of_ble_eq_true rfl) (fun hwf W0 D0 E1 =>?_)
 simp only[BR,Lz,a6,Nat.zero_add,Nat.reduceAdd]
 clear hwf
 simp only[nW]
 generalize hc:dX l [eR no 9999] [known]=e at hC ⊢
 by_cases he:e=0
 ·have hn:=lP he
  subst he
  have hok:=kD hc
  have hF:=zJ l known 100000 hok
  have hg:=ahm l 100000 known no
  rw[←hg]
  generalize oB l 100000 known=p at hF hg ⊢
  have hI:=m3 p.qy no
  rcases nt p.qy no with ⟨g1,e1⟩ | ⟨k,hk,g1,g2,e1⟩
  ·rw[e1] at hI
   rw[g1]
   have hg2:decide ((-1:Int)<0)=true:=rfl
   have R:=And.intro @hn (And.intro @hg2 (And.intro @oa (And.intro @oV (And.intro @yX (And.intro @x2 (And.intro @vP (And.intro @rl (And.intro @cC (And.intro @aK @U)))))))))
   repeat' ((first
    |(with_reducible refine .guard (fun hb =>?_) (fun hb =>?_) <;>try simp only[hb])
    |refine J.aG (by decide +kernel) rfl fun K hK =>?_
    |refine .flat _ (hC) rfl ?_
    |refine .lead _ (hF) ?_
    |refine .flat _ (hI) rfl ?_
    |(refine .aw [0,1,2,6,7,8,9,10,16,27] hK ?_;clear hK K)
    |(with_reducible refine .done (hK _ ?_);clear hK K)
    |refine J.of rfl ?_
    |(with_reducible refine ak.aE (fun h =>?_) (fun h =>?_) <;>try simp only[h])) <;>try simp only[aH,R,Nat.reduceEqDiff,reduceIte,Nat.reduceBEq])
   all_goals clear R
  ·rw[e1] at hI
   rw[g1]
   have hg3:decide ((k:Int)<0)=false:=by simp
   have hek:=fun A=>eA (A:=A) 9 hk rfl
   have R:=And.intro @hn (And.intro @hg3 (And.intro @hek (And.intro @oa (And.intro @oV (And.intro @yX (And.intro @x2 (And.intro @vP (And.intro @rl (And.intro @cC (And.intro @aK @U))))))))))
   repeat' ((first
    |(with_reducible refine .guard (fun hb =>?_) (fun hb =>?_) <;>try simp only[hb])
    |refine J.aG (by decide +kernel) rfl fun K hK =>?_
    |refine .flat _ (hC) rfl ?_
    |refine .lead _ (hF) ?_
    |refine .flat _ (hI) rfl ?_
    |(refine .aw [0,1,2,6,7,8,9,10,16,27] hK ?_;clear hK K)
    |(with_reducible refine .done (hK _ ?_);clear hK K)
    |refine J.of rfl ?_
    |(with_reducible refine ak.aE (fun h =>?_) (fun h =>?_) <;>try simp only[h])) <;>try simp only[aH,R,Nat.reduceEqDiff,reduceIte,Nat.reduceBEq])
   all_goals clear R
 ·have hn:=lQ he
  have R:=And.intro @hn (And.intro @he (And.intro @oa (And.intro @oV (And.intro @aK @U))))
  repeat' ((first
   |(with_reducible refine .guard (fun hb =>?_) (fun hb =>?_) <;>try simp only[hb])
   |refine J.aG (by decide +kernel) rfl fun K hK =>?_
   |refine .flat _ (hC) rfl ?_
   |(refine .aw [0,1,2,6,7,8,9,10,16,27] hK ?_;clear hK K)
   |(with_reducible refine .done (hK _ ?_);clear hK K)
   |refine J.of rfl ?_
   |(with_reducible refine ak.aE (fun h =>?_) (fun h =>?_) <;>try simp only[h])) <;>try simp only[aH,R,Nat.reduceEqDiff,reduceIte,Nat.reduceBEq])
  all_goals clear R
def jn(xs:List Int):List (Nat×ah):=[(1000002,.box (.own 1000080 xs.length)),(1000080,.bT 3 1 (xs.map enc))]
theorem aly(xs ys:List Int):fr (jn xs) (jn ys):=by
 refine ⟨fun n=>by simp only[jn,ao,ai];(repeat' split) <;>rfl,fun n x h =>?_,fun n h =>?_⟩
 ·simp only[jn,ai] at h
  repeat' split at h
  all_goals first | (cases h;done) | (simp only[Option.some.injEq] at h;subst h;exact ⟨by simp[jn,ao,ai,ah.only,I.only,dU],rfl⟩)
 ·simp only[jn,ao,ai] at h
  repeat' split at h
  all_goals first | omega | (simp at h;done)
theorem alL(l:List al)(known:Int):(ed l known).length≤l.length:=by
 have:=List.length_filter_le (fun i=>(ep l known).getD i false) (List.range l.length)
 rwa [List.length_range] at this
theorem NN(l:List al)(known:Int)(hl:l.length≤60):cz Tryz.prog 144 [.nils 1,.func 146 [.ref (enc l),.ref (enc (ep l known))]] [] (fun r os'=>r=enc (bL (ed l known))∧os'=[]):=by
 refine cz.bn Tryz.func144 Qz Sv UG (Nat.le_of_ble_eq_true rfl) (Nat.le_of_ble_eq_true rfl) (fun n h=>by simp[ao,ai] at h) (fun hwf W0 D0 E1 =>?_)
 simp only[AT,KG,a6,Nat.zero_add]
 clear hwf
 refine .au (by decide +kernel) fun K hK =>?_
 simp only[Fg,U,simprocAttr]
 refine .done (hK _ ?_);clear hK K
 refine J.seq (J.seq ?_)
 refine .bV (by decide +kernel) fun K hK =>?_
 simp only[Fh,U,simprocAttr]
 try simp only[aK,U,simprocAttr]
 refine .done (hK _ ?_);clear hK K;try simp only[aF]
 refine J.sub (aC.zT 2 80 3 1 1 [] _ rfl rfl rfl (B:=aq [(2,.ptr 2 []),(6,.func 146 [.ref (enc l),.ref (enc (ep l known))])] [(2,.box (.own 80 0)),(80,.bT 3 1 [])]) ?_) ?_
 ·simp only[gP]
  refine aC.bZ ?_ ?_ ?_ ?_ <;>simp[aX,bO,bM,bt,ao,aW,cA,I.only,I.bP,ah.only,bB]
 refine J.block (J.jU (osb0:=jn []) (tsR:=[(2,.ptr 1000002 [])]) (ρ:=[(1999999,999999),(1000002,2),(1000080,80)])
  (fun k os=>os=jn (bL ((ed l known).take k)))
  (fun _ _=>False)
  rfl (Nat.le_of_ble_eq_true rfl) (by simp only[U,simprocAttr]) (by simp[I.bU,I.br,dP]) vm (zu l (ep l known) hl (uv l known)) (fun _=>rfl) rfl rfl rfl (fun o=>⟨?_,?_⟩) ?_ ?_ ?_ ?_ ?_ ?_ ?_)
 ·intro n x hx
  simp only[dc,jn,ai] at hx
  repeat' split at hx
  all_goals first | (cases hx;done) | (subst_vars;simp only[Option.some.injEq] at hx;subst hx;simp[dc,jn,ao,bA,ai,ah.aM,I.aM,I.cR,ah.only,I.only,I.bP,ah.eO])
 ·intro a b ha hb
  simp only[dc,jn,ao,ai] at ha hb
  repeat' split at ha
  all_goals first | (simp at ha;done) | skip
  all_goals (repeat' split at hb)
  all_goals first | (simp at hb;done) | (subst_vars;simp[bA])
 ·simp[l7,aW,I.aM,bA,I.only,jn,ao,ai]
 ·rintro k os rfl;exact aly ..
 ·rintro e os h;exact h.elim
 ·simp[jn,bL]
 ·rintro k osb hk rfl W1 D1 E1 qV o1 o2
  have hk':k<(ed l known).length:=hk
  have hsl:=alL l known
  obtain ⟨i,hi⟩:∃ i,i=(ed l known).getD k 0:=⟨_,rfl⟩
  have hit:((gB (fun i=>(ep l known).getD i false) l.length).getD k 0)=i:=hi.symm
  have hsu:(ed l known).take (k+1)=(ed l known).take k++[i]:=by
   rw[hi,List.take_succ_eq_append_getElem hk',List.getD_eq_getElem?_getD,List.getElem?_eq_getElem hk'];rfl
  have hdl:((ed l known).take k).length≤60:=by rw[List.length_take];omega
  generalize (ed l known).take k=dk at hsu hdl ⊢
  simp only[hit,p8,dc,jn]
  have R:=And.intro @aK @U
  repeat' ((first
   |(with_reducible refine .guard (fun hb =>?_) (fun hb =>?_) <;>try simp only[hb])
   |refine J.aG (by decide +kernel) rfl fun K hK =>?_
   |(refine .aw [0,1,2,4,5,6,7] hK ?_;clear hK K)
   |(with_reducible refine .done (hK _ ?_);clear hK K)
   |refine J.of rfl ?_
   |(with_reducible refine ak.aE (fun h =>?_) (fun h =>?_) <;>try simp only[h])) <;>try simp only[aH,R,simprocAttr])
  all_goals clear R
  refine ⟨by simp[],?_⟩
  have hap:=fun (A:ab) d rest=>jr (α:=Int) (A:=A) (d:=d) 3 1 8 1000080 (l:=(bL dk).length) (es:=bL dk) (ys:=[(i:Int)]) (rest:=rest) rfl rfl (by simp) (by simp[bL,maxLen];omega) (by simp[bL];omega)
  have R:=And.intro @hap (And.intro @iO (And.intro @cC (And.intro @MQ (And.intro @eB (And.intro @bh (And.intro @aK @U))))))
  repeat' ((first
   |(with_reducible refine .guard (fun hb =>?_) (fun hb =>?_) <;>try simp only[hb])
   |refine J.aG (by decide +kernel) rfl fun K hK =>?_
   |(refine .aw [0,1,2,4,5,6,7] hK ?_;clear hK K)
   |(with_reducible refine .done (hK _ ?_);clear hK K)
   |refine J.of rfl ?_
   |(with_reducible refine ak.aE (fun h =>?_) (fun h =>?_) <;>try simp only[h])) <;>try simp only[aH,R,simprocAttr])
  all_goals clear R
  refine ⟨_,?_,rfl⟩
  have hti:bL (dk++[i])=bL dk++[(i:Int)]:=by simp[bL]
  rw[hsu,hti]
  generalize bL dk=xs
  intro n x hx
  simp only[dc,ai] at hx
  (repeat' split at hx) <;>first
   |(cases hx;done)
   |(subst_vars;simp only[Option.some.injEq] at hx;subst hx;simp[dc,ao,aq,ai,ah.only,I.only,bB,ah.eO,dU,gv,I.bP])
 ·rintro os rfl
  have eN:(ed l known).take (gB (fun i=>(ep l known).getD i false) l.length).length=ed l known:=List.take_length
  simp only[eN,jn,dC,List.map_cons,List.map_nil,bA,ah.aM,I.aM,gw,aF,b8,reduceIte,Nat.reduceEqDiff,List.cons_append,List.nil_append]
  have hfo:=lF (k:=(bL (ed l known)).length) (T:=3) (es:=bL (ed l known)) 1 rfl rfl
  have R:=And.intro @cC (And.intro @bh (And.intro @aK @U))
  repeat' ((first
   |(with_reducible refine .guard (fun hb =>?_) (fun hb =>?_) <;>try simp only[hb])
   |refine J.aG (by decide +kernel) rfl fun K hK =>?_
   |(refine .aw [0,1,2,4,5,6,7] hK ?_;clear hK K)
   |(with_reducible refine .done (hK _ ?_);clear hK K)
   |refine J.of rfl ?_
   |(with_reducible refine ak.aE (fun h =>?_) (fun h =>?_) <;>try simp only[h])) <;>try simp only[aH,R,simprocAttr])
  all_goals clear R
  rw[fq]
  exact ⟨[],[enc (bL (ed l known))],pF,⟨⟨_,rfl,.inr hfo⟩,trivial⟩,rfl,rfl⟩
 ·rintro e os h;exact h.elim
theorem Nq(l:List al)(known:Int)(hl:l.length≤60):av Tryz.prog 104 [.func 146 [.ref (enc l),.ref (enc (ep l known))]] (enc (bL (ed l known))):=by
 have hF:=NN l known hl
 refine av.bn Tryz.func104 P7 R1 Ue (Nat.le_of_ble_eq_true rfl) (fun hwf W0 D0 E1 =>?_)
 simp only[Ap,Kd,a6]
 clear hwf
 refine .au (by decide +kernel) fun K hK =>?_
 simp only[DZ,U,simprocAttr]
 refine .done (hK _ ?_);clear hK K
 refine .au (by decide +kernel) fun K hK =>?_
 simp only[D4,U,simprocAttr]
 try simp only[aK,U,simprocAttr]
 refine .bQ false [] [] [.nils 1,.func 146 [.ref (enc l),.ref (enc (ep l known))]] _ rfl hF fU.nil ⟨.inl ⟨rfl,rfl,rfl⟩,.inr (by simp[bd,bY,dP]),trivial⟩ ?_ ?_
 ·rintro r os' ⟨rfl,rfl⟩
  exact ev.nil (fun p=>bB p _) (fun h=>by cases h)
 ·rintro r os' ⟨rfl,rfl⟩
  try simp only[dC,List.map_nil,List.append_nil,jj,jM,U,simprocAttr]
  refine .done (hK _ ?_);clear hK K
  have R:=And.intro @aK @U
  repeat' ((first
   |(with_reducible refine .guard (fun hb =>?_) (fun hb =>?_) <;>try simp only[hb])
   |refine J.aG (by decide +kernel) rfl fun K hK =>?_
   |(refine .aw [0,2] hK ?_;clear hK K)
   |(with_reducible refine .done (hK _ ?_);clear hK K)
   |refine J.of rfl ?_
   |(with_reducible refine ak.aE (fun h =>?_) (fun h =>?_) <;>try simp only[h])) <;>try simp only[aH,R,simprocAttr])
  all_goals clear R
def km(l:List al)(known:Int):List Int×Int:=if dX l [] [known]=0 then (bL (ed l known),0) else ([],dX l [] [known])
theorem Oy(l:List al)(known:Int):av Tryz.prog 40 [enc l,enc known] (.tuple [enc (km l known).1,enc (km l known).2]):=by
 refine av.bn Tryz.func40 Rm Tj Vu (Nat.le_of_ble_eq_true rfl) (fun hwf W0 D0 E1 =>?_)
 simp only[BL,Lt,a6,Nat.zero_add]
 clear hwf
 have hC:=m0 l [] [known]
 simp only[km]
 generalize hc:dX l [] [known]=e at hC ⊢
 by_cases he:e=0
 ·have hn:=lP he
  subst he
  have hok:=ke (kD hc)
  have hF:=zj l known hok
  have hG:=Nq l known hok
  have R:=And.intro @hn (And.intro @iO ee)
  repeat' ((first
   |(with_reducible refine .guard (fun hb =>?_) (fun hb =>?_) <;>try simp only[hb])
   |refine J.aG (by decide +kernel) rfl fun K hK =>?_
   |refine .flat _ (hC) rfl ?_
   |refine .lead _ (hF) ?_
   |refine .lead _ (hG) ?_
   |(refine .aw [0,1,4,5,6,12] hK ?_;clear hK K)
   |(with_reducible refine .done (hK _ ?_);clear hK K)
   |refine J.of rfl ?_
   |(with_reducible refine ak.aE (fun h =>?_) (fun h =>?_) <;>try simp only[h])) <;>try simp only[aH,R,simprocAttr])
  all_goals clear R
  all_goals rfl
 ·have hn:=lQ he
  have R:=And.intro @hn (And.intro @he (And.intro @iO ee))
  repeat' ((first
   |(with_reducible refine .guard (fun hb =>?_) (fun hb =>?_) <;>try simp only[hb])
   |refine J.aG (by decide +kernel) rfl fun K hK =>?_
   |refine .flat _ (hC) rfl ?_
   |(refine .aw [0,1,4,5,6,12] hK ?_;clear hK K)
   |(with_reducible refine .done (hK _ ?_);clear hK K)
   |refine J.of rfl ?_
   |(with_reducible refine ak.aE (fun h =>?_) (fun h =>?_) <;>try simp only[h])) <;>try simp only[aH,R,simprocAttr])
  all_goals clear R
  all_goals rfl
theorem CC{l:List al}{known:Int}(h:df l=false):dX l [] [known]=41:=by simp[dX,h]
theorem CD{l:List al}{known:Int}(h:df l=true)(h2:ca 0 100000 known=false):dX l [] [known]=6:=by simp[dX,h,h2]
theorem CE{l:List al}{known:Int}(h:df l=true)(h2:ca 0 100000 known=true):dX l [] [known]=0:=by simp[dX,h,h2]
def kY(l:List al)(known:Int)(n:Nat):List Int:=bL (gB (fun i=>(ep l known).getD i false) n)
theorem alJ(l:List al)(known:Int)(n:Nat):kY l known (n+1)=kY l known n++if (ep l known).getD n false then [(n:Int)] else []:=by
 simp only[kY,bL,ze,List.map_append]
 congr 1
 split <;>rfl
theorem alI(l:List al)(known:Int)(n:Nat):(kY l known n).length≤n:=by
 have:=List.length_filter_le (fun i=>(ep l known).getD i false) (List.range n)
 simpa[kY,bL,gB] using this
theorem Oz(l:List al)(known:Int):av Tryz.prog 41 [enc l,enc known] (.tuple [enc (km l known).1,enc (km l known).2]):=by
 have hF:=rX l
 refine av.bn Tryz.func41 Rn Tk Vv (Nat.le_of_ble_eq_true rfl) (fun hwf W0 D0 E1 =>?_)
 simp only[BM,Lu,a6,Nat.zero_add]
 clear hwf
 rcases q1:df l
 ·have hs:km l known=([],41):=by simp[km,CC q1]
  rw[hs]
  rw[q1,if_neg (by decide)] at hF
  have R:=And.intro @aK @U
  repeat' ((first
   |(with_reducible refine .guard (fun hb =>?_) (fun hb =>?_) <;>try simp only[hb])
   |refine J.aG (by decide +kernel) rfl fun K hK =>?_
   |refine .flat _ (hF) rfl ?_
   |(refine .aw [0,1,4,5,6,7,8,11,14,21,27] hK ?_;clear hK K)
   |(with_reducible refine .done (hK _ ?_);clear hK K)
   |refine J.of rfl ?_
   |(with_reducible refine ak.aE (fun h =>?_) (fun h =>?_) <;>try simp only[h])) <;>try simp only[aH,R,simprocAttr])
  all_goals clear R
  all_goals rfl
 rw[q1,if_pos rfl] at hF
 have hl:=ke q1
 have hG:=zk l known hl
 rcases q3:ca 0 100000 known
 ·have hs:km l known=([],6):=by simp[km,CD q1 q3]
  rw[hs]
  have R:=And.intro @q3 (And.intro @aK @U)
  repeat' ((first
   |(with_reducible refine .guard (fun hb =>?_) (fun hb =>?_) <;>try simp only[hb])
   |refine J.aG (by decide +kernel) rfl fun K hK =>?_
   |refine .flat _ (hF) rfl ?_
   |refine .flat _ (qm _) rfl ?_
   |(refine .aw [0,1,4,5,6,7,8,11,14,21,27] hK ?_;clear hK K)
   |(with_reducible refine .done (hK _ ?_);clear hK K)
   |refine J.of rfl ?_
   |(with_reducible refine ak.aE (fun h =>?_) (fun h =>?_) <;>try simp only[h])) <;>try simp only[aH,R,simprocAttr])
  all_goals clear R
  all_goals rfl
 have hs:km l known=(bL (ed l known),0):=by simp[km,CE q1 q3]
 rw[hs]
 have R:=And.intro @q3 (And.intro @bh (And.intro @aK @U))
 repeat' ((first
  |(with_reducible refine .guard (fun hb =>?_) (fun hb =>?_) <;>try simp only[hb])
  |refine J.aG (by decide +kernel) rfl fun K hK =>?_
  |refine .flat _ (hF) rfl ?_
  |refine .flat _ (qm _) rfl ?_
  |refine .lead _ (hG) ?_
  |(refine .aw [0,1,4,5,6,7,8,11,14,21,27] hK ?_;clear hK K)
  |(with_reducible refine .done (hK _ ?_);clear hK K)
  |refine J.of rfl ?_
  |(with_reducible refine ak.aE (fun h =>?_) (fun h =>?_) <;>try simp only[h])) <;>try simp only[aH,R,simprocAttr])
 all_goals clear R
 refine J.loop (fun i:Nat=>aq [(0,enc l),(6,enc (ep l known)),(7,.own 907 (kY l known i).length),(8,.int .i64 i)] [(907,.bT 3 1 ((kY l known i).map enc))]) (fun i=>i≤l.length) (fun i=>l.length-i) 0 (Nat.zero_le _) ?_ (fun i hi =>?_)
 ·refine aC.ln 7 907 3 1 1 rfl rfl ?_
  simp only[kY,gB,bL,List.range_zero,List.filter_nil,List.map_nil,List.length_nil]
  refine aC.bZ ?_ ?_ ?_ ?_ <;>simp[aX,bO,bM,bt,ao,aW,cA,I.only,I.bP,ah.only,bB]
 have hul:=alI l known i
 by_cases hlt:i<l.length
 ·have hc:=fy hlt
  have hw:=eH (i:=i) (by omega)
  have hbl:=uv l known
  have hbi:∀ A,gX A 1 (i:Int) (enc (ep l known))=some (.ref (.bool ((ep l known).getD i false))):=fun A=>by
   rw[eA 1 (by omega) rfl,List.getD_eq_getElem?_getD,List.getElem?_eq_getElem (by omega)];rfl
  have hsu:=alJ l known i
  generalize kY l known i=xs at hul hsu ⊢
  have happ:=fun (A:ab) d rest=>jr (α:=Int) (A:=A) (d:=d) 3 1 8 907 (l:=xs.length) (es:=xs) (ys:=[(i:Int)]) (rest:=rest) rfl rfl (by simp) (by simp[maxLen];omega) (by simp;omega)
  rcases hb:(ep l known).getD i false
  all_goals
   rw[hb] at hbi hsu
   have R:=And.intro @hc (And.intro @hw (And.intro @hbi (And.intro @happ (And.intro @iO (And.intro @bh (And.intro @aK @U))))))
   repeat' ((first
    |(with_reducible refine .guard (fun hb =>?_) (fun hb =>?_) <;>try simp only[hb])
    |refine J.aG (by decide +kernel) rfl fun K hK =>?_
    |(refine .aw [0,1,4,5,6,7,8,11,14,21,27] hK ?_;clear hK K)
    |(with_reducible refine .done (hK _ ?_);clear hK K)
    |refine J.of rfl ?_
    |(with_reducible refine ak.aE (fun h =>?_) (fun h =>?_) <;>try simp only[h])) <;>try simp only[aH,R,simprocAttr])
   all_goals clear R
   refine ⟨i+1,by omega,by omega,?_⟩
   simp only[hsu,if_true,Bool.false_eq_true,if_false,List.append_nil]
   refine aC.bZ ?_ ?_ ?_ ?_ <;>simp[aX,bO,bM,bt,ao,aW,cA,I.only,I.bP,ah.only,dU,gv,bB,ij]
 ·have hc:=fD hlt
  have hge:i=l.length:=by omega
  subst hge
  have hfo:=lF (k:=(kY l known l.length).length) (T:=3) (es:=kY l known l.length) 1 rfl rfl
  have R:=And.intro @hc (And.intro @hfo (And.intro @bh (And.intro @aK @U)))
  repeat' ((first
   |(with_reducible refine .guard (fun hb =>?_) (fun hb =>?_) <;>try simp only[hb])
   |refine J.aG (by decide +kernel) rfl fun K hK =>?_
   |(refine .aw [0,1,4,5,6,7,8,11,14,21,27] hK ?_;clear hK K)
   |(with_reducible refine .done (hK _ ?_);clear hK K)
   |refine J.of rfl ?_
   |(with_reducible refine ak.aE (fun h =>?_) (fun h =>?_) <;>try simp only[h])) <;>try simp only[aH,R,simprocAttr])
  all_goals clear R
  all_goals rfl
theorem Ox(l:List al)(no known:Int):av Tryz.prog 39 [enc l,enc no,enc known] (.tuple [enc (nW l no known).1,enc (nW l no known).2]):=by
 refine av.bn Tryz.func39 Rl Ti Vt (Nat.le_of_ble_eq_true rfl) (fun hwf W0 D0 E1 =>?_)
 simp only[BK,Ls,a6,Nat.zero_add,Nat.reduceAdd]
 clear hwf
 have hC:=m0 l [eR no 9999] [known]
 simp only[nW]
 generalize hc:dX l [eR no 9999] [known]=e at hC ⊢
 by_cases he:e=0
 ·have hn:=lP he
  subst he
  have hok:=kD hc
  have hF:=ql l known hok
  have hk:=qZ (dw l 100000 known) no
  cases hg:cB (dw l 100000 known) no with
  |none =>
   rw[hg] at hk
   have R:=And.intro @hn (And.intro @hk (And.intro @iO (And.intro @oa (And.intro @oV ee))))
   repeat' ((first
    |(with_reducible refine .guard (fun hb =>?_) (fun hb =>?_) <;>try simp only[hb])
    |refine J.aG (by decide +kernel) rfl fun K hK =>?_
    |refine .flat _ (hC) rfl ?_
    |refine .lead _ (hF) ?_
    |(refine .aw [0,1,2,6,7,8,9,18,30] hK ?_;clear hK K)
    |(with_reducible refine .done (hK _ ?_);clear hK K)
    |refine J.of rfl ?_
    |(with_reducible refine ak.aE (fun h =>?_) (fun h =>?_) <;>try simp only[h])) <;>try simp only[aH,R,simprocAttr])
   all_goals clear R
  |some b =>
   rw[hg] at hk
   have R:=And.intro @hn (And.intro @hk (And.intro @iO (And.intro @oa (And.intro @oV ee))))
   repeat' ((first
    |(with_reducible refine .guard (fun hb =>?_) (fun hb =>?_) <;>try simp only[hb])
    |refine J.aG (by decide +kernel) rfl fun K hK =>?_
    |refine .flat _ (hC) rfl ?_
    |refine .lead _ (hF) ?_
    |(refine .aw [0,1,2,6,7,8,9,18,30] hK ?_;clear hK K)
    |(with_reducible refine .done (hK _ ?_);clear hK K)
    |refine J.of rfl ?_
    |(with_reducible refine ak.aE (fun h =>?_) (fun h =>?_) <;>try simp only[h])) <;>try simp only[aH,R,simprocAttr])
   all_goals clear R
 ·have hn:=lQ he
  have R:=And.intro @hn (And.intro @he (And.intro @iO (And.intro @oa (And.intro @oV ee))))
  repeat' ((first
   |(with_reducible refine .guard (fun hb =>?_) (fun hb =>?_) <;>try simp only[hb])
   |refine J.aG (by decide +kernel) rfl fun K hK =>?_
   |refine .flat _ (hC) rfl ?_
   |(refine .aw [0,1,2,6,7,8,9,18,30] hK ?_;clear hK K)
   |(with_reducible refine .done (hK _ ?_);clear hK K)
   |refine J.of rfl ?_
   |(with_reducible refine ak.aE (fun h =>?_) (fun h =>?_) <;>try simp only[h])) <;>try simp only[aH,R,simprocAttr])
  all_goals clear R
theorem IQ{α:Type}(f:α→Int)(a x:α)(m:List α):eT f (a::m) x=if f a≤f x then a::eT f m x else x::a::m:=by
 by_cases h:f a≤f x <;>simp[eT,h]
theorem xt{α:Type}{f:α→Int}{x y:α} : ∀ {l:List α},y∈eT f l x↔y=x∨y∈l
 | []=>by simp[eT]
 |a::l=>by
  rw[IQ]
  split
  ·simp only[List.mem_cons,xt (l:=l)]
   constructor <;>(rintro (h | h | h) <;>simp[h])
  ·simp only[List.mem_cons]
theorem IV{x:Int} : ∀ {l:List Int},fV l→x∉l→fV (eT id l x)
 | [],_,_=>by simp[eT,fV]
 |a::l,h,hx=>by
  simp only[fV,List.pairwise_cons] at h
  simp only[List.mem_cons,not_or] at hx
  rw[IQ]
  split
  ·rename_i hle
   simp only[id] at hle
   refine List.pairwise_cons.2 ⟨fun y hy =>?_,IV h.2 hx.2⟩
   rcases xt.1 hy with rfl | hy
   ·omega
   ·exact h.1 y hy
  ·rename_i hle
   simp only[id] at hle
   refine List.pairwise_cons.2 ⟨fun y hy =>?_,List.pairwise_cons.2 h⟩
   rcases List.mem_cons.1 hy with rfl | hy
   ·omega
   ·have:=h.1 y hy;omega
theorem O4{l:List Int}{x:Int}(h:fV l):fV (iN l x):=by
 simp only[iN]
 split
 ·exact h
 ·rename_i hx;exact IV h hx
theorem O3{l:List Int}{x y:Int} : y∈iN l x↔y=x∨y∈l:=by
 simp only[iN]
 split
 ·rename_i hx
  constructor
  ·exact .inr
  ·rintro (rfl | h)
   ·exact hx
   ·exact h
 ·exact xt
theorem DG:∀ (l o:List Int),fV o→fV (l.foldl iN o)
 | [],_,h=>h
 |_::l,_,h=>DG l _ (O4 h)
theorem DF{y:Int} : ∀ (l o:List Int),y∈l.foldl iN o↔y∈o∨y∈l
 | [],o=>by simp
 |x::l,o=>by
  rw[List.foldl_cons,DF l,O3,List.mem_cons]
  constructor
  ·rintro ((h | h) | h) <;>simp[h]
  ·rintro (h | h | h) <;>simp[h]
theorem MI(l:List Int):fV (gA l):=DG l [] .nil
theorem MH{l:List Int}{y:Int} : y∈gA l↔y∈l:=by simp[gA,DF]
theorem alq{l:List Int}(h:l.Nodup):gA l=du l:=by
 have h1:(du l).Nodup:=(oO l).nodup_iff.2 h
 have h2:fV (du l):=((yV l).and h1).imp fun {a b} h=>by have:=h.1;have:=h.2;omega
 exact yC (MI l) h2 fun x=>by rw[MH,(oO l).mem_iff]
theorem Nc(add:List aA→aA→List aA)(l:List al):∀ (o:List Nat) (s:List aA×List Nat),((o.foldl (hX add l) s).2).Sublist (s.2++o)
 | [],s=>by simp
 |i::o,s=>by
  have h:=Nc add l o (hX add l s i)
  rw[List.foldl_cons]
  refine h.trans ?_
  simp only[hX]
  split
  ·exact List.Sublist.append_left (List.sublist_cons_self _ _) _
  ·simp
theorem yg(add:List aA→aA→List aA)(l:List al)(o:List Nat):((hJ add l o).2).Sublist o:=by
 have:=Nc add l o ([],[])
 rw[List.nil_append] at this
 exact this
theorem akg(l:List al)(day known:Int):(fe l day known).Nodup:=by
 have h0:=pY (fun i=>(ae l i).day) (iS l day known) [] (by simp) (pt l day known) (by simp)
 have h1:(iS l day known).Nodup:=(pt l day known).imp fun {a b} h=>by omega
 exact (h0.1.nodup_iff).2 (by simpa using h1)
theorem al0{l:List Nat}(h:l.Nodup):(bL l).Nodup:=by
 simp only[bL,List.Nodup,List.pairwise_map]
 exact h.imp fun {a b} h=>by omega
theorem al8(l:List al)(day known:Int):(oB l day known).zf=jE l day known:=by
 obtain ⟨_,_,k3⟩:=J5 r6 r7 l (fe l day known)
 simp only[oB,jE,←k3]
 exact alq (al0 (List.Nodup.sublist (yg _ _ _) (akg l day known)))
theorem Na{l:List al}{day known:Int}{i:Nat}(h:i<(jE l day known).length):∃ j:Nat,j<l.length∧(jE l day known)[i]=(j:Int):=by
 have h1:(jE l day known)[i]∈jE l day known:=List.getElem_mem h
 have h2:(jE l day known)[i]∈bL (hJ fk l (fe l day known)).2:=(oO _).mem_iff.1 h1
 obtain ⟨j,hj,e⟩:=List.mem_map.1 h2
 exact ⟨j,sC (ye ((yg _ _ _).subset hj)),e.symm⟩
theorem Nb(l:List al)(day known:Int):(jE l day known).length≤l.length:=by
 have h1:(jE l day known).length=(hJ fk l (fe l day known)).2.length:=by
  rw[jE,(oO _).length_eq];simp[bL]
 have h2:=(yg fk l (fe l day known)).length_le
 have h3:=tO l day known
 have h4:=qC l day known
 omega
def gm(l:List al)(i:Int):Item:=(ae l i.toNat).cW
def kq(l:List al)(known:Int):List Item×Int:=if dX l [] [known]=0 then ((jE l 100000 known).map (gm l),0) else ([],dX l [] [known])
theorem Am(x:Item):ig 2 (some [enc x])=some (enc [x]):=nX 2 x rfl
theorem OA(l:List al)(known:Int):av Tryz.prog 42 [enc l,enc known] (.tuple [enc (kq l known).1,enc (kq l known).2]):=by
 refine av.bn Tryz.func42 Ro Tl Vw (Nat.le_of_ble_eq_true rfl) (fun hwf W0 D0 E1 =>?_)
 simp only[BN,Lv,a6,Nat.zero_add]
 clear hwf
 have hC:=m0 l [] [known]
 simp only[kq]
 generalize hc:dX l [] [known]=e at hC ⊢
 by_cases he:e=0
 case neg =>
  have hn:=lQ he
  have R:=And.intro @hn (And.intro @he (And.intro @iO ee))
  repeat' ((first
   |(with_reducible refine .guard (fun hb =>?_) (fun hb =>?_) <;>try simp only[hb])
   |refine J.aG (by decide +kernel) rfl fun K hK =>?_
   |refine .flat _ (hC) rfl ?_
   |(refine .aw [0,1,4,5,6,7,9,11,17,25,26,27,28] hK ?_;clear hK K)
   |(with_reducible refine .done (hK _ ?_);clear hK K)
   |refine J.of rfl ?_
   |(with_reducible refine ak.aE (fun h =>?_) (fun h =>?_) <;>try simp only[h])) <;>try simp only[aH,R,simprocAttr])
  all_goals clear R
  all_goals rfl
 have hn:=lP he
 subst he
 have hok:=kD hc
 have hF:=qn l 100000 known hok
 rw[ru] at hF
 have hll:=ke hok
 have hvl:=Nb l 100000 known
 have hvi:=fun i=>Na (l:=l) (day:=100000) (known:=known) (i:=i)
 simp only[if_true]
 generalize jE l 100000 known=vs at hF hvl hvi ⊢
 have R:=And.intro @hn (And.intro @iO ee)
 repeat' ((first
  |(with_reducible refine .guard (fun hb =>?_) (fun hb =>?_) <;>try simp only[hb])
  |refine J.aG (by decide +kernel) rfl fun K hK =>?_
  |refine .flat _ (hC) rfl ?_
  |refine .lead _ (hF) ?_
  |(refine .aw [0,1,4,5,6,7,9,11,17,25,26,27,28] hK ?_;clear hK K)
  |(with_reducible refine .done (hK _ ?_);clear hK K)
  |refine J.of rfl ?_
  |(with_reducible refine ak.aE (fun h =>?_) (fun h =>?_) <;>try simp only[h])) <;>try simp only[aH,R,simprocAttr])
 all_goals clear R
 refine J.loop (fun i:Nat=>aq [(0,enc l),(7,.own 907 ((vs.take i).map (gm l)).length),(25,enc vs),(26,.int .i64 vs.length),(27,.int .i64 i)] [(907,.bT 65 2 (((vs.take i).map (gm l)).map enc))]) (fun i=>i≤vs.length) (fun i=>vs.length-i) 0 (Nat.zero_le _) ?_ (fun i hi =>?_)
 ·refine aC.ln 7 907 65 2 2 rfl rfl ?_
  simp only[List.take_zero,List.map_nil,List.length_nil]
  refine aC.bZ ?_ ?_ ?_ ?_ <;>simp[aX,bO,bM,bt,ao,aW,cA,I.only,I.bP,ah.only,bB]
 have htl:((vs.take i).map (gm l)).length≤60:=by rw[List.length_map,List.length_take];omega
 by_cases hlt:i<vs.length
 ·have hc:=fy hlt
  have hw:=eH (i:=i) (by omega)
  obtain ⟨j,hj,ej⟩:=hvi i hlt
  have he:∀ A,gX A 1 (i:Int) (enc vs)=some (.ref (.int .i64 (j:Int))):=fun A=>by
   rw[eA 1 hlt rfl,ej];rfl
  have he2:=fun A=>gJ (A:=A) hj
  have hsu:(vs.take (i+1)).map (gm l)=(vs.take i).map (gm l)++[(ae l j).cW]:=by
   rw[List.take_succ_eq_append_getElem hlt,List.map_append,ej]
   simp[gm]
  generalize (vs.take i).map (gm l)=xs at htl hsu ⊢
  have happ:=fun (A:ab) d rest=>jr (α:=Item) (A:=A) (d:=d) 65 2 16 907 (l:=xs.length) (es:=xs) (ys:=[(ae l j).cW]) (rest:=rest) rfl rfl (by simp) (by simp[maxLen];omega) (by simp;omega)
  have R:=And.intro @hc (And.intro @hw (And.intro @he (And.intro @he2 (And.intro @happ (And.intro @Am (And.intro @bh (And.intro @aK @U)))))))
  repeat' ((first
   |(with_reducible refine .guard (fun hb =>?_) (fun hb =>?_) <;>try simp only[hb])
   |refine J.aG (by decide +kernel) rfl fun K hK =>?_
   |(refine .aw [0,1,4,5,6,7,9,11,17,25,26,27,28] hK ?_;clear hK K)
   |(with_reducible refine .done (hK _ ?_);clear hK K)
   |refine J.of rfl ?_
   |(with_reducible refine ak.aE (fun h =>?_) (fun h =>?_) <;>try simp only[h])) <;>try simp only[aH,R,simprocAttr])
  all_goals clear R
  refine ⟨i+1,by omega,by omega,?_⟩
  simp only[hsu]
  refine aC.bZ ?_ ?_ ?_ ?_ <;>simp[aX,bO,bM,bt,ao,aW,cA,I.only,I.bP,ah.only,dU,gv,bB]
 ·have hc:=fD hlt
  have hge:i=vs.length:=by omega
  subst hge
  rw[List.take_length]
  have hfo:=lF (k:=(vs.map (gm l)).length) (T:=65) (es:=vs.map (gm l)) 2 rfl rfl
  have R:=And.intro @hc (And.intro @hfo (And.intro @bh (And.intro @aK @U)))
  repeat' ((first
   |(with_reducible refine .guard (fun hb =>?_) (fun hb =>?_) <;>try simp only[hb])
   |refine J.aG (by decide +kernel) rfl fun K hK =>?_
   |(refine .aw [0,1,4,5,6,7,9,11,17,25,26,27,28] hK ?_;clear hK K)
   |(with_reducible refine .done (hK _ ?_);clear hK K)
   |refine J.of rfl ?_
   |(with_reducible refine ak.aE (fun h =>?_) (fun h =>?_) <;>try simp only[h])) <;>try simp only[aH,R,simprocAttr])
  all_goals clear R
  all_goals rfl
theorem OB(l:List al)(known:Int):av Tryz.prog 43 [enc l,enc known] (.tuple [enc (kq l known).1,enc (kq l known).2]):=by
 have hF:=rX l
 refine av.bn Tryz.func43 Rp Tm Vx (Nat.le_of_ble_eq_true rfl) (fun hwf W0 D0 E1 =>?_)
 simp only[BO,Lw,a6,Nat.zero_add]
 clear hwf
 rcases q1:df l
 ·have hs:kq l known=([],41):=by simp[kq,CC q1]
  rw[hs]
  rw[q1,if_neg (by decide)] at hF
  have R:=And.intro @aK @U
  repeat' ((first
   |(with_reducible refine .guard (fun hb =>?_) (fun hb =>?_) <;>try simp only[hb])
   |refine J.aG (by decide +kernel) rfl fun K hK =>?_
   |refine .flat _ (hF) rfl ?_
   |(refine .aw [0,1,4,5,6,7,8,11,14,22] hK ?_;clear hK K)
   |(with_reducible refine .done (hK _ ?_);clear hK K)
   |refine J.of rfl ?_
   |(with_reducible refine ak.aE (fun h =>?_) (fun h =>?_) <;>try simp only[h])) <;>try simp only[aH,R,simprocAttr])
  all_goals clear R
  all_goals rfl
 rw[q1,if_pos rfl] at hF
 have hll:=ke q1
 have hG:=zJ l known 100000 q1
 have hv:=al8 l 100000 known
 rcases q3:ca 0 100000 known
 ·have hs:kq l known=([],6):=by simp[kq,CD q1 q3]
  rw[hs]
  have R:=And.intro @q3 (And.intro @aK @U)
  repeat' ((first
   |(with_reducible refine .guard (fun hb =>?_) (fun hb =>?_) <;>try simp only[hb])
   |refine J.aG (by decide +kernel) rfl fun K hK =>?_
   |refine .flat _ (hF) rfl ?_
   |refine .flat _ (qm _) rfl ?_
   |(refine .aw [0,1,4,5,6,7,8,11,14,22] hK ?_;clear hK K)
   |(with_reducible refine .done (hK _ ?_);clear hK K)
   |refine J.of rfl ?_
   |(with_reducible refine ak.aE (fun h =>?_) (fun h =>?_) <;>try simp only[h])) <;>try simp only[aH,R,simprocAttr])
  all_goals clear R
  all_goals rfl
 have hs:kq l known=((jE l 100000 known).map (gm l),0):=by simp[kq,CE q1 q3]
 rw[hs]
 have hvl:=Nb l 100000 known
 have hvi:=fun i=>Na (l:=l) (day:=100000) (known:=known) (i:=i)
 rw[←hv] at hvl hvi ⊢
 generalize oB l 100000 known=p at hG hvl hvi ⊢
 obtain ⟨bs,vs⟩:=p
 simp only at hvl hvi ⊢
 have hfl:pB 1 1 none (some [enc bs,enc vs])=some (enc vs):=by
  simp[pB,xZ,Abs.df,x8]
 have R:=And.intro @q3 (And.intro @hfl (And.intro @vP (And.intro @rl (And.intro @xZ (And.intro @cC (And.intro @bh (And.intro @aK @U)))))))
 repeat' ((first
  |(with_reducible refine .guard (fun hb =>?_) (fun hb =>?_) <;>try simp only[hb])
  |refine J.aG (by decide +kernel) rfl fun K hK =>?_
  |refine .flat _ (hF) rfl ?_
  |refine .flat _ (qm _) rfl ?_
  |refine .lead _ (hG) ?_
  |(refine .aw [0,1,4,5,6,7,8,11,14,22] hK ?_;clear hK K)
  |(with_reducible refine .done (hK _ ?_);clear hK K)
  |refine J.of rfl ?_
  |(with_reducible refine ak.aE (fun h =>?_) (fun h =>?_) <;>try simp only[h])) <;>try simp only[aH,R,simprocAttr])
 all_goals clear R
 refine J.loop (fun i:Nat=>aq [(0,enc l),(6,enc vs),(7,.own 907 ((vs.take i).map (gm l)).length),(8,.int .i64 i)] [(907,.bT 65 2 (((vs.take i).map (gm l)).map enc))]) (fun i=>i≤vs.length) (fun i=>vs.length-i) 0 (Nat.zero_le _) ?_ (fun i hi =>?_)
 ·refine aC.ln 7 907 65 2 2 rfl rfl ?_
  simp only[List.take_zero,List.map_nil,List.length_nil]
  refine aC.bZ ?_ ?_ ?_ ?_ <;>simp[aX,bO,bM,bt,ao,aW,cA,I.only,I.bP,ah.only,bB]
 have htl:((vs.take i).map (gm l)).length≤60:=by rw[List.length_map,List.length_take];omega
 by_cases hlt:i<vs.length
 ·have hc:=fy hlt
  have hw:=eH (i:=i) (by omega)
  obtain ⟨j,hj,ej⟩:=hvi i hlt
  have he:∀ A,gX A 1 (i:Int) (enc vs)=some (.ref (.int .i64 (j:Int))):=fun A=>by
   rw[eA 1 hlt rfl,ej];rfl
  have he2:=fun A=>gJ (A:=A) hj
  have hsu:(vs.take (i+1)).map (gm l)=(vs.take i).map (gm l)++[(ae l j).cW]:=by
   rw[List.take_succ_eq_append_getElem hlt,List.map_append,ej]
   simp[gm]
  generalize (vs.take i).map (gm l)=xs at htl hsu ⊢
  have happ:=fun (A:ab) d rest=>jr (α:=Item) (A:=A) (d:=d) 65 2 16 907 (l:=xs.length) (es:=xs) (ys:=[(ae l j).cW]) (rest:=rest) rfl rfl (by simp) (by simp[maxLen];omega) (by simp;omega)
  have R:=And.intro @hc (And.intro @hw (And.intro @he (And.intro @he2 (And.intro @happ (And.intro @Am (And.intro @bh (And.intro @aK @U)))))))
  repeat' ((first
   |(with_reducible refine .guard (fun hb =>?_) (fun hb =>?_) <;>try simp only[hb])
   |refine J.aG (by decide +kernel) rfl fun K hK =>?_
   |(refine .aw [0,1,4,5,6,7,8,11,14,22] hK ?_;clear hK K)
   |(with_reducible refine .done (hK _ ?_);clear hK K)
   |refine J.of rfl ?_
   |(with_reducible refine ak.aE (fun h =>?_) (fun h =>?_) <;>try simp only[h])) <;>try simp only[aH,R,simprocAttr])
  all_goals clear R
  refine ⟨i+1,by omega,by omega,?_⟩
  simp only[hsu]
  refine aC.bZ ?_ ?_ ?_ ?_ <;>simp[aX,bO,bM,bt,ao,aW,cA,I.only,I.bP,ah.only,dU,gv,bB]
 ·have hc:=fD hlt
  have hge:i=vs.length:=by omega
  subst hge
  rw[List.take_length]
  have hfo:=lF (k:=(vs.map (gm l)).length) (T:=65) (es:=vs.map (gm l)) 2 rfl rfl
  have R:=And.intro @hc (And.intro @hfo (And.intro @bh (And.intro @aK @U)))
  repeat' ((first
   |(with_reducible refine .guard (fun hb =>?_) (fun hb =>?_) <;>try simp only[hb])
   |refine J.aG (by decide +kernel) rfl fun K hK =>?_
   |(refine .aw [0,1,4,5,6,7,8,11,14,22] hK ?_;clear hK K)
   |(with_reducible refine .done (hK _ ?_);clear hK K)
   |refine J.of rfl ?_
   |(with_reducible refine ak.aE (fun h =>?_) (fun h =>?_) <;>try simp only[h])) <;>try simp only[aH,R,simprocAttr])
  all_goals clear R
  all_goals rfl
def n8(l:List al):List Int×Int:=if df l then (gA (l.map (·.known)),0) else ([],41)
theorem OD(l:List al):av Tryz.prog 45 [enc l] (.tuple [enc (n8 l).1,enc (n8 l).2]):=by
 have hF:=rX l
 refine av.bn Tryz.func45 Rr Tp Vz (Nat.le_of_ble_eq_true rfl) (fun hwf W0 D0 E1 =>?_)
 simp only[BQ,Ly,a6]
 clear hwf
 simp only[n8]
 rcases q1:df l
 ·rw[q1,if_neg (by decide)] at hF
  have R:=And.intro @aK @U
  repeat' ((first
   |(with_reducible refine .guard (fun hb =>?_) (fun hb =>?_) <;>try simp only[hb])
   |refine J.aG (by decide +kernel) rfl fun K hK =>?_
   |refine .flat _ (hF) rfl ?_
   |(refine .aw [0,2,3,4,5,8,12] hK ?_;clear hK K)
   |(with_reducible refine .done (hK _ ?_);clear hK K)
   |refine J.of rfl ?_
   |(with_reducible refine ak.aE (fun h =>?_) (fun h =>?_) <;>try simp only[h])) <;>try simp only[aH,R,simprocAttr])
  all_goals clear R
  all_goals rfl
 rw[q1,if_pos rfl] at hF
 have hll:=ke q1
 have R:=And.intro @bh (And.intro @aK @U)
 repeat' ((first
  |(with_reducible refine .guard (fun hb =>?_) (fun hb =>?_) <;>try simp only[hb])
  |refine J.aG (by decide +kernel) rfl fun K hK =>?_
  |refine .flat _ (hF) rfl ?_
  |(refine .aw [0,2,3,4,5,8,12] hK ?_;clear hK K)
  |(with_reducible refine .done (hK _ ?_);clear hK K)
  |refine J.of rfl ?_
  |(with_reducible refine ak.aE (fun h =>?_) (fun h =>?_) <;>try simp only[h])) <;>try simp only[aH,R,simprocAttr])
 all_goals clear R
 refine J.loop (fun i:Nat=>aq [(0,enc l),(4,.own 904 ((l.take i).map (·.known)).length),(5,.int .i64 i)] [(904,.bT 3 1 (((l.take i).map (·.known)).map enc))]) (fun i=>i≤l.length) (fun i=>l.length-i) 0 (Nat.zero_le _) ?_ (fun i hi =>?_)
 ·refine aC.ln 4 904 3 1 1 rfl rfl ?_
  simp only[List.take_zero,List.map_nil,List.length_nil]
  refine aC.bZ ?_ ?_ ?_ ?_ <;>simp[aX,bO,bM,bt,ao,aW,cA,I.only,I.bP,ah.only,bB]
 have htl:((l.take i).map (·.known)).length≤60:=by rw[List.length_map,List.length_take];omega
 by_cases hlt:i<l.length
 ·have hc:=fy hlt
  have hw:=eH (i:=i) (by omega)
  have he:=fun A=>gJ (A:=A) hlt
  have hsu:(l.take (i+1)).map (·.known)=(l.take i).map (·.known)++[(ae l i).known]:=by
   rw[List.take_succ_eq_append_getElem hlt,List.map_append,kI hlt];rfl
  generalize (l.take i).map (·.known)=xs at htl hsu ⊢
  have happ:=fun (A:ab) d rest=>jr (α:=Int) (A:=A) (d:=d) 3 1 8 904 (l:=xs.length) (es:=xs) (ys:=[(ae l i).known]) (rest:=rest) rfl rfl (by simp) (by simp[maxLen];omega) (by simp;omega)
  have R:=And.intro @hc (And.intro @hw (And.intro @he (And.intro @happ (And.intro @iO (And.intro @bh (And.intro @aK @U))))))
  repeat' ((first
   |(with_reducible refine .guard (fun hb =>?_) (fun hb =>?_) <;>try simp only[hb])
   |refine J.aG (by decide +kernel) rfl fun K hK =>?_
   |(refine .aw [0,2,3,4,5,8,12] hK ?_;clear hK K)
   |(with_reducible refine .done (hK _ ?_);clear hK K)
   |refine J.of rfl ?_
   |(with_reducible refine ak.aE (fun h =>?_) (fun h =>?_) <;>try simp only[h])) <;>try simp only[aH,R,simprocAttr])
  all_goals clear R
  refine ⟨i+1,by omega,by omega,?_⟩
  simp only[hsu]
  refine aC.bZ ?_ ?_ ?_ ?_ <;>simp[aX,bO,bM,bt,ao,aW,cA,I.only,I.bP,ah.only,dU,gv,bB,ij]
 ·have hc:=fD hlt
  have hge:i=l.length:=by omega
  subst hge
  rw[List.take_length] at htl ⊢
  have hG:=zL (l.map (·.known)) (by omega)
  have hfo:=lF (k:=(l.map (·.known)).length) (T:=3) (es:=l.map (·.known)) 1 rfl rfl
  have R:=And.intro @hc (And.intro @hfo (And.intro @bh (And.intro @aK @U)))
  repeat' ((first
   |(with_reducible refine .guard (fun hb =>?_) (fun hb =>?_) <;>try simp only[hb])
   |refine J.aG (by decide +kernel) rfl fun K hK =>?_
   |refine .lead _ (hG) ?_
   |(refine .aw [0,2,3,4,5,8,12] hK ?_;clear hK K)
   |(with_reducible refine .done (hK _ ?_);clear hK K)
   |refine J.of rfl ?_
   |(with_reducible refine ak.aE (fun h =>?_) (fun h =>?_) <;>try simp only[h])) <;>try simp only[aH,R,simprocAttr])
  all_goals clear R
  all_goals rfl
theorem J.alr{W0:World}{D0:aQ}{nn:Nat}{ow:Nat→Prop}{E1:aU}{Y:Value→List I→List (Nat×ah)→cN→Prop}{kj:Option Nat}{y:aO}{Q:Exit→ab→Prop}{ts:List (Nat×I)}{os:List (Nat×ah)}{a b d n:Nat}{xs:List Int}(hx:xs≠[])
  (hd:Abs.bH ts d=.own n xs.length) (hn:ai os n=some (.cM 3 xs)) (hlt:n<1000000) (hl:xs.length≤60) (ht:∀ t,kR n xs.length (Abs.bH ts t)) (ho:bt (fun j => ![n].contains j) (cw [n] os))
  (ts':List (Nat×I)) (h1:∀ q∈ts',q.1≠a∧q.1≠b∧Abs.bH ts q.1=q.2∧q.2.only (fun j=>j != n)=true)
  (hda:d≠a) (hdb:d≠b)
  (h:∀ q,J ⟨Tryz.prog,W0,D0,nn,ow,E1,Y,kj⟩ y Q (aq ((d,.view n [] 1 0 xs.length)::ts') ((n,.box (.agg ((du xs++List.replicate q 0).map enc)))::cw [n] os))) :
  J ⟨Tryz.prog,W0,D0,nn,ow,E1,Y,kj⟩ (.seq (.bS none [⟨some a,.mv (.t d),none⟩,⟨some b,.call 107 [.t a],none⟩]) y) Q (aq ts os):=by
 have hdrop:∀ m,ai (cw [n] os) m=if m=n then none else ai os m:=fun m=>by
  have:=lM [n] os m
  simpa using this
 have ho':∀ m y,ai os m=some y→m≠n→y.only (fun j=>j != n)=true:=fun m y hy hm=>by
  have:=tL ho m y (by rw[hdrop,if_neg hm];exact hy)
  exact qj (fun j hj=>by simpa using hj) this
 refine J.zd hn hx hlt ht (fun m y hy hm=>.inr (ho' m y hy hm)) fun q =>?_
 refine J.seq (J.bS (cl:=[]) (by rfl) fun K hK =>?_)
 have hd':Abs.bH (ts.map fun p=>(p.1,fg n xs.length p.2)) d=.view n [] 1 0 xs.length:=by
  rw[nA _ rfl,hd];simp[fg]
 simp only[U,simprocAttr,hd']
 refine .bQ false [(1000000,n)] (bX 1000000 (xs++List.replicate q 0)) [.view 1000000 [] 1 0 xs.length] _ rfl (zl xs _ hl) ?_ ?_ ?_ ?_
 ·refine ⟨fun m y hy =>?_,fun m m' h h' _=>by rw[cQ.1 h,cQ.1 h']⟩
  simp only[bX,ai] at hy
  split at hy
  ·rename_i hm
   cases hy
   subst hm
   exact ⟨by simp only[bA,if_true,ai,ah.aM,I.aM,gw],jv _ _,rfl⟩
  ·cases hy
 ·exact ⟨.inl ⟨by simp[I.aM,bA],cQ.2 rfl,rfl⟩,trivial⟩
 ·rintro eJ os2 ⟨rfl,rfl⟩
  refine ⟨fun m y hy =>?_,fun m m' h h' _=>by rw[cQ.1 h,cQ.1 h'],fun m hm=>by rw[cQ.1 hm];exact cQ.2 rfl,fun m a b=>by rw[cQ.1 a] at b;simp[bX,ao,ai] at b,rfl,fun _=>rfl⟩
  simp only[bX,ai] at hy
  split at hy
  ·cases hy;exact ⟨jv _ _,rfl,fun h=>by cases h⟩
  ·cases hy
 ·rintro eJ os2 ⟨rfl,rfl⟩
  try simp only[bX,dC,List.map_cons,List.map_nil,ah.aM,I.aM,gw,bA,reduceIte,List.cons_append,List.nil_append,I.cR,U,simprocAttr]
  refine .done (hK _ ?_);clear hK K
  refine J.sub (aC.cD (ts':=(d,I.view n [] 1 0 xs.length)::ts') ⟨?_,y6 fun p hp =>?_⟩ (fun m =>?_)) (h q)
  ·simp only[Abs.bH,hda,hdb,if_false];exact hd'
  ·obtain ⟨k1,k2,k3,k4⟩:=h1 p hp
   have h5:Abs.bH (ts.map fun p=>(p.1,fg n xs.length p.2)) p.1=p.2:=by
    rw[nA _ rfl,k3,qh k4]
   simp only[Abs.bH,k1,k2,if_false,h5]
  ·by_cases hm:m=n
   ·simp[ai,hm]
   ·simp only[ai,if_neg hm,re,hdrop]
    cases h6:ai os m with
    |none=>rfl
    |some y =>
     have h7:ir (fg n xs.length) y=y:=y9 _ (qj (fun j hj=>by simpa using hj) (ho' _ _ h6 hm))
     simp[h7]
def dj(xs:List Int):Nat→List Int
 |0=>[]
 |r+1=>if r=0∨xs.getD r 0≠xs.getD (r-1) 0 then dj xs r++[xs.getD r 0] else dj xs r
theorem sX{xs:List Int}{i:Nat}(h:i<xs.length):xs.getD i 0=xs[i]:=by
 rw[List.getD_eq_getElem?_getD,List.getElem?_eq_getElem h];rfl
theorem CO{xs:List Int}(hs:xs.Pairwise (· ≤ ·)):∀ r,r≤xs.length→fV (dj xs r)∧∀ y,y∈dj xs r↔y∈xs.take r
 |0,_=>⟨.nil,by simp[dj]⟩
 |r+1,h=>by
  obtain ⟨h1,h2⟩:=CO hs r (by omega)
  have hx:=sX (xs:=xs) (i:=r) (by omega)
  rw[List.take_succ_eq_append_getElem (by omega),←hx]
  simp only[dj]
  by_cases h0:r=0
  ·subst h0
   simp[dj,fV]
  have hp:=sX (xs:=xs) (i:=r-1) (by omega)
  have hle:∀ y∈xs.take r,y≤xs.getD (r-1) 0:=fun y hy=>by
   obtain ⟨i,hi,rfl⟩:=List.mem_take_iff_getElem.1 hy
   rw[hp]
   by_cases e:i=r-1
   ·simp only[e];omega
   ·exact List.pairwise_iff_getElem.1 hs i (r-1) (by omega) (by omega) (by omega)
  have hpr:xs.getD (r-1) 0≤xs.getD r 0:=by
   rw[hp,hx];exact List.pairwise_iff_getElem.1 hs (r-1) r (by omega) (by omega) (by omega)
  have hpm:xs.getD (r-1) 0∈xs.take r:=by
   rw[hp,List.mem_take_iff_getElem];exact ⟨r-1,by omega,rfl⟩
  by_cases he:xs.getD r 0=xs.getD (r-1) 0
  ·rw[if_neg (fun h=>h.elim h0 (fun h=>h he))]
   refine ⟨h1,fun y =>?_⟩
   rw[h2,List.mem_append,List.mem_singleton]
   constructor
   ·exact .inl
   ·rintro (h | rfl)
    ·exact h
    ·rw[he];exact hpm
  ·rw[if_pos (.inr he)]
   refine ⟨List.pairwise_append.2 ⟨h1,by simp,fun y hy z hz =>?_⟩,fun y=>by rw[List.mem_append,List.mem_append,h2]⟩
   have:=hle y ((h2 y).1 hy)
   simp only[List.mem_singleton] at hz
   subst hz;omega
theorem Ub(xs:List Int):dj (du xs) (du xs).length=gA xs:=by
 obtain ⟨h1,h2⟩:=CO (yV xs) _ (Nat.le_refl _)
 refine yC h1 (MI xs) fun y =>?_
 rw[h2,List.take_length,MH,(oO xs).mem_iff]
def Ua(xs:List Int)(N:Nat):cN:=fun r os'=>∃ ws:List Int,r=.view 1000000 [] 1 0 (dj xs xs.length).length∧os'=bX 1000000 ws∧ws.take (dj xs xs.length).length=dj xs xs.length∧ws.length=N
theorem I8{m lo l i:Nat}(h:i<l)(fs:List I):ja m [] 1 lo l 1 (i:Int) (some fs)=some (.ptr m [lo+i]):=nz h
theorem Ns(xs q:List Int)(hn:xs.length≤200):cz Tryz.prog 108 [.view 1000000 [] 1 0 xs.length] (bX 1000000 (xs++q)) (Ua xs (xs++q).length):=by
 refine cz.bn Tryz.func108 Cn Cw CP (Nat.le_of_ble_eq_true rfl) (Nat.le_of_ble_eq_true rfl) mO (fun hwf W0 D0 E1 =>?_)
 simp only[vf,yl,a6]
 clear hwf
 have hcl:∀ k,k≤xs.length→dj xs k=xs.take k→(dj xs k).length=k:=fun k hk e=>by rw[e,List.length_take];omega
 by_cases h2:xs.length<2
 ·have hd2:decide ((xs.length:Int)<2)=true:=by simp;omega
  have e:dj xs xs.length=xs:=by
   have:xs.length=0∨xs.length=1:=by omega
   rcases this with e | e
   ·rw[e,List.eq_nil_of_length_eq_zero e];rfl
   ·obtain ⟨x,rfl⟩:=List.length_eq_one_iff.1 e
    simp[dj]
  have R:=And.intro @hd2 (And.intro @cG (And.intro @bh (And.intro @aK @U)))
  repeat' ((first
   |(with_reducible refine .guard (fun hb =>?_) (fun hb =>?_) <;>try simp only[hb])
   |refine J.aG (by decide +kernel) rfl fun K hK =>?_
   |(refine .aw [0,2,3,4,5,8,13,25,32,44] hK ?_;clear hK K)
   |(with_reducible refine .done (hK _ ?_);clear hK K)
   |refine J.of rfl ?_
   |(with_reducible refine ak.aE (fun h =>?_) (fun h =>?_) <;>try simp only[h])) <;>try simp only[aH,R,simprocAttr])
  all_goals clear R
  rw[fq]
  exact ⟨bX 1000000 (xs++q),[.view 1000000 [] 1 0 xs.length],kL rfl (fun p=>jv p _),⟨⟨_,rfl,.inl ⟨rfl,rfl,rfl⟩⟩,trivial⟩,xs++q,by rw[e];rfl,rfl,by rw[e,List.take_left],rfl⟩
 have hd2:decide ((xs.length:Int)<2)=false:=by simp;omega
 have hat:∀ i,i<xs.length→(xs++q).getD i 0=xs.getD i 0:=fun i hi=>by
  simp only[List.getD_eq_getElem?_getD]
  rw[List.getElem?_append_left hi]
 have R:=And.intro @hd2 (And.intro @cG (And.intro @bh (And.intro @aK @U)))
 repeat' ((first
  |(with_reducible refine .guard (fun hb =>?_) (fun hb =>?_) <;>try simp only[hb])
  |refine J.aG (by decide +kernel) rfl fun K hK =>?_
  |(refine .aw [0,2,3,4,5,8,13,25,32,44] hK ?_;clear hK K)
  |(with_reducible refine .done (hK _ ?_);clear hK K)
  |refine J.of rfl ?_
  |(with_reducible refine ak.aE (fun h =>?_) (fun h =>?_) <;>try simp only[h])) <;>try simp only[aH,R,simprocAttr])
 all_goals clear R
 refine J.loop (fun k:Nat=>aq [(0,.view 1000000 [] 1 0 xs.length),(3,.int .i64 k)] (bX 1000000 (xs++q))) (fun k=>1≤k∧k≤xs.length∧dj xs k=xs.take k) (fun k=>xs.length-k) 1 ⟨Nat.le_refl _,by omega,?_⟩ ?_ (fun k hk =>?_)
 ·have e1:dj xs 1=[xs.getD 0 0]:=by simp[dj]
  rw[e1,List.take_succ_eq_append_getElem (by omega),sX (by omega)];rfl
 ·try simp only[bX]
  refine aC.bZ ?_ ?_ ?_ ?_ <;>simp[aX,bO,bM,bt,ao,aW,cA,I.only,ah.only,dU,gv]
 obtain ⟨k1,k2,k3⟩:=hk
 simp only[bX]
 by_cases hlt:k<xs.length
 case neg =>
  have hc:=fD hlt
  have hge:k=xs.length:=by omega
  subst hge
  rw[List.take_length] at k3
  have R:=And.intro @hc (And.intro @cG (And.intro @bh (And.intro @aK @U)))
  repeat' ((first
   |(with_reducible refine .guard (fun hb =>?_) (fun hb =>?_) <;>try simp only[hb])
   |refine J.aG (by decide +kernel) rfl fun K hK =>?_
   |(refine .aw [0,2,3,4,5,8,13,25,32,44] hK ?_;clear hK K)
   |(with_reducible refine .done (hK _ ?_);clear hK K)
   |refine J.of rfl ?_
   |(with_reducible refine ak.aE (fun h =>?_) (fun h =>?_) <;>try simp only[h])) <;>try simp only[aH,R,simprocAttr])
  all_goals clear R
  rw[fq]
  exact ⟨bX 1000000 (xs++q),[.view 1000000 [] 1 0 xs.length],kL rfl (fun p=>jv p _),⟨⟨_,rfl,.inl ⟨rfl,rfl,rfl⟩⟩,trivial⟩,xs++q,by rw[k3];rfl,rfl,by rw[k3,List.take_left],rfl⟩
 have hc:=fy hlt
 have hw:=eH (i:=k) (by omega)
 have hw1:IntKind.i64.wrap ((k:Int)-1)=((k-1:Nat):Int):=by rw[dz _ (by omega) (by omega)];omega
 have v1:=ik (n:=xs.length) (i:=k) hlt
 have v2:=ik (n:=xs.length) (i:=k-1) (by omega)
 have l1:=fL (xs:=xs++q) (i:=k) (by simp;omega)
 have l2:=fL (xs:=xs++q) (i:=k-1) (by simp;omega)
 rw[hat _ (by omega)] at l1 l2
 have hsu:dj xs (k+1)=if xs.getD k 0≠xs.getD (k-1) 0 then dj xs k++[xs.getD k 0] else dj xs k:=by
  simp only[dj]
  simp[show k≠0 by omega]
 rcases hq:(xs.getD k 0==xs.getD (k-1) 0)
 ·have hne:xs.getD k 0≠xs.getD (k-1) 0:=by simpa using hq
  have R:=And.intro @hc (And.intro @hw (And.intro @hw1 (And.intro @v1 (And.intro @v2 (And.intro @l1 (And.intro @l2 (And.intro @hq (And.intro @cG (And.intro @bh (And.intro @aK @U))))))))))
  repeat' ((first
   |(with_reducible refine .guard (fun hb =>?_) (fun hb =>?_) <;>try simp only[hb])
   |refine J.aG (by decide +kernel) rfl fun K hK =>?_
   |(refine .aw [0,2,3,4,5,8,13,25,32,44] hK ?_;clear hK K)
   |(with_reducible refine .done (hK _ ?_);clear hK K)
   |refine J.of rfl ?_
   |(with_reducible refine ak.aE (fun h =>?_) (fun h =>?_) <;>try simp only[h])) <;>try simp only[aH,R,simprocAttr])
  all_goals clear R
  refine ⟨k+1,⟨by omega,by omega,?_⟩,by omega,?_⟩
  ·rw[hsu,if_pos hne,k3,List.take_succ_eq_append_getElem hlt,sX hlt]
  ·try simp only[bX]
   refine aC.bZ ?_ ?_ ?_ ?_ <;>simp[aX,bO,bM,bt,ao,aW,cA,I.only,ah.only,dU,gv]
 have heq:xs.getD k 0=xs.getD (k-1) 0:=by simpa using hq
 rw[if_neg (fun h=>h heq)] at hsu
 have hsl:=rI (n:=1000000) (p:=[]) (sz:=1) (k:=xs.length) (total:=(xs++q).length) (i:=k) (by omega) (by simp) (by simp;omega)
 have hml:((xs++q).map (enc (α:=Int))).length=(xs++q).length:=by simp
 have R:=And.intro @hc (And.intro @hw1 (And.intro @v1 (And.intro @v2 (And.intro @l1 (And.intro @l2 (And.intro @hq (And.intro @hml (And.intro @hsl (And.intro @cG (And.intro @bh (And.intro @aK @U)))))))))))
 repeat' ((first
  |(with_reducible refine .guard (fun hb =>?_) (fun hb =>?_) <;>try simp only[hb])
  |refine J.aG (by decide +kernel) rfl fun K hK =>?_
  |(refine .aw [0,2,3,4,5,8,13,25,32,44] hK ?_;clear hK K)
  |(with_reducible refine .done (hK _ ?_);clear hK K)
  |refine J.of rfl ?_
  |(with_reducible refine ak.aE (fun h =>?_) (fun h =>?_) <;>try simp only[h])) <;>try simp only[aH,R,Option.map_none,simprocAttr])
 all_goals clear R
 refine J.loop (fun s:Nat×List Int=>aq [(0,.view 1000000 [] 1 0 xs.length),(3,.int .i64 (dj xs (k+s.1)).length),(4,.view 1000000 [] 1 k (xs.length-k)),(5,.int .i64 s.1)] (bX 1000000 s.2)) (fun s=>1≤s.1∧k+s.1≤xs.length∧s.2.length=(xs++q).length∧s.2.take (dj xs (k+s.1)).length=dj xs (k+s.1)∧(dj xs (k+s.1)).length+1≤k+s.1∧∀ j,k+s.1≤j+1→s.2[j]?=(xs++q)[j]?) (fun s=>xs.length-k-s.1) (1,xs++q) ⟨Nat.le_refl _,by simp only;omega,rfl,?_,?_,fun j _=>rfl⟩ ?_ ?_
 ·simp only[hsu,k3,List.length_take]
  rw[Nat.min_eq_left (by omega),List.take_append_of_le_length (by omega)]
 ·simp only[hsu,hcl k k2 k3];omega
 ·simp only[hsu,hcl k k2 k3,bX]
  refine aC.bZ ?_ ?_ ?_ ?_ <;>simp[aX,bO,bM,bt,ao,aW,cA,I.only,ah.only,dU,gv]
 rintro ⟨t,ws⟩ ⟨t1,t2,t3,t4,t5,t6⟩
 simp only at t1 t2 t3 t4 t5 t6 ⊢
 simp only[bX]
 have htl:(xs++q).length=xs.length+q.length:=List.length_append
 have hgt:∀ j,k+t≤j+1→j<xs.length→ws.getD j 0=xs.getD j 0:=fun j h1 h2=>by
  rw[List.getD_eq_getElem?_getD,t6 j h1,←List.getD_eq_getElem?_getD,hat j h2]
 by_cases hlt2:t<xs.length-k
 ·have hc2:decide ((t:Int)<((xs.length-k:Nat):Int))=true:=by simp;omega
  have hw2:=eH (i:=t) (by omega)
  have hw3:IntKind.i64.wrap ((t:Int)-1)=((t-1:Nat):Int):=by rw[dz _ (by omega) (by omega)];omega
  have hw4:=eH (i:=(dj xs (k+t)).length) (by omega)
  have v3:=I8 (m:=1000000) (lo:=k) (l:=xs.length-k) (i:=t) hlt2
  have v4:=I8 (m:=1000000) (lo:=k) (l:=xs.length-k) (i:=t-1) (by omega)
  have v5:=ik (n:=xs.length) (i:=(dj xs (k+t)).length) (by omega)
  have l3:=fL (xs:=ws) (i:=k+t) (by omega)
  have l4:=fL (xs:=ws) (i:=k+(t-1)) (by omega)
  rw[hgt _ (by omega) (by omega)] at l3 l4
  have s1:=fun (A:ab) v u rest=>mY (A:=A) (n:=1000000) (xs:=ws) (i:=(dj xs (k+t)).length) (by omega) v u rest
  have l5:=fL (xs:=ws) (i:=(dj xs (k+t)).length) (by omega)
  have hsu2:dj xs (k+(t+1))=if xs.getD (k+t) 0≠xs.getD (k+(t-1)) 0 then dj xs (k+t)++[xs.getD (k+t) 0] else dj xs (k+t):=by
   rw[show k+(t+1)=(k+t)+1 by omega]
   simp only[dj]
   rw[show k+t-1=k+(t-1) by omega]
   have h0:(k+t=0)=False:=by simp;omega
   simp only[h0,false_or]
  generalize hL:dj xs (k+t)=L at *
  rcases hq2:(xs.getD (k+t) 0 != xs.getD (k+(t-1)) 0)
  ·have heq2:xs.getD (k+t) 0=xs.getD (k+(t-1)) 0:=by simpa using hq2
   rw[if_neg (fun h=>h heq2)] at hsu2
   have R:=And.intro @hc2 (And.intro @hw2 (And.intro @hw3 (And.intro @v3 (And.intro @v4 (And.intro @l3 (And.intro @l4 (And.intro @hq2 (And.intro @cG (And.intro @bh (And.intro @aK @U))))))))))
   repeat' ((first
    |(with_reducible refine .guard (fun hb =>?_) (fun hb =>?_) <;>try simp only[hb])
    |refine J.aG (by decide +kernel) rfl fun K hK =>?_
    |(refine .aw [0,2,3,4,5,8,13,25,32,44] hK ?_;clear hK K)
    |(with_reducible refine .done (hK _ ?_);clear hK K)
    |refine J.of rfl ?_
    |(with_reducible refine ak.aE (fun h =>?_) (fun h =>?_) <;>try simp only[h])) <;>try simp only[aH,R,simprocAttr])
   all_goals clear R
   refine ⟨(t+1,ws),⟨by simp only;omega,by simp only;omega,t3,?_,?_,fun j hj=>t6 j (by simp only at hj;omega)⟩,by simp only;omega,?_⟩
   ·simp only[hsu2];exact t4
   ·simp only[hsu2];omega
   ·simp only[hsu2]
    refine aC.bZ ?_ ?_ ?_ ?_ <;>simp[aX,bO,bM,bt,ao,aW,cA,I.only,ah.only,dU]
  ·have hne2:xs.getD (k+t) 0≠xs.getD (k+(t-1)) 0:=by simpa using hq2
   rw[if_pos hne2] at hsu2
   have R:=And.intro @hc2 (And.intro @hw2 (And.intro @hw3 (And.intro @hw4 (And.intro @v3 (And.intro @v4 (And.intro @v5 (And.intro @l3 (And.intro @l4 (And.intro @l5 (And.intro @s1 (And.intro @hq2 (And.intro @cG (And.intro @bh (And.intro @aK @U))))))))))))))
   repeat' ((first
    |(with_reducible refine .guard (fun hb =>?_) (fun hb =>?_) <;>try simp only[hb])
    |refine J.aG (by decide +kernel) rfl fun K hK =>?_
    |(refine .aw [0,2,3,4,5,8,13,25,32,44] hK ?_;clear hK K)
    |(with_reducible refine .done (hK _ ?_);clear hK K)
    |refine J.of rfl ?_
    |(with_reducible refine ak.aE (fun h =>?_) (fun h =>?_) <;>try simp only[h])) <;>try simp only[aH,R,simprocAttr])
   all_goals clear R
   refine ⟨(t+1,ws.set L.length (xs.getD (k+t) 0)),⟨by simp only;omega,by simp only;omega,by simpa using t3,?_,?_,fun j hj =>?_⟩,by simp only;omega,?_⟩
   ·simp only[hsu2,List.length_append,List.length_singleton]
    rw[List.take_succ_eq_append_getElem (by simp;omega),List.take_set_of_le (Nat.le_refl _),t4]
    simp
   ·simp only[hsu2,List.length_append,List.length_singleton];omega
   ·simp only at hj
    rw[List.getElem?_set_ne (by omega)]
    exact t6 j (by omega)
   ·simp only[hsu2,List.length_append,List.length_singleton]
    generalize ws.set _ _=ws2
    refine aC.bZ ?_ ?_ ?_ ?_ <;>simp[aX,bO,bM,bt,ao,aW,cA,I.only,ah.only,dU]
 ·have hc2:decide ((t:Int)<((xs.length-k:Nat):Int))=false:=by simp;omega
  have hkt:k+t=xs.length:=by omega
  rw[hkt] at t4 t5 ⊢
  have hsl2:=rI (n:=1000000) (p:=[]) (sz:=1) (k:=xs.length) (total:=ws.length) (i:=(dj xs xs.length).length) (by omega) (by omega) (by omega)
  have hsl3:=fun us:List Int=>fun (hu:us.length=ws.length)=>uk (n:=1000000) (p:=[]) (sz:=1) (k:=xs.length) (total:=us.length) (i:=(dj xs xs.length).length) (by omega) (by omega)
  have hml2:∀ us:List Int,(us.map (enc (α:=Int))).length=us.length:=fun us=>by simp
  have hclr:=fun (A:ab) rest ho=>sv (A:=A) (rest:=rest) (esz:=1) (α:=Int) 0 (n:=1000000) (lo:=(dj xs xs.length).length) (k:=xs.length-(dj xs xs.length).length) (xs:=ws) ho (by omega)
  simp only[ij] at hclr
  obtain ⟨us,hus⟩:∃ us,us=ws.take (dj xs xs.length).length++(List.replicate (xs.length-(dj xs xs.length).length) 0++ws.drop ((dj xs xs.length).length+(xs.length-(dj xs xs.length).length))):=⟨_,rfl⟩
  have hul:us.length=ws.length:=by
   rw[hus];simp only[List.length_append,List.length_take,List.length_replicate,List.length_drop];omega
  have hut:us.take (dj xs xs.length).length=dj xs xs.length:=by
   rw[hus,List.take_append_of_le_length (by rw[List.length_take];omega),List.take_take,Nat.min_self,t4]
  have hsl3:=hsl3 us hul
  simp only[←hus] at hclr
  generalize hL:dj xs xs.length=L at *
  refine J.seq (J.seq ?_)
  refine .bV (by decide +kernel) fun K hK =>?_
  simp only[Ee,U,simprocAttr]
  try simp only[hc2,cG,U,simprocAttr]
  refine .done (hK _ ?_);clear hK K;try simp only[aF]
  refine J.bW ?_
  simp only[ak,U,simprocAttr]
  refine ⟨fun h =>?_,fun h =>?_⟩
  ·cases h
  refine J.exit ?_;try simp only[aF,b8,simprocAttr]
  refine .au (by decide +kernel) fun K hK =>?_
  simp only[Ec,U,simprocAttr]
  try simp only[hml2,hsl2,Option.map_none,cG,U,simprocAttr]
  rw[hclr _ _ rfl]
  try simp only[U,simprocAttr]
  refine .done (hK _ ?_);clear hK K
  refine .au (by decide +kernel) fun K hK =>?_
  simp only[Ed,U,simprocAttr]
  try simp only[hml2,hsl3,Option.map_none,cG,U,simprocAttr]
  refine .done (hK _ ?_);clear hK K
  refine J.ret ?_
  simp only[b8,aF,fq]
  exact ⟨bX 1000000 us,[.view 1000000 [] 1 0 L.length],kL rfl (fun p=>jv p _),⟨⟨_,rfl,.inl ⟨rfl,rfl,rfl⟩⟩,trivial⟩,us,by rw[hL];rfl,rfl,by rw[hL];exact hut,by omega⟩
theorem Nt:av Tryz.prog 108 [enc ([]:List Int)] (enc ([]:List Int)):=by
 refine av.bn Tryz.func108 Cn Cw CP (Nat.le_of_ble_eq_true rfl) (fun hwf W0 D0 E1 =>?_)
 simp only[vf,yl,a6]
 clear hwf
 have h0:decide (((([]:List Int).length:Nat):Int)<2)=true:=rfl
 have h1:decide ((0:Int)<2)=true:=rfl
 have R:=And.intro @h0 (And.intro @h1 (And.intro @bh (And.intro @aK @U)))
 repeat' ((first
  |(with_reducible refine .guard (fun hb =>?_) (fun hb =>?_) <;>try simp only[hb])
  |refine J.aG (by decide +kernel) rfl fun K hK =>?_
  |(refine .aw [0,2,3,4,5,8,13,25,32,44] hK ?_;clear hK K)
  |(with_reducible refine .done (hK _ ?_);clear hK K)
  |refine J.of rfl ?_
  |(with_reducible refine ak.aE (fun h =>?_) (fun h =>?_) <;>try simp only[h])) <;>try simp only[aH,R,simprocAttr])
 all_goals clear R
theorem OC(l:List al):av Tryz.prog 44 [enc l] (.tuple [enc (n8 l).1,enc (n8 l).2]):=by
 have hF:=zI l
 refine av.bn Tryz.func44 Rq Tn Vy (Nat.le_of_ble_eq_true rfl) (fun hwf W0 D0 E1 =>?_)
 simp only[BP,Lx,a6]
 clear hwf
 simp only[n8]
 rcases q1:df l
 ·rw[q1,if_neg (by decide)] at hF
  have R:=And.intro @aK @U
  repeat' ((first
   |(with_reducible refine .guard (fun hb =>?_) (fun hb =>?_) <;>try simp only[hb])
   |refine J.aG (by decide +kernel) rfl fun K hK =>?_
   |refine .flat _ (hF) rfl ?_
   |(refine .aw [0,2,3,4,5,7,11,13,14,15,16] hK ?_;clear hK K)
   |(with_reducible refine .done (hK _ ?_);clear hK K)
   |refine J.of rfl ?_
   |(with_reducible refine ak.aE (fun h =>?_) (fun h =>?_) <;>try simp only[h])) <;>try simp only[aH,R,simprocAttr])
  all_goals clear R
  all_goals rfl
 rw[q1,if_pos rfl] at hF
 have hll:=ke q1
 have R:=And.intro @bh (And.intro @aK @U)
 repeat' ((first
  |(with_reducible refine .guard (fun hb =>?_) (fun hb =>?_) <;>try simp only[hb])
  |refine J.aG (by decide +kernel) rfl fun K hK =>?_
  |refine .flat _ (hF) rfl ?_
  |(refine .aw [0,2,3,4,5,7,11,13,14,15,16] hK ?_;clear hK K)
  |(with_reducible refine .done (hK _ ?_);clear hK K)
  |refine J.of rfl ?_
  |(with_reducible refine ak.aE (fun h =>?_) (fun h =>?_) <;>try simp only[h])) <;>try simp only[aH,R,simprocAttr])
 all_goals clear R
 refine J.loop (fun i:Nat=>aq [(5,.own 905 ((l.take i).map (·.known)).length),(13,enc l),(14,.int .i64 l.length),(15,.int .i64 i)] [(905,.cM 3 ((l.take i).map (·.known)))]) (fun i=>i≤l.length) (fun i=>l.length-i) 0 (Nat.zero_le _) ?_ (fun i hi =>?_)
 ·refine aC.uT 5 905 3 1 rfl rfl ?_
  simp only[List.take_zero,List.map_nil,List.length_nil]
  refine aC.bZ ?_ ?_ ?_ ?_ <;>simp[aX,bO,bM,bt,ao,aW,cA,I.only,ah.only,bB]
 have htl:((l.take i).map (·.known)).length≤60:=by rw[List.length_map,List.length_take];omega
 by_cases hlt:i<l.length
 ·have hc:=fy hlt
  have hw:=eH (i:=i) (by omega)
  have he:=fun A=>gJ (A:=A) hlt
  have hsu:(l.take (i+1)).map (·.known)=(l.take i).map (·.known)++[(ae l i).known]:=by
   rw[List.take_succ_eq_append_getElem hlt,List.map_append,kI hlt];rfl
  generalize (l.take i).map (·.known)=xs at htl hsu ⊢
  have happ:=fun (A:ab) d rest=>sa (A:=A) (d:=d) (e:=3) (bytes:=8) (n:=905) (l:=xs.length) (xs:=xs) (y:=(ae l i).known) (rest:=rest) rfl (by simp[maxLen];omega) (by omega)
  have R:=And.intro @hc (And.intro @hw (And.intro @he (And.intro @happ ee)))
  repeat' ((first
   |(with_reducible refine .guard (fun hb =>?_) (fun hb =>?_) <;>try simp only[hb])
   |refine J.aG (by decide +kernel) rfl fun K hK =>?_
   |(refine .aw [0,2,3,4,5,7,11,13,14,15,16] hK ?_;clear hK K)
   |(with_reducible refine .done (hK _ ?_);clear hK K)
   |refine J.of rfl ?_
   |(with_reducible refine ak.aE (fun h =>?_) (fun h =>?_) <;>try simp only[h])) <;>try simp only[aH,R,simprocAttr])
  all_goals clear R
  refine ⟨i+1,by omega,by omega,?_⟩
  simp only[hsu]
  refine aC.bZ ?_ ?_ ?_ ?_ <;>simp[aX,bO,bM,bt,ao,aW,cA,I.only,ah.only,bB]
 have hc:=fD hlt
 have hge:i=l.length:=by omega
 subst hge
 rw[List.take_length] at htl ⊢
 refine .au (by decide +kernel) fun K hK =>?_
 simp only[HR,U,simprocAttr]
 try simp only[hc,simprocAttr]
 refine .done (hK _ ?_);clear hK K
 refine J.seq ?_
 refine J.bW ?_
 simp only[ak,U,simprocAttr]
 refine ⟨fun h =>?_,fun h =>?_⟩
 ·cases h
 refine J.exit ?_;try simp only[aF,b8,simprocAttr]
 rw[←Ub]
 generalize l.map (·.known)=xs at htl
 by_cases hx:xs=[]
 ·subst hx
  refine J.gA (a:=25) (b:=26) (d:=5) (n:=905) (xs:=[]) rfl rfl (by decide) (by simp) (pU (by simp[kR,I.only,bB])) (by simp[cw,bt]) [] (by simp) (by decide) (by decide) ?_
  have e:du []=[]:=by simp[du]
  rw[e]
  have hN:=Nt
  have R:=And.intro @bh (And.intro @aK @U)
  repeat' ((first
   |(with_reducible refine .guard (fun hb =>?_) (fun hb =>?_) <;>try simp only[hb])
   |refine J.aG (by decide +kernel) rfl fun K hK =>?_
   |refine .lead _ (hN) ?_
   |(refine .aw [0,2,3,4,5,7,11,13,14,15,16] hK ?_;clear hK K)
   |(with_reducible refine .done (hK _ ?_);clear hK K)
   |refine J.of rfl ?_
   |(with_reducible refine ak.aE (fun h =>?_) (fun h =>?_) <;>try simp only[h])) <;>try simp only[aH,R,simprocAttr])
  all_goals clear R
  all_goals rfl
 ·refine J.alr hx (a:=25) (b:=26) (d:=5) (n:=905) (xs:=xs) rfl rfl (by decide) (by omega) (pU (by simp[kR,I.only,bB])) (by simp[cw,bt]) [] (by simp) (by decide) (by decide) fun q =>?_
  have hsl:(du xs).length=xs.length:=(oO xs).length_eq
  rw[←hsl]
  generalize du xs=ys at hsl ⊢
  refine .au (by decide +kernel) fun K hK =>?_
  simp only[HQ,U,simprocAttr]
  try simp only[cw,simprocAttr]
  refine .bQ false [(1000000,905)] (bX 1000000 (ys++List.replicate q 0)) [.view 1000000 [] 1 0 ys.length] _ rfl (Ns ys _ (by omega)) ?_ ?_ ?_ ?_
  ·refine ⟨fun m y hy =>?_,fun m m' h h' _=>by rw[cQ.1 h,cQ.1 h']⟩
   simp only[bX,ai] at hy
   split at hy
   ·rename_i hm
    cases hy
    subst hm
    exact ⟨by simp only[bA,if_true,ai,ah.aM,I.aM,gw],jv _ _,rfl⟩
   ·cases hy
  ·exact ⟨.inl ⟨by simp[I.aM,bA],cQ.2 rfl,rfl⟩,trivial⟩
  ·rintro eJ os2 ⟨ws,rfl,rfl,h1,h2⟩
   exact ev.JP (fun p=>jv p _) (fun h=>by cases h) rfl (fun h=>by cases h)
  ·rintro eJ os2 ⟨ws,rfl,rfl,h1,h2⟩
   try simp only[bX,dC,List.map_cons,List.map_nil,ah.aM,I.aM,gw,bA,reduceIte,List.cons_append,List.nil_append,U,simprocAttr]
   refine .done (hK _ ?_);clear hK K
   refine J.ret ?_
   simp only[U,simprocAttr]
   try simp only[qJ (α:=Int) (sz:=1) rfl,h1,U,simprocAttr]
   all_goals rfl
theorem OF(a b:aA):av Tryz.prog 47 [enc a,enc b] (enc (decide (a=b))):=by
 refine av.bn Tryz.func47 Rt Tr VB (Nat.le_of_ble_eq_true rfl) (fun hwf W0 D0 E1 =>?_)
 simp only[BS,LA,a6,Nat.zero_add]
 have hla:a.aY.length≤maxLen∧b.aY.length≤maxLen:=⟨((jZ a.aY).1 hwf.1.2.2.2.2.2.2.2.2.1).1,((jZ b.aY).1 hwf.2.1.2.2.2.2.2.2.2.2.1).1⟩
 clear hwf
 simp only[maxLen] at hla
 have R:=And.intro @Xv (And.intro @cC (And.intro @fI (And.intro @bh (And.intro @aK @U))))
 repeat' ((first
  |(with_reducible refine .guard (fun hb =>?_) (fun hb =>?_) <;>try simp only[hb])
  |refine J.aG (by decide +kernel) rfl fun K hK =>?_
  |(refine .aw [0,1,2,3,4,5,68,73,86] hK ?_;clear hK K)
  |(with_reducible refine .done (hK _ ?_);clear hK K)
  |refine J.of rfl ?_
  |(with_reducible refine ak.aE (fun h =>?_) (fun h =>?_) <;>try simp only[h])) <;>try simp only[aH,R,simprocAttr])
 all_goals clear R
 all_goals first
  |(have:¬ a=b:=by rintro rfl;simp_all
    simp[this];done)
  |skip
 have hf:a.no=b.no∧a.ec=b.ec∧a.dI=b.dI∧a.b5=b.b5∧a.iz=b.iz∧a.born=b.born∧a.dm=b.dm∧a.found=b.found∧a.aY.length=b.aY.length:=by
  refine ⟨?_,?_,?_,?_,?_,?_,?_,?_,?_⟩ <;>first | (simp_all;done) | (simp_all;omega)
 have hab:a.aY=b.aY→a=b:=fun h=>by
  cases a;cases b;simp_all
 have hl:=hf.2.2.2.2.2.2.2.2
 clear hf
 refine J.loop (fun i:Nat=>aq [(2,.ptr 2 []),(3,.ptr 3 []),(5,.int .i64 i)] [(2,.box (enc a)),(3,.box (enc b))]) (fun i=>i≤a.aY.length∧∀ k,k<i→a.aY[k]?=b.aY[k]?) (fun i=>a.aY.length-i) 0 ⟨Nat.zero_le _,fun k h=>by omega⟩ ?_ (fun i hi =>?_)
 ·refine aC.bZ ?_ ?_ ?_ ?_ <;>simp[aX,bO,bM,bt,ao,aW,cA,I.only,ah.only,bB]
 obtain ⟨hi1,hi2⟩:=hi
 by_cases hlt:i<a.aY.length
 ·have hc:=fy hlt
  have he:=fun A=>eA (A:=A) 6 hlt rfl
  have hlt2:i<b.aY.length:=by omega
  have he2:=fun A=>eA (A:=A) 6 hlt2 rfl
  have hw:=eH (i:=i) (by omega)
  have hex:=zi a.aY[i] b.aY[i]
  rcases hp:decide ((a.aY[i]).l=(b.aY[i]).l)
  ·have R:=And.intro @hc (And.intro @he (And.intro @he2 (And.intro @hp (And.intro @px (And.intro @cC (And.intro @fI (And.intro @bh (And.intro @aK @U))))))))
   repeat' ((first
    |(with_reducible refine .guard (fun hb =>?_) (fun hb =>?_) <;>try simp only[hb])
    |refine J.aG (by decide +kernel) rfl fun K hK =>?_
    |(refine .aw [0,1,2,3,4,5,68,73,86] hK ?_;clear hK K)
    |(with_reducible refine .done (hK _ ?_);clear hK K)
    |refine J.of rfl ?_
    |(with_reducible refine ak.aE (fun h =>?_) (fun h =>?_) <;>try simp only[h])) <;>try simp only[aH,R,simprocAttr])
   all_goals clear R
   have:¬ a=b:=by rintro rfl;simp at hp
   simp[this]
  ·have R:=And.intro @hc (And.intro @he (And.intro @he2 (And.intro @hp (And.intro @hw (And.intro @px (And.intro @cC (And.intro @fI (And.intro @bh (And.intro @aK @U)))))))))
   repeat' ((first
    |(with_reducible refine .guard (fun hb =>?_) (fun hb =>?_) <;>try simp only[hb])
    |refine J.aG (by decide +kernel) rfl fun K hK =>?_
    |(refine .aw [0,1,2,3,4,5,68,73,86] hK ?_;clear hK K)
    |(with_reducible refine .done (hK _ ?_);clear hK K)
    |refine J.of rfl ?_
    |(with_reducible refine ak.aE (fun h =>?_) (fun h =>?_) <;>try simp only[h])) <;>try simp only[aH,R,simprocAttr])
   all_goals clear R
   refine ⟨i+1,⟨by omega,fun k hk =>?_⟩,by omega,?_⟩
   ·by_cases e:k=i
    ·subst e
     have:a.aY[k]=b.aY[k]:=hex.2 (by simpa using hp)
     simp[hlt,hlt2,this]
    ·exact hi2 k (by omega)
   ·refine aC.bZ ?_ ?_ ?_ ?_ <;>simp[aX,bO,bM,bt,ao,aW,cA,I.only,ah.only,bB]
 ·have hc:=fD hlt
  have R:=And.intro @hc (And.intro @cC (And.intro @fI (And.intro @bh (And.intro @aK @U))))
  repeat' ((first
   |(with_reducible refine .guard (fun hb =>?_) (fun hb =>?_) <;>try simp only[hb])
   |refine J.aG (by decide +kernel) rfl fun K hK =>?_
   |(refine .aw [0,1,2,3,4,5,68,73,86] hK ?_;clear hK K)
   |(with_reducible refine .done (hK _ ?_);clear hK K)
   |refine J.of rfl ?_
   |(with_reducible refine ak.aE (fun h =>?_) (fun h =>?_) <;>try simp only[h])) <;>try simp only[aH,R,simprocAttr])
  all_goals clear R
  have:a=b:=hab (List.ext_getElem? fun k=>by
   by_cases hk:k<i
   ·exact hi2 k hk
   ·rw[List.getElem?_eq_none (by omega),List.getElem?_eq_none (by omega)])
  simp[this]
theorem OK(l:List al)(no known:Int):av Tryz.prog 8 [enc l,enc no,enc known] (enc true):=by
 have h1:=Oy l known
 have h2:=Oz l known
 have h3:=OA l known
 have h4:=OB l known
 have h5:=OC l
 have h6:=OD l
 have h7:=Ox l no known
 have h8:=OE l no known
 generalize km l known=u1 at h1 h2
 generalize kq l known=u2 at h3 h4
 generalize n8 l=u3 at h5 h6
 generalize nW l no known=u4 at h7 h8
 refine av.bn Tryz.func8 RI TG VQ (Nat.le_of_ble_eq_true rfl) (fun hwf W0 D0 E1 =>?_)
 simp only[B9,LQ,a6,Nat.zero_add,Nat.reduceAdd]
 clear hwf
 have q1:∀ e:Int,(e==e)=true:=fun e=>by simp
 have R:=And.intro @q1 (And.intro @oa (And.intro @oV ee))
 repeat' ((first
  |(with_reducible refine .guard (fun hb =>?_) (fun hb =>?_) <;>try simp only[hb])
  |refine J.aG (by decide +kernel) rfl fun K hK =>?_
  |refine .lead _ (h1) ?_
  |refine .lead _ (h2) ?_
  |refine .lead _ (h3) ?_
  |refine .lead _ (h4) ?_
  |refine .lead _ (h5) ?_
  |refine .lead _ (h6) ?_
  |refine .lead _ (h7) ?_
  |refine .lead _ (h8) ?_
  |refine .flat _ (uL _ _) rfl ?_
  |refine .flat _ (zG _ _) rfl ?_
  |refine .flat _ (OF _ _) rfl ?_
  |refine .flat _ (Ot) rfl ?_
  |(refine .aw [0,1,2,6,7,8,9,10,11,12,13,14,15,16,17,18,19,20,21,22] hK ?_;clear hK K)
  |(with_reducible refine .done (hK _ ?_);clear hK K)
  |refine J.of rfl ?_
  |(with_reducible refine ak.aE (fun h =>?_) (fun h =>?_) <;>try simp only[h])) <;>try simp only[aH,R,eq_self,decide_true,simprocAttr])
 all_goals clear R
end Go.Proofs.YtcldiigclhgafaaGreat
