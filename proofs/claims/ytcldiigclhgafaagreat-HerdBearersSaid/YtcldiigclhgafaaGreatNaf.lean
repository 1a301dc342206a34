/-
  A part of the proof that the law HerdBearers returns true for every input; conditions: none beyond the statement's own. (part 6 of 7)
-/
import Derived.Test.YtcldiigclhgafaaGreatRows
import Derived.Test.YtcldiigclhgafaaGreatNae
set_option linter.unusedSimpArgs false
set_option linter.unusedVariables false
set_option maxHeartbeats 16000000
set_option maxRecDepth 100000
namespace Go.Proofs.YtcldiigclhgafaaGreat
open Go Go.Abs
open Go.Abs.Enc (enc)
theorem lL(bs:List aA)(no:Int):(cC bs no=none∧pF bs no=-1)∨∃ i,∃ h:i<bs.length,cC bs no=some bs[i]∧(bs[i]).no=no∧pF bs no=(i:Int):=by
 have e:(fun b:aA=>decide (no=b.no))=fun b:aA=>decide (b.no=no):=by
  funext b;rw[Bool.eq_iff_iff];simp[eq_comm]
 have h1:=sY (bs:=bs) (no:=no)
 rw[List.findIdx?_map] at h1
 have e2:(((fun x=>decide (no=x))∘fun b:aA=>b.no))=fun b:aA=>decide (b.no=no):=e
 rw[e2] at h1
 simp only[pF]
 cases h:bs.findIdx? fun b=>decide (b.no=no) with
 |none=>rw[h] at h1;exact .inl ⟨h1,rfl⟩
 |some i =>
  rw[h] at h1
  obtain ⟨hi,g1,g2⟩:=h1
  exact .inr ⟨i,hi,g1,g2,rfl⟩
def dU(bs:List aA)(x:au):List aA×Bool:=match c8 eG bs x with
 |some bs'=>(bs',true)
 |none=>(bs,false)
theorem ve(a b c d e f g:Int):eB [.int .i64 0,.int .i64 0,.int .i64 0,.int .i64 0,.int .i64 0,.int .i64 0,.int .i64 0,.bool false,.nils 6] [(0,.int .i64 a),(1,.int .i64 b),(2,.int .i64 c),(3,.int .i64 d),(4,.int .i64 e),(5,.int .i64 f),(6,.int .i64 g)] =
  some [.int .i64 a,.int .i64 b,.int .i64 c,.int .i64 d,.int .i64 e,.int .i64 f,.int .i64 g,.bool false,.nils 6]:=by simp[eB,I.cq,I.size]
theorem YK(aC:Bool)(A:ae)(x:au):bd aC A (.agg [.int .i64 x.c5,.int .i64 x.er,.int .i64 x.dP,.int .i64 x.bQ,.int .i64 x.bQ,.int .i64 x.day,.int .i64 (-1),.bool false,.nils 6])=some (enc (fj x)):=by
 simp[bd,bZ];rfl
theorem sF{a b:Int}(h:a=b):(a==b)=true:=by simp[h]
theorem gL{a b:Int}(h:¬ a=b):(a==b)=false:=by simp[h]
theorem Og(bs:List aA)(x:au)(hn:bs.length≤99)(hk:x.kind=1∨x.kind=2)(hd:0≤x.dP):aw Tryz.prog 132 [enc bs,enc x] (.tuple [enc (dU bs x).1,enc (dU bs x).2]):=by
 have hk3:∀ n:Int,n≠1→n≠2→(x.kind==n)=false:=fun n h1 h2=>gL (by omega)
 have hk0:=hk
 refine aw.bp Tryz.func132 pn pq px (Nat.le_of_ble_eq_true rfl) (fun hwf W0 D0 E1 =>?_)
 simp only[oe,oH,a6,Nat.zero_add]
 clear hwf
 have hF1:=lf bs x.c5
 have hF2:=lf bs x.dP
 have hF3:=OK bs (fj x) (by omega)
 have hfn:=fun (aC:Bool) A=>YK aC A x
 have hg1:decide ((0:Int)≤-1)=false:=rfl
 have hg2:decide ((-1:Int)<0)=true:=rfl
 rcases h1:(x.kind==1) <;>rcases h2:(x.kind==2)
 ·exfalso;simp at h1 h2;omega
 case true.true=>exfalso;simp at h1 h2;omega
 all_goals
  rcases lL bs x.c5 with ⟨g1,e1⟩ | ⟨i,hi,g1,-,e1⟩
  case inr =>
   rw[e1] at hF1
   have ht:dU bs x=(bs,false):=by simp[dU,c8,hk,g1]
   rw[ht]
   have R:=And.intro @h1 (And.intro @h2 (And.intro @aL (And.intro @bx (And.intro @cD @U))))
   repeat' ((first
    |(with_reducible refine .guard (fun hb =>?_) (fun hb =>?_) <;>try simp only[hb])
    |refine J.aI (by decide +kernel) rfl fun K hK =>?_
    |refine .flat _ (hF1) rfl ?_
    |(refine .aD [0,1,3,4,5,6,7,8,9,10,22,24,28,62,81,88,89,105,110,121,127,131] hK ?_;clear hK K)
    |(with_reducible refine .done (hK _ ?_);clear hK K)
    |refine J.of rfl ?_
    |(with_reducible refine aj.aH (fun h =>?_) (fun h =>?_) <;>try simp only[h])) <;>try simp only[aJ,R,decide_true,Nat.reduceEqDiff,reduceIte,Nat.reduceBEq])
   all_goals clear R
  rw[e1] at hF1
  by_cases hd0:x.dP=0
  ·have hq:(x.dP != 0)=false:=by simp[hd0]
   have ht:dU bs x=(eG bs (fj x),true):=by simp[dU,c8,hk,g1,fq,hd0]
   rw[ht]
   have R:=And.intro @h1 (And.intro @h2 (And.intro @hg1 (And.intro @hq (And.intro @hfn (And.intro @ve (And.intro @aL (And.intro @bx (And.intro @cD @U))))))))
   repeat' ((first
    |(with_reducible refine .guard (fun hb =>?_) (fun hb =>?_) <;>try simp only[hb])
    |refine J.aI (by decide +kernel) rfl fun K hK =>?_
    |refine .flat _ (hF1) rfl ?_
    |refine .lead _ (hF3) ?_
    |(refine .aD [0,1,3,4,5,6,7,8,9,10,22,24,28,62,81,88,89,105,110,121,127,131] hK ?_;clear hK K)
    |(with_reducible refine .done (hK _ ?_);clear hK K)
    |refine J.of rfl ?_
    |(with_reducible refine aj.aH (fun h =>?_) (fun h =>?_) <;>try simp only[h])) <;>try simp only[aJ,R,Nat.reduceEqDiff,reduceIte,Nat.reduceBEq])
   all_goals clear R
  ·have hq:(x.dP != 0)=true:=by simpa using hd0
   have hq2:¬ x.dP≤0:=by omega
   rcases lL bs x.dP with ⟨g2,e2⟩ | ⟨k,hk2,g2,-,e2⟩
   ·rw[e2] at hF2
    have ht:dU bs x=(bs,false):=by simp[dU,c8,hk,g1,fq,g2,hq2]
    rw[ht]
    have R:=And.intro @h1 (And.intro @h2 (And.intro @hg1 (And.intro @hg2 (And.intro @hq (And.intro @aL (And.intro @bx (And.intro @cD @U)))))))
    repeat' ((first
     |(with_reducible refine .guard (fun hb =>?_) (fun hb =>?_) <;>try simp only[hb])
     |refine J.aI (by decide +kernel) rfl fun K hK =>?_
     |refine .flat _ (hF1) rfl ?_
     |refine .flat _ (hF2) rfl ?_
     |(refine .aD [0,1,3,4,5,6,7,8,9,10,22,24,28,62,81,88,89,105,110,121,127,131] hK ?_;clear hK K)
     |(with_reducible refine .done (hK _ ?_);clear hK K)
     |refine J.of rfl ?_
     |(with_reducible refine aj.aH (fun h =>?_) (fun h =>?_) <;>try simp only[h])) <;>try simp only[aJ,R,Nat.reduceEqDiff,reduceIte,Nat.reduceBEq])
    all_goals clear R
   ·rw[e2] at hF2
    have hg3:decide ((k:Int)<0)=false:=by simp
    have he:=fun A=>ew (A:=A) 9 hk2 rfl
    rcases q1:((bs[k]).er != x.er)
    case true =>
     have ht:dU bs x=(bs,false):=by
      have q1':¬ (bs[k]).er=x.er:=by simpa using q1
      simp[dU,c8,hk,g1,fq,g2,hq2,q1']
     rw[ht]
     have R:=And.intro @h1 (And.intro @h2 (And.intro @hg1 (And.intro @hg3 (And.intro @hq (And.intro @he (And.intro @q1 (And.intro @aL (And.intro @fO (And.intro @bx (And.intro @cD @U))))))))))
     repeat' ((first
      |(with_reducible refine .guard (fun hb =>?_) (fun hb =>?_) <;>try simp only[hb])
      |refine J.aI (by decide +kernel) rfl fun K hK =>?_
      |refine .flat _ (hF1) rfl ?_
      |refine .flat _ (hF2) rfl ?_
      |(refine .aD [0,1,3,4,5,6,7,8,9,10,22,24,28,62,81,88,89,105,110,121,127,131] hK ?_;clear hK K)
      |(with_reducible refine .done (hK _ ?_);clear hK K)
      |refine J.of rfl ?_
      |(with_reducible refine aj.aH (fun h =>?_) (fun h =>?_) <;>try simp only[h])) <;>try simp only[aJ,R,Nat.reduceEqDiff,reduceIte,Nat.reduceBEq])
     all_goals clear R
    have q1':(bs[k]).er=x.er:=by simpa using q1
    rcases q2:decide (0≤(bs[k]).dA)
    case false =>
     have ht:dU bs x=(eG bs (fj x),true):=by
      have q2':¬ 0≤(bs[k]).dA:=by simpa using q2
      simp[dU,c8,hk,g1,fq,g2,hq2,q1',q2']
     rw[ht]
     have R:=And.intro @h1 (And.intro @h2 (And.intro @hg1 (And.intro @hg3 (And.intro @hq (And.intro @he (And.intro @q1 (And.intro @q2 (And.intro @hfn (And.intro @ve (And.intro @aL (And.intro @fO (And.intro @bx (And.intro @cD @U)))))))))))))
     repeat' ((first
      |(with_reducible refine .guard (fun hb =>?_) (fun hb =>?_) <;>try simp only[hb])
      |refine J.aI (by decide +kernel) rfl fun K hK =>?_
      |refine .flat _ (hF1) rfl ?_
      |refine .flat _ (hF2) rfl ?_
      |refine .lead _ (hF3) ?_
      |(refine .aD [0,1,3,4,5,6,7,8,9,10,22,24,28,62,81,88,89,105,110,121,127,131] hK ?_;clear hK K)
      |(with_reducible refine .done (hK _ ?_);clear hK K)
      |refine J.of rfl ?_
      |(with_reducible refine aj.aH (fun h =>?_) (fun h =>?_) <;>try simp only[h])) <;>try simp only[aJ,R,Nat.reduceEqDiff,reduceIte,Nat.reduceBEq])
     all_goals clear R
    have q2':0≤(bs[k]).dA:=by simpa using q2
    rcases q3:decide ((bs[k]).dA<x.day)
    ·have ht:dU bs x=(eG bs (fj x),true):=by
      have q3':¬ (bs[k]).dA<x.day:=by simpa using q3
      simp[dU,c8,hk,g1,fq,g2,hq2,q1',q2',q3']
     rw[ht]
     have R:=And.intro @h1 (And.intro @h2 (And.intro @hg1 (And.intro @hg3 (And.intro @hq (And.intro @he (And.intro @q1 (And.intro @q2 (And.intro @q3 (And.intro @hfn (And.intro @ve (And.intro @aL (And.intro @fO (And.intro @bx (And.intro @cD @U))))))))))))))
     repeat' ((first
      |(with_reducible refine .guard (fun hb =>?_) (fun hb =>?_) <;>try simp only[hb])
      |refine J.aI (by decide +kernel) rfl fun K hK =>?_
      |refine .flat _ (hF1) rfl ?_
      |refine .flat _ (hF2) rfl ?_
      |refine .lead _ (hF3) ?_
      |(refine .aD [0,1,3,4,5,6,7,8,9,10,22,24,28,62,81,88,89,105,110,121,127,131] hK ?_;clear hK K)
      |(with_reducible refine .done (hK _ ?_);clear hK K)
      |refine J.of rfl ?_
      |(with_reducible refine aj.aH (fun h =>?_) (fun h =>?_) <;>try simp only[h])) <;>try simp only[aJ,R,Nat.reduceEqDiff,reduceIte,Nat.reduceBEq])
     all_goals clear R
    ·have ht:dU bs x=(bs,false):=by
      have q3':(bs[k]).dA<x.day:=by simpa using q3
      simp[dU,c8,hk,g1,fq,g2,hq2,q1',q2',q3']
     rw[ht]
     have R:=And.intro @h1 (And.intro @h2 (And.intro @hg1 (And.intro @hg3 (And.intro @hq (And.intro @he (And.intro @q1 (And.intro @q2 (And.intro @q3 (And.intro @aL (And.intro @fO (And.intro @bx (And.intro @cD @U))))))))))))
     repeat' ((first
      |(with_reducible refine .guard (fun hb =>?_) (fun hb =>?_) <;>try simp only[hb])
      |refine J.aI (by decide +kernel) rfl fun K hK =>?_
      |refine .flat _ (hF1) rfl ?_
      |refine .flat _ (hF2) rfl ?_
      |(refine .aD [0,1,3,4,5,6,7,8,9,10,22,24,28,62,81,88,89,105,110,121,127,131] hK ?_;clear hK K)
      |(with_reducible refine .done (hK _ ?_);clear hK K)
      |refine J.of rfl ?_
      |(with_reducible refine aj.aH (fun h =>?_) (fun h =>?_) <;>try simp only[h])) <;>try simp only[aJ,R,Nat.reduceEqDiff,reduceIte,Nat.reduceBEq])
     all_goals clear R
section
variable {α:Type} [Enc α] {P:Program} {hs:List FuncId} {Y:Value→List I→List (Nat×ah)→cV→Prop} {K:ae→Prop} {A:ae} {rest:List aB} {d:Nat} {e esz bytes:Nat} {q:Nat}
theorem z1(z:I){l:List α}(hsz:Enc.sz α=esz)(hl:l≠[])(hf:A.o d=none)(hb:l.length*bytes≤140737488355328)(hml:l.length≤maxLen) :
  ∃ p:Nat→Prop,gq A (some d) e esz bytes z (enc l) rest (.c0 q)=.any p fun m=>ay rest ((A.aM d (.box (.agg (l.map enc++List.replicate m z)))).aO (some d) (.view d [] esz 0 l.length)):=by
 have hne:l.map (enc (α:=α))≠[]:=by simpa using hl
 have h1:ev A esz (.c0 q)=some []:=rfl
 refine ⟨fun m=>l.length+m≤maxLen,?_⟩
 simp only[gq,h1,qb A esz l hsz,ff,if_neg hne,gp,hf,List.length_nil,Nat.zero_add,List.length_map,if_pos (And.intro hb hml),List.nil_append]
theorem bj.sa(z:I){l:List α}(hsz:Enc.sz α=esz)(hl:l≠[])(hf:A.o d=none)(hb:l.length*bytes≤140737488355328)(hml:l.length≤maxLen)
  (h:∀ m,bj P Y false K (ay rest ((A.aM d (.box (.agg (l.map enc++List.replicate m z)))).aO (some d) (.view d [] esz 0 l.length)))):bj P Y false K (gq A (some d) e esz bytes z (enc l) rest (.c0 q)):=by
 obtain ⟨p,h1⟩:=z1 (rest:=rest) (e:=e) (q:=q) z hsz hl hf hb hml
 rw[h1]
 exact .any rfl fun m _=>h m
theorem b9.oa(z:α){l:List α}(hsz:Enc.sz α=esz)(hl:l≠[])(hf:A.o d=none)(hb:l.length*bytes≤140737488355328)(hml:l.length≤maxLen)
  (h:∀ m,b9 P hs K (ay rest ((A.aM d (.box (.agg ((l++List.replicate m z).map enc)))).aO (some d) (.view d [] esz 0 l.length)))):b9 P hs K (gq A (some d) e esz bytes (enc z) (enc l) rest (.c0 q)):=by
 obtain ⟨p,h1⟩:=z1 (rest:=rest) (e:=e) (q:=q) (enc z) hsz hl hf hb hml
 rw[h1]
 refine .any fun m _ =>?_
 have:=h m
 simp only[List.map_append,List.map_replicate] at this
 exact this
theorem b9.uZ(z:α)(hsz:Enc.sz α=esz){n l:Nat}{xs ys:List α}(hy:ys≠[])(ho:A.o n=some (.box (.agg (xs.map enc))))(hl:l≤xs.length)(hr:xs.length<l+ys.length)(hf:A.o d=none)(hb:(l+ys.length)*bytes≤140737488355328)(hml:l+ys.length≤maxLen)
  (h:∀ q,b9 P hs K (ay rest ((A.aM d (.box (.agg ((xs.take l++(ys++List.replicate q z)).map enc)))).aO (some d) (.view d [] esz 0 (l+ys.length))))):b9 P hs K (gq A (some d) e esz bytes (enc z) (enc ys) rest (.view n [] esz 0 l)):=by
 have h1:=qc (A:=A) (esz:=esz) (lo:=0) (k:=l) ho (by omega)
 have h2:(I.agg (xs.map (enc (α:=α)))).at []=some (.agg (xs.map enc)):=rfl
 have h4:(xs.take l).length=l:=by rw[List.length_take];omega
 simp only[gq,h1,List.drop_zero,qb A esz ys hsz,ff]
 rw[if_neg (by simpa using hy)]
 simp only[ho,h2,List.length_map,Nat.zero_add]
 rw[if_neg (by omega)]
 simp only[gp,hf,List.length_map,h4]
 rw[if_pos ⟨hb,hml⟩]
 refine .any fun q _ =>?_
 have:=h q
 simp only[List.map_append,List.map_replicate] at this
 exact this
theorem YC{A:ae}{m n k:Nat}{ys q:List α}(ho:A.o n=some (.box (.agg ((ys++q).map enc))))(hsz:Enc.sz α=esz)(hk:k=ys.length):dv A (m+1) (.view n [] esz 0 k)=some (enc ys):=by
 subst hk hsz
 have h1:cv A (.ptr n [])=some (.agg ((ys++q).map enc)):=by simp only[cv,ho];rfl
 simp only[dv,I.bt,Bool.false_eq_true,if_false,h1]
 have h2:(((ys++q).map (enc (α:=α))).drop 0).take ys.length=ys.map enc:=by
  rw[List.drop_zero,List.map_append,List.take_append_of_le_length (by simp),List.take_of_length_le (by simp)]
 rw[h2,if_pos (jI ys),ga]
end
theorem oT{A:ae}{n:Nat}{w:I}{b:aA}{rest:List aB} : dm A (some 9) n [] w (enc b) rest (some (.agg [.int .i64 0,.int .i64 0,.int .i64 0,.int .i64 0,.int .i64 0,.int .i64 0,.int .i64 0,.bool false,.nils 6]))=ay rest (A.aM n (.box (enc b))):=by
 refine (ej (s:=some 9) (dG _) (by rw[fS];rfl) (eD b)).trans ?_
 rw[gZ]
theorem rD :
  (∀ (A:ae) n (b:aA) (v u:Int) rest,dm A none n [3] (enc b) (.int .i64 v) rest (some (.int .i64 u))=ay rest (A.aM n (.box (enc { b with bQ:=v })))) ∧
  (∀ (A:ae) n (b:aA) (v u:Int) rest,dm A none n [6] (enc b) (.int .i64 v) rest (some (.int .i64 u))=ay rest (A.aM n (.box (enc { b with dA:=v })))) ∧
  (∀ (A:ae) n (b:aA) (v u:Bool) rest,dm A none n [7] (enc b) (.bool v) rest (some (.bool u))=ay rest (A.aM n (.box (enc { b with found:=v })))) :=
 ⟨fun _ _ _ v u _=>by rw[ej (s:=none) (v:=.int .i64 v) (old:=.int .i64 u) rfl rfl rfl];rfl,fun _ _ _ v u _=>by rw[ej (s:=none) (v:=.int .i64 v) (old:=.int .i64 u) rfl rfl rfl];rfl,
  fun _ _ _ v u _=>by rw[ej (s:=none) (v:=.bool v) (old:=.bool u) rfl rfl rfl];rfl⟩
theorem qD{α:Type}[Enc α]{xs:List α}{R:List I}{sz k:Nat}(hsz:Enc.sz α=sz)(hk:k=xs.length):kc sz 0 k (some (xs.map enc++R))=some (enc xs):=by
 subst hk hsz
 have h:((xs.map (enc (α:=α))++R).drop 0).take xs.length=xs.map enc:=by
  rw[List.drop_zero,List.take_append_of_le_length (by simp),List.take_of_length_le (by simp)]
 simp only[kc,h]
 rw[if_pos (jI xs),ga]
theorem sf{α:Type}[Enc α]{xs:List α}{R:List I}{i:Nat}(hi:i<xs.length):jr i [] (some (xs.map enc++R))=some (enc xs[i]):=by
 simp[jr,oc,hi,List.getElem?_append_left,I.at]
theorem ux{A:ae}{n i:Nat}{xs:List aA}{R:List I}{v u:aA}{rest:List aB}(hi:i<xs.length):dm A (some 9) n [i] (.agg (xs.map enc++R)) (enc v) rest (some (enc u))=ay rest (A.aM n (.box (.agg ((xs.set i v).map enc++R)))):=by
 rw[ej (s:=some 9) (dG v) (by rw[fS];rfl) ((eD v).trans (eD u).symm)]
 have h2:(xs.map (enc (α:=aA))++R)[i]?=some (enc xs[i]):=by simp[hi,List.getElem?_append_left]
 simp only[I.dF,h2]
 rw[List.set_append_left _ _ (by simpa using hi),List.map_set]
theorem amv(p:Nat→Bool)(l:List (bA 6 Int)):(I.agg (l.map enc)).only p=true:=by simp only[I.only];exact ec p l
def na(b:aA)(s:I):I:=.agg [.int .i64 b.no,.int .i64 b.er,.int .i64 b.dP,.int .i64 b.bQ,.int .i64 b.fg,.int .i64 b.born,.int .i64 b.dA,.bool b.found,s]
theorem za{A:ae}{n m p z lo k:_}{b:aA}{rest:List aB} : dm A none n [8] (enc b) (.view m p z lo k) rest (some (enc b.bu))=ay rest (A.aM n (.box (na b (.view m p z lo k)))):=by
 rw[ej (s:=none) (v:=.view m p z lo k) (old:=enc b.bu) rfl rfl (eD b.bu).symm];rfl
theorem YB{A:ae}{m N k:Nat}{b:aA}{xs q:List (bA 6 Int)}(ho:A.o N=some (.box (.agg ((xs++q).map enc))))(hk:k=xs.length):dv A (m+2) (na b (.view N [] 6 0 k))=some (enc ({ b with bu:=xs } : aA)):=by
 have h1:=YC (m:=m) (esz:=6) ho rfl hk
 have hi:∀ (k:IntKind) (v:Int),dv A (m+1) (.int k v)=some (.int k v):=fun _ _=>by simp[dv,I.bt]
 have hb:∀ v:Bool,dv A (m+1) (.bool v)=some (.bool v):=fun _=>by simp[dv,I.bt]
 rw[na,dv]
 simp only[I.bt,I.bY,Bool.and_false,Bool.and_true,Bool.false_eq_true,if_false,fH,hi,hb,h1,Option.map_some]
 rfl
theorem wa{ts:List (Nat×I)}{os:List (Nat×ah)}{N k:Nat}{b:aA}{xs q:List (bA 6 Int)}{bs:List aA}{i:Nat}(h9:Abs.bO ts 9=.ptr 9 [])(ho9:ak os 9=some (.box (na b (.view N [] 6 0 k))))(hoN:ak os N=some (.box (.agg ((xs++q).map enc))))(hk:k=xs.length)
  (h0:Abs.bO ts 0=enc bs) (h6:Abs.bO ts 6=.int .i64 i) (hN:N≠9) (ho:bg (fun n => ![9,N].contains n) (cE [9,N] os)):az (ar ts os) (ar [(0,enc bs),(6,.int .i64 i),(9,.ref (enc ({ b with bu:=xs } : aA)))] []):=by
 have hk9:ak (fW [9,N] os) 9=some (.box (na b (.view N [] 6 0 k))):=by rw[lP];simpa using ho9
 have hkN:ak (fW [9,N] os) N=some (.box (.agg ((xs++q).map enc))):=by rw[lP];simpa using hoN
 have hf:bd true (ar ts (fW [9,N] os)) (.ptr 9 [])=some (.ref (enc ({ b with bu:=xs } : aA))):=by
  have h1:=YB (A:=ar ts (fW [9,N] os)) (m:=7) (b:=b) hkN hk
  have hd:cv (ar ts (fW [9,N] os)) (.ptr 9 [])=some (na b (.view N [] 6 0 k)):=by
   simp only[cv,ar,hk9];exact m4 _
  have hc:(na b (.view N [] 6 0 k)).bt=false:=by simp[na,I.bt,I.bY]
  simp only[bd,if_true,hd,hc,Bool.false_eq_true,if_false,h1,Option.map_some]
 refine (az.gU [9,N] 9 h9 hf ho).trans (az.bR ?_ trivial ?_ trivial)
 ·have hfg:∀ t,Abs.bO (fG [9,N] ts) t=if (Abs.bO ts t).only (fun j => ![9,N].contains j)=true then Abs.bO ts t else .c9:=Dj _ ts
  simp[aT,aU,hfg,h0,h6,br,I.only]
 ·simp[bM,br,I.only]
theorem sd{bs:List aA}{x:au}(hd:(bs.map (·.no)).Nodup)(hk:¬ (x.kind=1∨x.kind=2)){i:Nat}(hi:i<bs.length)(hg:cC bs x.c5=some bs[i]){b:aA}(ht:fy bs[i] x=some b)(hno:b.no=(bs[i]).no):dU bs x=(bs.set i b,true):=by
 simp only[dU,c8,if_neg hk,hg,ht,Option.map_some,M8 hd hi hno]
theorem P8{bs:List aA}{x:au}(hk:¬ (x.kind=1∨x.kind=2))(hg:cC bs x.c5=none):dU bs x=(bs,false):=by
 simp only[dU,c8,if_neg hk,hg]
theorem Ab{bs:List aA}{x:au}(hk:¬ (x.kind=1∨x.kind=2)){b:aA}(hg:cC bs x.c5=some b)(ht:fy b x=none):dU bs x=(bs,false):=by
 simp only[dU,c8,if_neg hk,hg,ht,Option.map_none]
theorem rQ(bs:List aA)(x:au)(hk:3≤x.kind)(hg:cC bs x.c5=none):aw Tryz.prog 132 [enc bs,enc x] (.tuple [enc (dU bs x).1,enc (dU bs x).2]):=by
 refine aw.bp Tryz.func132 pn pq px (Nat.le_of_ble_eq_true rfl) (fun hwf W0 D0 E1 =>?_)
 simp only[oe,oH,a6,Nat.zero_add]
 clear hwf
 have hk12:¬ (x.kind=1∨x.kind=2):=by omega
 have hk1:(x.kind==1)=false:=gL (by omega)
 have hk2:(x.kind==2)=false:=gL (by omega)
 have hF1:=lf bs x.c5
 have hg2:decide ((-1:Int)<0)=true:=rfl
 rcases lL bs x.c5 with ⟨g1,e1⟩ | ⟨i,hi,g1,-,e1⟩
 ·rw[e1] at hF1
  rw[P8 hk12 g1]
  have R:=And.intro @hk1 (And.intro @hk2 (And.intro @hg2 (And.intro @aL (And.intro @bx (And.intro @cD @U)))))
  repeat' ((first
   |(with_reducible refine .guard (fun hb =>?_) (fun hb =>?_) <;>try simp only[hb])
   |refine J.aI (by decide +kernel) rfl fun K hK =>?_
   |refine .flat _ (hF1) rfl ?_
   |(refine .aD [0,1,3,4,5,6,7,8,9,10,22,24,28,62,81,88,89,105,110,121,127,131] hK ?_;clear hK K)
   |(with_reducible refine .done (hK _ ?_);clear hK K)
   |refine J.of rfl ?_
   |(with_reducible refine aj.aH (fun h =>?_) (fun h =>?_) <;>try simp only[h])) <;>try simp only[aJ,R,Nat.reduceEqDiff,reduceIte,Nat.reduceBEq])
  all_goals clear R
 ·rw[g1] at hg;cases hg
theorem Oh(bs:List aA)(x:au)(hn:bs.length≤99)(hd:(bs.map (·.no)).Nodup)(hk:x.kind=3):aw Tryz.prog 132 [enc bs,enc x] (.tuple [enc (dU bs x).1,enc (dU bs x).2]):=by
 cases hg0:cC bs x.c5 with
 |none=>exact rQ bs x (by omega) hg0
 |some b0 =>
 refine aw.bp Tryz.func132 pn pq px (Nat.le_of_ble_eq_true rfl) (fun hwf W0 D0 E1 =>?_)
 simp only[oe,oH,a6,Nat.zero_add]
 clear hwf
 have hk12:¬ (x.kind=1∨x.kind=2):=by omega
 have hk1:(x.kind==1)=false:=gL (by omega)
 have hk2:(x.kind==2)=false:=gL (by omega)
 have hF1:=lf bs x.c5
 have hg2:decide ((-1:Int)<0)=true:=rfl
 have hk3:(x.kind==3)=true:=sF hk
 rcases lL bs x.c5 with ⟨g1,e1⟩ | ⟨i,hi,g1,gno,e1⟩
 ·rw[g1] at hg0;cases hg0
 rw[e1] at hF1
 have hg3:decide ((i:Int)<0)=false:=by simp
 have he:=fun A=>ew (A:=A) 9 hi rfl
 obtain ⟨b,hb0⟩:∃ b,b=bs[i]:=⟨_,rfl⟩
 have hne:bs≠[]:=fun e=>by rw[e] at hi;simp at hi
 rw[←hb0] at he g1 gno
 by_cases hv:fy b x=none
 ·rw[Ab hk12 g1 hv]
  have hv2:0≤b.dA∨b.bQ=0∨b.bQ=x.bQ:=by
   simp only[fy,hk,if_true] at hv
   split at hv
   ·assumption
   ·cases hv
  rcases q1:decide (0≤b.dA) <;>rcases q2:(b.bQ==0) <;>rcases q3:(b.bQ==x.bQ)
  ·simp at q1 q2 q3;omega
  all_goals
   have R:=And.intro @hk1 (And.intro @hk2 (And.intro @hk3 (And.intro @hg3 (And.intro @he (And.intro @q1 (And.intro @q2 (And.intro @q3 (And.intro @oT (And.intro @aL (And.intro @fO (And.intro @bx (And.intro @df (And.intro @cD @U)))))))))))))
   repeat' ((first
    |(with_reducible refine .guard (fun hb =>?_) (fun hb =>?_) <;>try simp only[hb])
    |refine J.aI (by decide +kernel) rfl fun K hK =>?_
    |refine .flat _ (hF1) rfl ?_
    |(refine .aD [0,1,3,4,5,6,7,8,9,10,22,24,28,62,81,88,89,105,110,121,127,131] hK ?_;clear hK K)
    |(with_reducible refine .done (hK _ ?_);clear hK K)
    |refine J.of rfl ?_
    |(with_reducible refine aj.aH (fun h =>?_) (fun h =>?_) <;>try simp only[h])) <;>try simp only[aJ,R,Nat.reduceEqDiff,reduceIte,Nat.reduceBEq])
   all_goals clear R
 ·have hv2:¬ (0≤b.dA∨b.bQ=0∨b.bQ=x.bQ):=by
   simp only[fy,hk,if_true] at hv
   split at hv
   ·exact absurd rfl hv
   ·assumption
  have ht:fy b x=some { b with bQ:=x.bQ } :=by
   simp only[fy,hk,if_true]
   rw[if_neg hv2]
  rw[sd hd hk12 hi (by rw[g1,hb0]) (b := { b with bQ:=x.bQ }) (by rw[←hb0];exact ht) (by rw[←hb0])]
  have q1:decide (0≤b.dA)=false:=by simp;omega
  have q2:(b.bQ==0)=false:=gL (by omega)
  have q3:(b.bQ==x.bQ)=false:=gL (by omega)
  have R:=And.intro @hk1 (And.intro @hk2 (And.intro @hk3 (And.intro @hg3 (And.intro @he (And.intro @q1 (And.intro @q2 (And.intro @q3 (And.intro @oT (And.intro @rD (And.intro @aL (And.intro @fO (And.intro @bx (And.intro @df (And.intro @cD @U))))))))))))))
  repeat' ((first
   |(with_reducible refine .guard (fun hb =>?_) (fun hb =>?_) <;>try simp only[hb])
   |refine J.aI (by decide +kernel) rfl fun K hK =>?_
   |refine .flat _ (hF1) rfl ?_
   |(refine .aD [0,1,3,4,5,6,7,8,9,10,22,24,28,62,81,88,89,105,110,121,127,131] hK ?_;clear hK K)
   |(with_reducible refine .done (hK _ ?_);clear hK K)
   |refine J.of rfl ?_
   |(with_reducible refine aj.aH (fun h =>?_) (fun h =>?_) <;>try simp only[h])) <;>try simp only[aJ,R,Nat.reduceEqDiff,reduceIte,Nat.reduceBEq])
  all_goals clear R
  refine bj.sa _ rfl hne rfl (by omega) (by simp only[maxLen];omega) fun mm =>?_
  obtain ⟨R,hR⟩:∃ R,R=List.replicate mm (I.agg [.int .i64 0,.int .i64 0,.int .i64 0,.int .i64 0,.int .i64 0,.int .i64 0,.int .i64 0,.bool false,.nils 6]):=⟨_,rfl⟩
  rw[←hR]
  have hv:∀ fs,ju 138 [] 9 0 bs.length 9 (i:Int) (some fs)=some (.ptr 138 [i]):=fun fs=>by
   have:=ov (m:=138) (sz:=9) (lo:=0) (l:=bs.length) (i:=i) (fs:=fs) hi
   rwa [Nat.zero_add] at this
  have hat:=sf (R:=R) hi
  have hst:=fun (A:ae) v u rest=>ux (A:=A) (n:=138) (R:=R) (v:=v) (u:=u) (rest:=rest) hi
  have hfv:=fun v:aA=>qD (xs:=bs.set i v) (R:=R) (k:=bs.length) (sz:=9) rfl (by simp)
  try simp only[U,Nat.reduceEqDiff,reduceIte]
  have R:=And.intro @hv (And.intro @hat (And.intro @hst (And.intro @hfv (And.intro @df (And.intro @aL (And.intro @bx (And.intro @cD @U)))))))
  repeat' ((first
   |(with_reducible refine .guard (fun hb =>?_) (fun hb =>?_) <;>try simp only[hb])
   |refine J.aI (by decide +kernel) rfl fun K hK =>?_
   |(refine .aD [0,1,3,4,5,6,7,8,9,10,22,24,28,62,81,88,89,105,110,121,127,131] hK ?_;clear hK K)
   |(with_reducible refine .done (hK _ ?_);clear hK K)
   |refine J.of rfl ?_
   |(with_reducible refine aj.aH (fun h =>?_) (fun h =>?_) <;>try simp only[h])) <;>try simp only[aJ,R,Nat.reduceEqDiff,reduceIte,Nat.reduceBEq])
  all_goals clear R
theorem Oj(bs:List aA)(x:au)(hn:bs.length≤99)(hd:(bs.map (·.no)).Nodup)(hk:x.kind=5):aw Tryz.prog 132 [enc bs,enc x] (.tuple [enc (dU bs x).1,enc (dU bs x).2]):=by
 cases hg0:cC bs x.c5 with
 |none=>exact rQ bs x (by omega) hg0
 |some b0 =>
 refine aw.bp Tryz.func132 pn pq px (Nat.le_of_ble_eq_true rfl) (fun hwf W0 D0 E1 =>?_)
 simp only[oe,oH,a6,Nat.zero_add]
 clear hwf
 have hk12:¬ (x.kind=1∨x.kind=2):=by omega
 have hk1:(x.kind==1)=false:=gL (by omega)
 have hk2:(x.kind==2)=false:=gL (by omega)
 have hF1:=lf bs x.c5
 have hg2:decide ((-1:Int)<0)=true:=rfl
 have hk3:(x.kind==3)=false:=gL (by omega)
 have hk4:(x.kind==4)=false:=gL (by omega)
 have hk5:(x.kind==5)=true:=sF hk
 rcases lL bs x.c5 with ⟨g1,e1⟩ | ⟨i,hi,g1,gno,e1⟩
 ·rw[g1] at hg0;cases hg0
 rw[e1] at hF1
 have hg3:decide ((i:Int)<0)=false:=by simp
 have he:=fun A=>ew (A:=A) 9 hi rfl
 obtain ⟨b,hb0⟩:∃ b,b=bs[i]:=⟨_,rfl⟩
 have hne:bs≠[]:=fun e=>by rw[e] at hi;simp at hi
 rw[←hb0] at he g1 gno
 have ht:fy b x=some { b with bQ:=x.bQ,found:=true } :=by simp[fy,hk]
 rw[sd hd hk12 hi (by rw[g1,hb0]) (b := { b with bQ:=x.bQ,found:=true }) (by rw[←hb0];exact ht) (by rw[←hb0])]
 have R:=And.intro @hk1 (And.intro @hk2 (And.intro @hk3 (And.intro @hk4 (And.intro @hk5 (And.intro @hg3 (And.intro @he (And.intro @oT (And.intro @rD (And.intro @aL (And.intro @fO (And.intro @bx (And.intro @df (And.intro @cD @U)))))))))))))
 repeat' ((first
  |(with_reducible refine .guard (fun hb =>?_) (fun hb =>?_) <;>try simp only[hb])
  |refine J.aI (by decide +kernel) rfl fun K hK =>?_
  |refine .flat _ (hF1) rfl ?_
  |(refine .aD [0,1,3,4,5,6,7,8,9,10,22,24,28,62,81,88,89,105,110,121,127,131] hK ?_;clear hK K)
  |(with_reducible refine .done (hK _ ?_);clear hK K)
  |refine J.of rfl ?_
  |(with_reducible refine aj.aH (fun h =>?_) (fun h =>?_) <;>try simp only[h])) <;>try simp only[aJ,R,Nat.reduceEqDiff,reduceIte,Nat.reduceBEq])
 all_goals clear R
 refine bj.sa _ rfl hne rfl (by omega) (by simp only[maxLen];omega) fun mm =>?_
 obtain ⟨R,hR⟩:∃ R,R=List.replicate mm (I.agg [.int .i64 0,.int .i64 0,.int .i64 0,.int .i64 0,.int .i64 0,.int .i64 0,.int .i64 0,.bool false,.nils 6]):=⟨_,rfl⟩
 rw[←hR]
 have hv:∀ fs,ju 138 [] 9 0 bs.length 9 (i:Int) (some fs)=some (.ptr 138 [i]):=fun fs=>by
  have:=ov (m:=138) (sz:=9) (lo:=0) (l:=bs.length) (i:=i) (fs:=fs) hi
  rwa [Nat.zero_add] at this
 have hat:=sf (R:=R) hi
 have hst:=fun (A:ae) v u rest=>ux (A:=A) (n:=138) (R:=R) (v:=v) (u:=u) (rest:=rest) hi
 have hfv:=fun v:aA=>qD (xs:=bs.set i v) (R:=R) (k:=bs.length) (sz:=9) rfl (by simp)
 try simp only[U,Nat.reduceEqDiff,reduceIte]
 have R:=And.intro @hv (And.intro @hat (And.intro @hst (And.intro @hfv (And.intro @df (And.intro @aL (And.intro @bx (And.intro @cD @U)))))))
 repeat' ((first
  |(with_reducible refine .guard (fun hb =>?_) (fun hb =>?_) <;>try simp only[hb])
  |refine J.aI (by decide +kernel) rfl fun K hK =>?_
  |(refine .aD [0,1,3,4,5,6,7,8,9,10,22,24,28,62,81,88,89,105,110,121,127,131] hK ?_;clear hK K)
  |(with_reducible refine .done (hK _ ?_);clear hK K)
  |refine J.of rfl ?_
  |(with_reducible refine aj.aH (fun h =>?_) (fun h =>?_) <;>try simp only[h])) <;>try simp only[aJ,R,Nat.reduceEqDiff,reduceIte,Nat.reduceBEq])
 all_goals clear R
theorem Ol(bs:List aA)(x:au)(hn:bs.length≤99)(hd:(bs.map (·.no)).Nodup)(hk:x.kind=6):aw Tryz.prog 132 [enc bs,enc x] (.tuple [enc (dU bs x).1,enc (dU bs x).2]):=by
 cases hg0:cC bs x.c5 with
 |none=>exact rQ bs x (by omega) hg0
 |some b0 =>
 refine aw.bp Tryz.func132 pn pq px (Nat.le_of_ble_eq_true rfl) (fun hwf W0 D0 E1 =>?_)
 simp only[oe,oH,a6,Nat.zero_add]
 clear hwf
 have hk12:¬ (x.kind=1∨x.kind=2):=by omega
 have hk1:(x.kind==1)=false:=gL (by omega)
 have hk2:(x.kind==2)=false:=gL (by omega)
 have hF1:=lf bs x.c5
 have hg2:decide ((-1:Int)<0)=true:=rfl
 have hk3:(x.kind==3)=false:=gL (by omega)
 have hk4:(x.kind==4)=false:=gL (by omega)
 have hk5:(x.kind==5)=false:=gL (by omega)
 have hk6:(x.kind==6)=true:=sF hk
 rcases lL bs x.c5 with ⟨g1,e1⟩ | ⟨i,hi,g1,gno,e1⟩
 ·rw[g1] at hg0;cases hg0
 rw[e1] at hF1
 have hg3:decide ((i:Int)<0)=false:=by simp
 have he:=fun A=>ew (A:=A) 9 hi rfl
 obtain ⟨b,hb0⟩:∃ b,b=bs[i]:=⟨_,rfl⟩
 have hne:bs≠[]:=fun e=>by rw[e] at hi;simp at hi
 rw[←hb0] at he g1 gno
 by_cases q:0≤b.dA
 ·have q1:decide (0≤b.dA)=true:=by simp[q]
  rw[Ab hk12 g1 (by simp[fy,hk,q])]
  have R:=And.intro @hk1 (And.intro @hk2 (And.intro @hk3 (And.intro @hk4 (And.intro @hk5 (And.intro @hk6 (And.intro @hg3 (And.intro @he (And.intro @q1 (And.intro @oT (And.intro @rD (And.intro @aL (And.intro @fO (And.intro @bx (And.intro @df (And.intro @cD @U)))))))))))))))
  repeat' ((first
   |(with_reducible refine .guard (fun hb =>?_) (fun hb =>?_) <;>try simp only[hb])
   |refine J.aI (by decide +kernel) rfl fun K hK =>?_
   |refine .flat _ (hF1) rfl ?_
   |(refine .aD [0,1,3,4,5,6,7,8,9,10,22,24,28,62,81,88,89,105,110,121,127,131] hK ?_;clear hK K)
   |(with_reducible refine .done (hK _ ?_);clear hK K)
   |refine J.of rfl ?_
   |(with_reducible refine aj.aH (fun h =>?_) (fun h =>?_) <;>try simp only[h])) <;>try simp only[aJ,R,Nat.reduceEqDiff,reduceIte,Nat.reduceBEq])
  all_goals clear R
 ·have q1:decide (0≤b.dA)=false:=by simp[q]
  have ht:fy b x=some { b with dA:=x.day } :=by simp[fy,hk,q]
  rw[sd hd hk12 hi (by rw[g1,hb0]) (b := { b with dA:=x.day }) (by rw[←hb0];exact ht) (by rw[←hb0])]
  have R:=And.intro @hk1 (And.intro @hk2 (And.intro @hk3 (And.intro @hk4 (And.intro @hk5 (And.intro @hk6 (And.intro @hg3 (And.intro @he (And.intro @q1 (And.intro @oT (And.intro @rD (And.intro @aL (And.intro @fO (And.intro @bx (And.intro @df (And.intro @cD @U)))))))))))))))
  repeat' ((first
   |(with_reducible refine .guard (fun hb =>?_) (fun hb =>?_) <;>try simp only[hb])
   |refine J.aI (by decide +kernel) rfl fun K hK =>?_
   |refine .flat _ (hF1) rfl ?_
   |(refine .aD [0,1,3,4,5,6,7,8,9,10,22,24,28,62,81,88,89,105,110,121,127,131] hK ?_;clear hK K)
   |(with_reducible refine .done (hK _ ?_);clear hK K)
   |refine J.of rfl ?_
   |(with_reducible refine aj.aH (fun h =>?_) (fun h =>?_) <;>try simp only[h])) <;>try simp only[aJ,R,Nat.reduceEqDiff,reduceIte,Nat.reduceBEq])
  all_goals clear R
  refine bj.sa _ rfl hne rfl (by omega) (by simp only[maxLen];omega) fun mm =>?_
  obtain ⟨R,hR⟩:∃ R,R=List.replicate mm (I.agg [.int .i64 0,.int .i64 0,.int .i64 0,.int .i64 0,.int .i64 0,.int .i64 0,.int .i64 0,.bool false,.nils 6]):=⟨_,rfl⟩
  rw[←hR]
  have hv:∀ fs,ju 138 [] 9 0 bs.length 9 (i:Int) (some fs)=some (.ptr 138 [i]):=fun fs=>by
   have:=ov (m:=138) (sz:=9) (lo:=0) (l:=bs.length) (i:=i) (fs:=fs) hi
   rwa [Nat.zero_add] at this
  have hat:=sf (R:=R) hi
  have hst:=fun (A:ae) v u rest=>ux (A:=A) (n:=138) (R:=R) (v:=v) (u:=u) (rest:=rest) hi
  have hfv:=fun v:aA=>qD (xs:=bs.set i v) (R:=R) (k:=bs.length) (sz:=9) rfl (by simp)
  try simp only[U,Nat.reduceEqDiff,reduceIte]
  have R:=And.intro @hv (And.intro @hat (And.intro @hst (And.intro @hfv (And.intro @df (And.intro @aL (And.intro @bx (And.intro @cD @U)))))))
  repeat' ((first
   |(with_reducible refine .guard (fun hb =>?_) (fun hb =>?_) <;>try simp only[hb])
   |refine J.aI (by decide +kernel) rfl fun K hK =>?_
   |(refine .aD [0,1,3,4,5,6,7,8,9,10,22,24,28,62,81,88,89,105,110,121,127,131] hK ?_;clear hK K)
   |(with_reducible refine .done (hK _ ?_);clear hK K)
   |refine J.of rfl ?_
   |(with_reducible refine aj.aH (fun h =>?_) (fun h =>?_) <;>try simp only[h])) <;>try simp only[aJ,R,Nat.reduceEqDiff,reduceIte,Nat.reduceBEq])
  all_goals clear R
theorem Oi(bs:List aA)(x:au)(hn:bs.length≤99)(hd:(bs.map (·.no)).Nodup)(hk:x.kind=4)(hsn:∀ b∈bs,b.bu.length≤1000):aw Tryz.prog 132 [enc bs,enc x] (.tuple [enc (dU bs x).1,enc (dU bs x).2]):=by
 cases hg0:cC bs x.c5 with
 |none=>exact rQ bs x (by omega) hg0
 |some b0 =>
 refine aw.bp Tryz.func132 pn pq px (Nat.le_of_ble_eq_true rfl) (fun hwf W0 D0 E1 =>?_)
 simp only[oe,oH,a6,Nat.zero_add]
 clear hwf
 have hk12:¬ (x.kind=1∨x.kind=2):=by omega
 have hk1:(x.kind==1)=false:=gL (by omega)
 have hk2:(x.kind==2)=false:=gL (by omega)
 have hF1:=lf bs x.c5
 have hg2:decide ((-1:Int)<0)=true:=rfl
 have hk3:(x.kind==3)=false:=gL (by omega)
 have hk4:(x.kind==4)=true:=sF hk
 rcases lL bs x.c5 with ⟨g1,e1⟩ | ⟨i,hi,g1,gno,e1⟩
 ·rw[g1] at hg0;cases hg0
 rw[e1] at hF1
 have hg3:decide ((i:Int)<0)=false:=by simp
 have he:=fun A=>ew (A:=A) 9 hi rfl
 obtain ⟨b,hb0⟩:∃ b,b=bs[i]:=⟨_,rfl⟩
 have hne:bs≠[]:=fun e=>by rw[e] at hi;simp at hi
 rw[←hb0] at he g1 gno
 have ht:fy b x=some { b with bu:=b.bu++[x.bu] } :=by simp[fy,hk]
 rw[sd hd hk12 hi (by rw[g1,hb0]) (b := { b with bu:=b.bu++[x.bu] }) (by rw[←hb0];exact ht) (by rw[←hb0])]
 have hbl:b.bu.length≤1000:=hsn b (hb0▸List.getElem_mem hi)
 have R:=And.intro @hk1 (And.intro @hk2 (And.intro @hk3 (And.intro @hk4 (And.intro @hg3 (And.intro @he (And.intro @oT (And.intro @rD (And.intro @aL (And.intro @fO (And.intro @bx (And.intro @df (And.intro @cD @U))))))))))))
 repeat' ((first
  |(with_reducible refine .guard (fun hb =>?_) (fun hb =>?_) <;>try simp only[hb])
  |refine J.aI (by decide +kernel) rfl fun K hK =>?_
  |refine .flat _ (hF1) rfl ?_
  |(refine .aD [0,1,3,4,5,6,7,8,9,10,22,24,28,62,81,88,89,105,110,121,127,131] hK ?_;clear hK K)
  |(with_reducible refine .done (hK _ ?_);clear hK K)
  |refine J.of rfl ?_
  |(with_reducible refine aj.aH (fun h =>?_) (fun h =>?_) <;>try simp only[h])) <;>try simp only[aJ,R,Nat.reduceEqDiff,reduceIte,Nat.reduceBEq])
 all_goals clear R
 refine J.nX (ar [(0,enc bs),(6,.int .i64 i),(9,.ref (enc ({ b with bu:=b.bu++[x.bu] } : aA)))] []) ?_ (fun B hsub =>?_)
 ·refine J.rq (gs:=wB) [] [(112,[])] [0,1,2,4,5,6,3,7,8,9] (by decide +kernel) (en.of (by simp[nC,aU,tu,I.only])) fun K hK =>?_
  have hbs6:=m9 6 x.bu rfl
  try simp only[lT,wB,List.getD_cons_zero,List.getD_cons_succ,hbs6,aL,fO,df,cD,U,Nat.reduceEqDiff,reduceIte]
  by_cases hs0:b.bu=[]
  ·rw[hs0]
   rw[z6 (α:=bA 6 Int) (esz:=6) _ rfl]
   try simp only[U,Nat.reduceEqDiff,reduceIte]
   refine b9.oa il (l:=[x.bu]) rfl (by simp) rfl (by simp) (by simp[maxLen]) fun m =>?_
   try simp only[za,aL,fO,U,Nat.reduceEqDiff,reduceIte]
   refine .done (hK _ ?_);clear hK K
   exact wa (N:=119) (xs:=b.bu++[x.bu]) (q:=List.replicate m il) rfl rfl (by rw[hs0];rfl) (by simp[hs0]) rfl rfl (by decide) (by simp[bg,cE,ah.only,br])
  ·refine b9.oa il (l:=b.bu) rfl hs0 rfl (by omega) (by simp only[maxLen];omega) fun m =>?_
   try simp only[U,Nat.reduceEqDiff,reduceIte]
   cases m with
   |zero =>
    refine b9.uZ il (xs:=b.bu++List.replicate 0 il) (ys:=[x.bu]) rfl (by simp) rfl (by simp) (by simp) rfl (by simp;omega) (by simp[maxLen];omega) fun q =>?_
    have e1:(b.bu++List.replicate 0 il).take b.bu.length++([x.bu]++List.replicate q il)=(b.bu++[x.bu])++List.replicate q il:=by simp
    rw[e1]
    try simp only[za,aL,fO,U,Nat.reduceEqDiff,reduceIte]
    refine .done (hK _ ?_);clear hK K
    exact wa (N:=119) (xs:=b.bu++[x.bu]) (q:=List.replicate q il) rfl rfl rfl (by simp) rfl rfl (by decide) (by simp only[cE,List.filter_cons,List.filter_nil];simp[bg,ah.only,I.only,br,ec])
   |succ m =>
    have e1:(b.bu++List.replicate (m+1) il).take b.bu.length++([x.bu]++(b.bu++List.replicate (m+1) il).drop (b.bu.length+[x.bu].length))=(b.bu++[x.bu])++List.replicate m il:=by
     simp[List.drop_append]
    rw[u5 (esz:=6) (xs:=b.bu++List.replicate (m+1) il) (ys:=[x.bu]) _ rfl (by simp) rfl (by simp)]
    rw[e1]
    try simp only[za,aL,fO,U,Nat.reduceEqDiff,reduceIte]
    refine .done (hK _ ?_);clear hK K
    exact wa (N:=115) (xs:=b.bu++[x.bu]) (q:=List.replicate m il) rfl rfl rfl (by simp) rfl rfl (by decide) (by simp only[cE,List.filter_cons,List.filter_nil];simp[bg,ah.only,br])
 ·simp only[al,bP]
  refine J.sub hsub ?_
  have R:=And.intro @aL (And.intro @fO (And.intro @bx (And.intro @df (And.intro @cD @U))))
  repeat' ((first
   |(with_reducible refine .guard (fun hb =>?_) (fun hb =>?_) <;>try simp only[hb])
   |refine J.aI (by decide +kernel) rfl fun K hK =>?_
   |(refine .aD [0,1,3,4,5,6,7,8,9,10,22,24,28,62,81,88,89,105,110,121,127,131] hK ?_;clear hK K)
   |(with_reducible refine .done (hK _ ?_);clear hK K)
   |refine J.of rfl ?_
   |(with_reducible refine aj.aH (fun h =>?_) (fun h =>?_) <;>try simp only[h])) <;>try simp only[aJ,R,Nat.reduceEqDiff,reduceIte])
  all_goals clear R
  refine bj.sa _ rfl hne rfl (by omega) (by simp only[maxLen];omega) fun mm =>?_
  obtain ⟨R,hR⟩:∃ R,R=List.replicate mm (I.agg [.int .i64 0,.int .i64 0,.int .i64 0,.int .i64 0,.int .i64 0,.int .i64 0,.int .i64 0,.bool false,.nils 6]):=⟨_,rfl⟩
  rw[←hR]
  have hv:∀ fs,ju 138 [] 9 0 bs.length 9 (i:Int) (some fs)=some (.ptr 138 [i]):=fun fs=>by
   have:=ov (m:=138) (sz:=9) (lo:=0) (l:=bs.length) (i:=i) (fs:=fs) hi
   rwa [Nat.zero_add] at this
  have hat:=sf (R:=R) hi
  have hst:=fun (A:ae) v u rest=>ux (A:=A) (n:=138) (R:=R) (v:=v) (u:=u) (rest:=rest) hi
  have hfv:=fun v:aA=>qD (xs:=bs.set i v) (R:=R) (k:=bs.length) (sz:=9) rfl (by simp)
  try simp only[U,Nat.reduceEqDiff,reduceIte]
  have R:=And.intro @hv (And.intro @hat (And.intro @hst (And.intro @hfv (And.intro @df (And.intro @aL (And.intro @bx (And.intro @cD @U)))))))
  repeat' ((first
   |(with_reducible refine .guard (fun hb =>?_) (fun hb =>?_) <;>try simp only[hb])
   |refine J.aI (by decide +kernel) rfl fun K hK =>?_
   |(refine .aD [0,1,3,4,5,6,7,8,9,10,22,24,28,62,81,88,89,105,110,121,127,131] hK ?_;clear hK K)
   |(with_reducible refine .done (hK _ ?_);clear hK K)
   |refine J.of rfl ?_
   |(with_reducible refine aj.aH (fun h =>?_) (fun h =>?_) <;>try simp only[h])) <;>try simp only[aJ,R,Nat.reduceEqDiff,reduceIte,Nat.reduceBEq])
  all_goals clear R
theorem Of(bs:List aA)(x:au)(hn:bs.length≤99)(hd:(bs.map (·.no)).Nodup)(hsn:∀ b∈bs,b.bu.length≤1000)(hok:gA x=true)(hk:x.kind≠0):aw Tryz.prog 132 [enc bs,enc x] (.tuple [enc (dU bs x).1,enc (dU bs x).2]):=by
 obtain ⟨h1,h2,h3⟩:=JE hok
 have hdam:0≤x.dP:=by
  simp only[gA,Bool.and_eq_true,decide_eq_true_eq] at hok
  obtain ⟨q1,q2,_⟩:=hok
  by_cases e:x.kind=1
  ·simp only[jM,e,b7] at q1
   simp at q1
   omega
  ·have:x.dP=(kC x).dP:=by rw[←q2]
   rw[this];simp[kC,e]
 by_cases e12:x.kind=1∨x.kind=2
 ·exact Og bs x hn e12 hdam
 by_cases e3:x.kind=3
 ·exact Oh bs x hn hd e3
 by_cases e4:x.kind=4
 ·exact Oi bs x hn hd e4 hsn
 by_cases e5:x.kind=5
 ·exact Oj bs x hn hd e5
 ·exact Ol bs x hn hd (by omega)
def l6(known:Int)(m:List au)(a:Item)(j:Nat):Bool:=(eJ known m).1.getD j false&&(decide ((ab m j).kind=0)&&decide ((ab m j).gY=a))
theorem Jh(known:Int)(a:Item):∀ m:List au,(eJ known m).2.contains a=(List.range m.length).any (l6 known m a)
 | []=>rfl
 |x::m=>by
  have ih:=Jh known a m
  have e:∀ j,l6 known (x::m) a (j+1)=l6 known m a j:=fun j=>by simp[l6,eJ,ab]
  have e0:l6 known (x::m) a 0=((decide (x.known≤known) && !(eJ known m).2.contains x.da)&&(decide (x.kind=0)&&decide (x.gY=a))):=by simp[l6,eJ,ab]
  rw[List.length_cons,List.range_succ_eq_map,List.any_cons,List.any_map]
  have e2:(l6 known (x::m) a∘Nat.succ)=l6 known m a:=funext e
  rw[e2,←ih,e0]
  simp only[eJ]
  generalize (decide (x.known≤known) && !(eJ known m).2.contains x.da)=b
  cases b <;>by_cases hk:x.kind=0
  ·simp
  ·simp
  ·simp only[hk,decide_true,Bool.and_true,if_true,List.contains_cons,Bool.true_and]
   congr 1
   by_cases h:x.gY=a
   ·simp[h]
   ·have h2:¬ a=x.gY:=fun e=>h e.symm
    simp[h,h2]
  ·simp[hk]
def m7(known:Int)(l:List au)(n t:Nat):Bool:=decide ((ab l (n-1)).known≤known) && !(List.range t).any (l6 known (l.drop n) (ab l (n-1)).da)
def jh(known:Int)(l:List au)(n:Nat)(b:Bool):List Bool:=List.replicate (n-1) false++b::(eJ known (l.drop n)).1
theorem yM{known:Int}{l:List au}{n:Nat}{b:Bool}(h:n≤l.length)(h0:0<n):(jh known l n b).length=l.length:=by
 simp only[jh,List.length_append,List.length_replicate,List.length_cons,rF,List.length_drop];omega
theorem alk{known:Int}{l:List au}{n:Nat}{b v:Bool} : (jh known l n b).set (n-1) v=jh known l n v:=by
 simp only[jh]
 rw[List.set_append_right _ _ (by simp)]
 simp
theorem alj{known:Int}{l:List au}{n t:Nat}{b:Bool}(h0:0<n):(jh known l n b).getD (n+t) false=(eJ known (l.drop n)).1.getD t false:=by
 simp only[jh,List.getD_eq_getElem?_getD]
 rw[List.getElem?_append_right (by simp;omega)]
 simp only[List.length_replicate]
 rw[show n+t-(n-1)=t+1 by omega,List.getElem?_cons_succ]
theorem alQ{known:Int}{l:List au}{n:Nat}(h:n≤l.length)(h0:0<n):jh known l n (m7 known l n (l.length-n))=List.replicate (n-1) false++(eJ known (l.drop (n-1))).1:=by
 have hil:n-1<l.length:=by omega
 have hd:l.drop (n-1)=ab l (n-1)::l.drop n:=by
  rw[List.drop_eq_getElem_cons hil,lD hil,show n-1+1=n by omega]
 rw[hd]
 simp only[jh,eJ,m7,Jh,List.length_drop]
theorem Yl(l:List au)(n t:Nat):ab (l.drop n) t=ab l (n+t):=by simp[ab,List.getD_eq_getElem?_getD]
theorem QA(known:Int)(l:List au)(n t:Nat):m7 known l n (t+1)=(m7 known l n t && !((eJ known (l.drop n)).1.getD t false&&(decide ((ab l (n+t)).kind=0)&&decide ((ab l (n+t)).gY=(ab l (n-1)).da)))):=by
 simp only[m7,List.range_succ,List.any_append,List.any_cons,List.any_nil,Bool.or_false,l6,Yl,Bool.not_or,Bool.and_assoc]
theorem JB{m l:Nat}{fs:List I}{i:Nat}(h:i<l):ju m [] 1 0 l 1 (i:Int) (some fs)=some (.ptr m [i]):=by
 have:=ov (m:=m) (sz:=1) (lo:=0) (l:=l) (i:=i) (fs:=fs) h
 rwa [Nat.zero_add] at this
theorem N5(l:List au)(known:Int)(hl:l.length≤60):aw Tryz.prog 106 [enc l,enc known] (enc (gC l known)):=by
 refine aw.bp Tryz.func106 QP SM UX (Nat.le_of_ble_eq_true rfl) (fun hwf W0 D0 E1 =>?_)
 simp only[Au,KM,a6,Nat.zero_add]
 clear hwf
 refine .ao (by decide +kernel) fun K hK =>?_
 simp only[D9,U]
 refine .done (hK _ ?_);clear hK K
 refine .ao (by decide +kernel) fun K hK =>?_
 simp only[Ea,U,Nat.reduceEqDiff,reduceIte]
 try simp only[ez,bx,U,Nat.reduceEqDiff,reduceIte]
 rw[JZ (by omega) (by simp[maxLen];omega)]
 try simp only[U,Nat.reduceEqDiff,reduceIte]
 refine .done (hK _ ?_);clear hK K
 have hw0:IntKind.i64.wrap ((l.length:Int)-1)=(l.length:Int)-1:=cG _ (by omega) (by omega)
 refine J.seq (J.seq ?_)
 refine .bD (by decide +kernel) fun K hK =>?_
 simp only[Eb,U,Nat.reduceEqDiff,reduceIte]
 try simp only[bx,hw0,U,Nat.reduceEqDiff,reduceIte]
 refine .done (hK _ ?_);clear hK K;try simp only[al]
 refine J.block (J.loop (fun n:Nat=>ar [(0,enc l),(1,.int .i64 known),(5,.view 10 [] 1 0 l.length),(6,.int .i64 ((n:Int)-1))] [(10,.box (.agg ((List.replicate n false++(eJ known (l.drop n)).1).map enc)))]) (fun n=>n≤l.length) (fun n=>n) l.length (Nat.le_refl _) ?_ (fun n hn =>?_))
 ·simp only[List.drop_length,eJ,List.append_nil,List.map_replicate]
  refine az.bR ?_ ?_ ?_ ?_ <;>simp[aT,bN,bM,bg,aq,aU,ak,I.only,br,ah.only,tT,vH]
 by_cases h0:n=0
 ·subst h0
  have hc:decide ((0:Int)≤((0:Nat):Int)-1)=false:=by decide
  have hf:∀ R:List Bool,R.length=l.length→kc 1 0 l.length (some (R.map enc))=some (enc R):=fun R hR=>by
   have:=qD (xs:=R) (R:=[]) (sz:=1) (k:=l.length) rfl hR.symm
   rwa [List.append_nil] at this
  have hf2:=hf (eJ known l).1 (rF known l)
  simp only[List.replicate_zero,List.nil_append,List.drop_zero]
  have R:=And.intro @hc (And.intro @hf2 (And.intro @df (And.intro @bx (And.intro @aL @U))))
  repeat' ((first
   |(with_reducible refine .guard (fun hb =>?_) (fun hb =>?_) <;>try simp only[hb])
   |refine J.aI (by decide +kernel) rfl fun K hK =>?_
   |(refine .aD [0,1,4,5,6,7,15,33,60] hK ?_;clear hK K)
   |(with_reducible refine .done (hK _ ?_);clear hK K)
   |refine J.of rfl ?_
   |(with_reducible refine aj.aH (fun h =>?_) (fun h =>?_) <;>try simp only[h])) <;>try simp only[aJ,R,Nat.reduceEqDiff,reduceIte,Nat.reduceBEq])
  all_goals clear R
  rfl
 obtain ⟨i,hi⟩:∃ i,i=n-1:=⟨_,rfl⟩
 have hni:(n:Int)-1=(i:Int):=by omega
 have hil:i<l.length:=by omega
 have hc:decide ((0:Int)≤(i:Int))=true:=by simp
 have he:=fun A=>ic (A:=A) hil
 have hv:=fun fs=>JB (m:=10) (fs:=fs) hil
 have hRn:List.replicate n false++(eJ known (l.drop n)).1=jh known l n false:=by
  simp only[jh]
  rw[show n=(n-1)+1 by omega,List.replicate_succ']
  simp
 have hset:=fun b (A:ae) v u rest=>Nw (A:=A) (n:=10) (i:=i) (xs:=jh known l n b) (by rw[yM hn (by omega)];exact hil) v u rest
 have hat:=fun b=>sg (xs:=jh known l n b) (i:=i) (by rw[yM hn (by omega)];exact hil)
 have hs2:=fun b v=>alk (known:=known) (l:=l) (n:=n) (b:=b) (v:=v)
 rw[←hi] at hs2
 have hw1:=fk (i:=i) (by omega)
 have hi1:i+1=n:=by omega
 rw[hi1] at hw1
 simp only[hRn,hni]
 have R:=And.intro @hc (And.intro @he (And.intro @hv (And.intro @hset (And.intro @hat (And.intro @hs2 (And.intro @hw1 (And.intro @df (And.intro @bx (And.intro @aL (And.intro @nJ @U))))))))))
 repeat' ((first
  |(with_reducible refine .guard (fun hb =>?_) (fun hb =>?_) <;>try simp only[hb])
  |refine J.aI (by decide +kernel) rfl fun K hK =>?_
  |(refine .aD [0,1,4,5,6,7,15,33,60] hK ?_;clear hK K)
  |(with_reducible refine .done (hK _ ?_);clear hK K)
  |refine J.of rfl ?_
  |(with_reducible refine aj.aH (fun h =>?_) (fun h =>?_) <;>try simp only[h])) <;>try simp only[aJ,R,decide_true,Nat.reduceEqDiff,reduceIte,Nat.reduceBEq])
 all_goals clear R
 refine J.loop (fun t:Nat=>ar [(0,enc l),(1,.int .i64 known),(5,.view 10 [] 1 0 l.length),(6,.int .i64 i),(7,.int .i64 ((n+t:Nat):Int))] [(10,.box (.agg ((jh known l n (m7 known l n t)).map enc)))]) (fun t=>n+t≤l.length) (fun t=>l.length-n-t) 0 hn ?_ (fun t ht =>?_)
 ·have hb0:m7 known l n 0=decide ((ab l i).known≤known):=by simp[m7,hi]
  rw[hb0]
  refine az.cJ ?_ (fun m =>?_)
  ·simp[aT,aU]
  ·simp only[ak];split <;>rfl
 by_cases hlt:n+t<l.length
 ·have hc2:=fX hlt
  have he2:=fun A=>ic (A:=A) hlt
  have hv2:=fun fs=>JB (m:=10) (fs:=fs) hlt
  have hat2:=fun b=>sg (xs:=jh known l n b) (i:=n+t) (by rw[yM hn (by omega)];exact hlt)
  have hget:=fun b=>alj (known:=known) (l:=l) (n:=n) (t:=t) (b:=b) (by omega)
  have hw2:=fk (i:=n+t) (by omega)
  have hbs:=QA known l n t
  rw[←hi] at hbs
  rcases q1:(eJ known (l.drop n)).1.getD t false <;>rcases q2:(ab l (n+t)).kind==0 <;>rcases q3:decide ((ab l (n+t)).gY=(ab l i).da)
  all_goals
   have q2':=q2
   rw[show ((ab l (n+t)).kind==0)=decide ((ab l (n+t)).kind=0) from rfl] at q2'
   simp only[q1,q2',q3,Bool.and_true,Bool.and_false,Bool.not_true,Bool.not_false] at hbs
   have R:=And.intro @hc2 (And.intro @he (And.intro @he2 (And.intro @hv (And.intro @hv2 (And.intro @hset (And.intro @hat (And.intro @hat2 (And.intro @hget (And.intro @hs2 (And.intro @hw2 (And.intro @q1 (And.intro @q2 (And.intro @q3 (And.intro @df (And.intro @bx (And.intro @aL (And.intro @nJ @U)))))))))))))))))
   repeat' ((first
    |(with_reducible refine .guard (fun hb =>?_) (fun hb =>?_) <;>try simp only[hb])
    |refine J.aI (by decide +kernel) rfl fun K hK =>?_
    |(refine .aD [0,1,4,5,6,7,15,33,60] hK ?_;clear hK K)
    |(with_reducible refine .done (hK _ ?_);clear hK K)
    |refine J.of rfl ?_
    |(with_reducible refine aj.aH (fun h =>?_) (fun h =>?_) <;>try simp only[h])) <;>try simp only[aJ,R,Nat.reduceEqDiff,reduceIte,Nat.reduceBEq])
   all_goals clear R
   refine ⟨t+1,by omega,by omega,?_⟩
   rw[hbs]
   refine az.cJ ?_ (fun m =>?_)
   ·simp[aT,aU] <;>omega
   ·first | rfl | (simp only[ak];split <;>rfl)
 ·have hc2:=gh hlt
  have hw3:IntKind.i64.wrap ((i:Int)-1)=(i:Int)-1:=cG _ (by omega) (by omega)
  have htn:t=l.length-n:=by omega
  have hsn:=alQ (known:=known) hn (by omega)
  rw[←htn,←hi] at hsn
  rw[hsn]
  have R:=And.intro @hc2 (And.intro @hw3 (And.intro @df (And.intro @bx (And.intro @aL @U))))
  repeat' ((first
   |(with_reducible refine .guard (fun hb =>?_) (fun hb =>?_) <;>try simp only[hb])
   |refine J.aI (by decide +kernel) rfl fun K hK =>?_
   |(refine .aD [0,1,4,5,6,7,15,33,60] hK ?_;clear hK K)
   |(with_reducible refine .done (hK _ ?_);clear hK K)
   |refine J.of rfl ?_
   |(with_reducible refine aj.aH (fun h =>?_) (fun h =>?_) <;>try simp only[h])) <;>try simp only[aJ,R,Nat.reduceEqDiff,reduceIte,Nat.reduceBEq])
  all_goals clear R
  refine ⟨i,by omega,by omega,?_⟩
  refine az.cJ ?_ (fun m=>rfl)
  simp[aT,aU]
theorem alw{α:Type}[Enc α]{A:ae}(esz:Nat){l:List α}{i:Nat}(h:i≤l.length)(hs:Enc.sz α=esz):mW A esz (some (.int .i64 i)) none none (enc l)=some (enc (l.drop i)):=by
 simp only[mW,ga,hs,if_true,jC,ib,List.length_map]
 rw[if_pos ⟨by omega,by omega,by omega,by omega⟩]
 simp[List.take_of_length_le]
def oh(l:List au)(day known:Int)(i:Nat):Bool:=(gC l known).getD i false&&nE l day i
def jU(l:List au)(day known:Int)(n:Nat):List Nat:=rf (fun i=>(ab l i).day) ((List.range n).filter (oh l day known))
theorem akn(l:List au)(day known:Int):jU l day known l.length=fw l day known:=by
 simp only[jU,fw,jL,gO,List.filter_filter]
 congr 1
 refine List.filter_congr fun i _ =>?_
 simp only[oh,nE,Bool.and_comm]
theorem akp(l:List au)(day known:Int)(n:Nat):jU l day known (n+1)=if oh l day known n then gi (fun i=>(ab l i).day) n (jU l day known n) else jU l day known n:=by
 simp only[jU,rf,List.range_succ,List.filter_append,List.foldl_append,List.filter_cons,List.filter_nil]
 split <;>rfl
theorem ako(l:List au)(day known:Int)(n:Nat):(jU l day known n).Pairwise (kO fun i=>(ab l i).day)∧(∀ x∈jU l day known n,x<n)∧(jU l day known n).length≤n:=by
 have h:=rh (fun i=>(ab l i).day) ((List.range n).filter (oh l day known)) [] (by simp) (List.Pairwise.filter _ List.pairwise_lt_range) (by simp)
 refine ⟨h.2,fun x hx =>?_,?_⟩
 ·have:=h.1.mem_iff.1 hx
  simp only[List.nil_append,List.mem_filter,List.mem_range] at this
  exact this.1
 ·have:=h.1.length_eq
  simp only[jU,rf]
  rw[this]
  have:=List.length_filter_le (oh l day known) (List.range n)
  simpa using this
theorem ah3{key:Nat→Int}{i k:Nat}{o:List Nat}(h1:∀ x∈o.take k,key x≤key i)(h2:∀ x∈o.drop k,key i<key x):gi key i o=o.take k++i::o.drop k:=by
 have key':∀ (a b:List Nat),(∀ x∈a,key x≤key i)→(∀ x∈b,key i<key x)→gi key i (a++b)=a++i::b:=by
  intro a b ha hb
  induction a with
  |nil =>
   cases b with
   |nil=>simp[gi]
   |cons y b =>
    have:=hb y (by simp)
    simp[gi,show ¬ key y≤key i by omega]
  |cons y a ih =>
   have hy:=ha y (by simp)
   have e:∀ m:List Nat,gi key i (y::m)=y::gi key i m:=fun m=>by simp[gi,hy]
   rw[List.cons_append,e,ih fun x hx=>ha x (by simp[hx])];rfl
 have:=key' (o.take k) (o.drop k) h1 h2
 rwa [List.take_append_drop] at this
theorem vZ{ts:List (Nat×I)}{os:List (Nat×ah)}{N k:Nat}{xs q:List Int}{l:List au}{day:Int}{bl:List Bool}{i:Nat}{Z:I}(h8:Abs.bO ts 8=.view N [] 1 0 k)(hoN:ak os N=some (.box (.agg ((xs++q).map enc))))(hk:k=xs.length)(hN:N=74∨N=77∨N=81)
  (h0:Abs.bO ts 0=enc l) (h2:Abs.bO ts 2=.int .i64 day) (h6:Abs.bO ts 6=.ptr 6 []) (h7:Abs.bO ts 7=enc bl) (h9:Abs.bO ts 9=.int .i64 i) (ho6:ak os 6=some (.box Z)) (hZ:Z.bt=true∨Z=.agg [.nils 9,.nils 1])
  (ho:bg (fun n => ![74,77,81].contains n) (cE [74,77,81] os)):az (ar ts os) (ar [(0,enc l),(2,.int .i64 day),(6,.ptr 6 []),(7,enc bl),(8,enc xs),(9,.int .i64 i)] [(6,.box Z)]):=by
 have hkN:ak (fW [74,77,81] os) N=some (.box (.agg ((xs++q).map enc))):=by rw[lP];rcases hN with rfl | rfl | rfl <;>simpa using hoN
 have hf:bd true (ar ts (fW [74,77,81] os)) (.view N [] 1 0 k)=some (enc xs):=by
  rw[Ds]
  simp only[ar,hkN,fh,fD,m4,I.di]
  exact vW hk.symm
 refine (az.gU [74,77,81] 8 h8 hf ho).trans (az.bR ?_ ?_ ?_ ?_)
 ·have hfg:∀ t,Abs.bO (fG [74,77,81] ts) t=if (Abs.bO ts t).only (fun j => ![74,77,81].contains j)=true then Abs.bO ts t else .c9:=Dj _ ts
  simp[aT,aU,hfg,h0,h2,h6,h7,h9,br,I.only]
 ·simp[bN,mz,ho6]
 ·simp[bM,br,I.only,aq,ak]
 ·rcases hZ with hZ | rfl
  ·exact ⟨jS _ _ hZ,trivial⟩
  ·exact ⟨rfl,trivial⟩
abbrev qm(l:List au)(day:Int)(bl:List Bool)(xs:List Int)(i:Nat)(Z:I):ae:=ar [(0,enc l),(2,.int .i64 day),(6,.ptr 6 []),(7,enc bl),(8,enc xs),(9,.int .i64 i)] [(6,.box Z)]
theorem zf{K:ae→Prop}{ts:List (Nat×I)}{os:List (Nat×ah)}{N k:Nat}{xs q A2:List Int}{l:List au}{day:Int}{bl:List Bool}{i:Nat}{Z:I}(h77:Abs.bO ts 77=.view N [] 1 0 k)(hk:k=xs.length)(hoN:ak os N=some (.box (.agg ((xs++q).map enc))))(h80:Abs.bO ts 80=enc A2)(h81:ak os 81=none)(hN:N=74∨N=77)(hb:xs.length+A2.length≤100)
  (h0:Abs.bO ts 0=enc l) (h2:Abs.bO ts 2=.int .i64 day) (h6:Abs.bO ts 6=.ptr 6 []) (h7:Abs.bO ts 7=enc bl) (h9:Abs.bO ts 9=.int .i64 i) (ho6:ak os 6=some (.box Z)) (hZ:Z.bt=true∨Z=.agg [.nils 9,.nils 1])
  (ho:bg (fun n => ![74,77,81].contains n) (cE [74,77,81] os)) (hK:∀ B,Abs.az B (qm l day bl (xs++A2) i Z)→K B) :
  b9 Tryz.prog [] K (ay [⟨some 81,.cS 3 1 8 (.int .i64 0) (.t 77) (.t 80),none⟩,⟨some 8,.mv (.t 81),none⟩] (ar ts os)):=by
 subst hk
 have hdr:∀ (m:Nat) (y:ah),[74,77,81].contains m=true→cE [74,77,81] ((m,y)::os)=cE [74,77,81] os:=fun m y hm=>by
  simp only[cE,List.filter_cons,hm,Bool.not_true,Bool.false_eq_true,if_false]
 have hNc:[74,77,81].contains N=true:=by rcases hN with rfl | rfl <;>rfl
 try simp only[h77,h80,U]
 by_cases hA:A2=[]
 ·subst hA
  rw[z7 (esz:=1) (xs:=xs++q) _ _ (qb _ 1 ([]:List Int) rfl) hoN (by simp)]
  try simp only[U,reduceIte]
  refine .done (hK _ ?_)
  rw[List.append_nil]
  exact vZ (N:=N) (q:=q) rfl hoN rfl (by omega) h0 h2 h6 h7 h9 ho6 hZ ho
 ·by_cases hr:A2.length≤q.length
  ·have e1:(xs++q).take xs.length++(A2++(xs++q).drop (xs.length+A2.length))=(xs++A2)++q.drop A2.length:=by
    simp[List.drop_append]
   rw[u5 (esz:=1) (xs:=xs++q) (ys:=A2) _ rfl hA hoN (by simp;omega)]
   rw[e1]
   try simp only[U,reduceIte]
   refine .done (hK _ ?_)
   refine vZ (N:=N) (xs:=xs++A2) (q:=q.drop A2.length) rfl (by simp[ak]) (by simp) (by omega) h0 h2 h6 h7 h9 ?_ hZ (by rw[hdr _ _ hNc];exact ho)
   simp only[ak];rw[if_neg (by omega)];exact ho6
  ·refine b9.uZ (0:Int) (xs:=xs++q) (ys:=A2) rfl hA hoN (by simp) (by simp;omega) h81 (by omega) (by simp[maxLen];omega) fun qq =>?_
   have e1:(xs++q).take xs.length++(A2++List.replicate qq 0)=(xs++A2)++List.replicate qq 0:=by simp
   rw[e1]
   try simp only[U,reduceIte]
   refine .done (hK _ ?_)
   refine vZ (N:=81) (xs:=xs++A2) (q:=List.replicate qq 0) rfl (by simp[ak]) (by simp) (by omega) h0 h2 h6 h7 h9 ?_ hZ (by rw[hdr _ _ rfl];exact ho)
   simp only[ak];rw[if_neg (by omega)];exact ho6
theorem MF{c:cM}(hP:c.P=Tryz.prog){l:List au}{day:Int}{bl:List Bool}{xs:List Int}{i k:Nat}{Z:I}(hk:k≤xs.length)(hb:xs.length≤60)(hZ:Z.bt=true∨Z=.agg [.nils 9,.nils 1]) :
  J c (.bT CR sU) (al (fun B=>Abs.az B (qm l day bl (xs.take k++(i:Int)::xs.drop k) i Z)) fun _ _=>False) (ar [(0,enc l),(2,.int .i64 day),(6,.ptr 6 []),(7,enc bl),(8,enc xs),(9,.int .i64 i),(10,.int .i64 k)] [(6,.box Z)]):=by
 refine J.akX (gs:=sU) [] [(70,[]),(8,[]),(78,[])] [0,1,2,3,5,6,8,9,10,4,7,11,12] (by decide +kernel) (en.of (by simp[nC,aU,tu,I.only,br])) fun K hK =>?_
 rw[hP]
 have htl:(xs.take k).length=k:=by rw[List.length_take];omega
 have hdl:(xs.drop k).length=xs.length-k:=List.length_drop
 try simp only[lT,sU,List.getD_cons_zero,List.getD_cons_succ,yZ 1 hk rfl,alw 1 hk rfl,Option.map_none,Option.map_some,pj,df,U,Nat.reduceEqDiff,reduceIte]
 have hK':∀ B,Abs.az B (qm l day bl ((xs.take k++[(i:Int)])++xs.drop k) i Z)→K B:=fun B h=>hK B (by simp only[al];simpa using h)
 by_cases hA:xs.take k=[]
 ·rw[hA]
  rw[z6 (α:=Int) (esz:=1) _ rfl]
  try simp only[U,Nat.reduceEqDiff,reduceIte]
  refine b9.oa (0:Int) (l:=[(i:Int)]) rfl (by simp) rfl (by simp) (by simp[maxLen]) fun m =>?_
  simp only[lQ,tC]
  refine zf (N:=77) (xs:=xs.take k++[(i:Int)]) (q:=List.replicate m 0) (A2:=xs.drop k) rfl (by simp[hA]) (by rw[hA];rfl) rfl rfl (.inr rfl) (by simp;omega) rfl rfl rfl rfl rfl rfl hZ ?_ hK'
  rcases hZ with hZ | rfl
  ·exact ⟨jS _ _ hZ,trivial⟩
  ·exact ⟨rfl,trivial⟩
 ·refine b9.oa (0:Int) (l:=xs.take k) rfl hA rfl (by omega) (by simp only[maxLen];omega) fun m =>?_
  try simp only[U,Nat.reduceEqDiff,reduceIte]
  cases m with
  |zero =>
   refine b9.uZ (0:Int) (xs:=xs.take k++List.replicate 0 0) (ys:=[(i:Int)]) rfl (by simp) rfl (by simp) (by simp) rfl (by simp;omega) (by simp[maxLen];omega) fun q =>?_
   have e1:∀ A1:List Int,(A1++List.replicate 0 0).take A1.length++([(i:Int)]++List.replicate q 0)=(A1++[(i:Int)])++List.replicate q 0:=fun A1=>by simp
   rw[e1]
   simp only[lQ,tC]
   refine zf (N:=77) (xs:=xs.take k++[(i:Int)]) (q:=List.replicate q 0) (A2:=xs.drop k) rfl (by simp) rfl rfl rfl (.inr rfl) (by simp;omega) rfl rfl rfl rfl rfl rfl hZ ?_ hK'
   rcases hZ with hZ | rfl
   ·exact ⟨jS _ _ hZ,trivial⟩
   ·exact ⟨rfl,trivial⟩
  |succ m =>
   have e1:∀ A1:List Int,(A1++List.replicate (m+1) 0).take A1.length++([(i:Int)]++(A1++List.replicate (m+1) 0).drop (A1.length+[(i:Int)].length))=(A1++[(i:Int)])++List.replicate m 0:=fun A1=>by
    simp[List.drop_append]
   rw[u5 (esz:=1) (xs:=xs.take k++List.replicate (m+1) 0) (ys:=[(i:Int)]) _ rfl (by simp) rfl (by simp)]
   rw[e1]
   simp only[lQ,tC]
   refine zf (N:=74) (xs:=xs.take k++[(i:Int)]) (q:=List.replicate m 0) (A2:=xs.drop k) rfl (by simp) rfl rfl rfl (.inl rfl) (by simp;omega) rfl rfl rfl rfl rfl rfl hZ ?_ hK'
   rcases hZ with hZ | rfl
   ·exact ⟨jS _ _ hZ,trivial⟩
   ·exact ⟨rfl,trivial⟩
structure l9 where
 gE:List aA
 zi:List Int
instance:Enc l9 where
 enc x:=.agg [enc x.gE,enc x.zi]
 sz:=2
 aQ:=.eg [.one,.one]
 fV:=true
 done x:=by simp only[I.done,I.eQ,Enc.done,Bool.and_self]
 size x:=by simp only[I.size,I.sizes,iQ,qy]
 jX x:=by simp only[I.aQ,I.cR,eD];rfl
 agg _:=rfl
def jW(l:List au)(day known:Int):l9:=⟨(iE eG l (fw l day known)).1,jZ (cm (iE eG l (fw l day known)).2)⟩
theorem az.ai5{ts:List (Nat×I)}{os:List (Nat×ah)}(m z:Nat)(p:List Nat)(b:I)(hm:ak os m=some (.box b))(hp:b.at p=some (.nils z)):az (ar ts os) (ar ts ((m,.box (b.dF p (.slice z [])))::os)):=by
 rintro c a w ⟨D,E,h⟩
 refine ⟨D,E,h.sz,h.eM,h.dY,h.dO,h.c6,h.de,fun k =>?_,h.cQ,h.dQ,h.eU,h.cK,h.eW,h.fE⟩
 have ho:=h.bX k
 simp only[ar,ak] at ho ⊢
 split
 ·rename_i hk
  subst hk
  rw[hm] at ho
  obtain ⟨b',cs,T',h1,h2,h3,h4,h5⟩:=ho
  obtain ⟨q1,q2⟩:=yD (y:=.slice z []) h4 hp (fun ds hd=>by
   simp only[af] at hd
   subst hd
   refine ⟨none,0,rfl,Nat.le_refl _,Nat.zero_le _,.inl rfl,by simp⟩) rfl
  exact ⟨b',cs,T',by rw[q2];exact h1,h2,h3,q1,h5⟩
 ·exact ho
def je(l:List au)(o:List Nat)(i:Nat):List aA×List Nat:=(o.take i).foldl (gP eG l) ([],[])
theorem akD{l:List au}{o:List Nat}{i:Nat}(h:i<o.length):je l o (i+1)=gP eG l (je l o i) o[i]:=by
 simp only[je]
 rw[List.take_succ_eq_append_getElem h,List.foldl_append];rfl
theorem akB(l:List au)(o:List Nat):je l o o.length=iE eG l o:=by simp only[je,List.take_length];rfl
theorem akC(l:List au)(o:List Nat)(i:Nat)(hi:i≤o.length):((je l o i).1.map (·.no)).Nodup∧(je l o i).1.length≤i∧(∀ b∈(je l o i).1,b.bu.length≤i)∧(je l o i).2.length≤i:=by
 obtain ⟨h1,h2,h3,h4⟩:=tX l o i hi
 have hr:o6 (eZ l o i) (je l o i):=vY r6 r7 l (o.take i) ⟨.nil,.nil,rfl⟩
 obtain ⟨k1,k2,k3⟩:=hr
 refine ⟨(k1.map _).nodup_iff.1 k2,by rw[←k1.length_eq];exact h2,fun b hb=>h3 b (k1.mem_iff.2 hb),by rw[←k3];exact h4⟩
theorem alU(l:List au)(s:List aA×List Nat)(i:Nat):gP eG l s i=((dU s.1 (ab l i)).1,if (dU s.1 (ab l i)).2 then s.2 else s.2++[i]):=by
 have key:∀ (b:List aA) (v:List Nat) (r:Option (List aA)),(match r with | some bs=>(bs,v) | none=>(b,v++[i]))=((match r with | some bs'=>(bs',true) | none=>(b,false)).1,if (match r with | some bs'=>(bs',true) | none=>(b,false)).2=true then v else v++[i]):=fun b v r=>by cases r <;>rfl
 exact key s.1 s.2 (c8 eG s.1 (ab l i))
theorem akF(l:List au)(day known:Int):jW l day known=⟨(iE eG l (fw l day known)).1,jZ (cm (iE eG l (fw l day known)).2)⟩:=rfl
theorem alJ{A:ae}{n:Nat}{w:I}{rest:List aB} : dm A (some 2) n [] w (.agg [.nils 9,.nils 1]) rest (some (.agg [.nils 9,.nils 1]))=ay rest (A.aM n (.box (.agg [.nils 9,.nils 1]))):=by
 refine (ej (s:=some 2) (by rfl) (by rfl) (by rfl)).trans ?_
 rw[gZ]
theorem QD:eB [.nils 9,.nils 1] []=some [.nils 9,.nils 1]:=rfl
def ox(bs:List aA):I:=.agg [enc bs,.nils 1]
theorem JD(bs:List aA):(ox bs).di=some [enc bs,.nils 1]:=rfl
theorem kQ(a b:I)(v:I):dI [a,b] 0 0 v=some v:=by simp[dI,I.sizes]
theorem ajW(bs:List aA)(b v:I):dI [enc bs,b] 1 1 v=some v:=by simp[dI,I.sizes,iQ,qy]
theorem alH{A:ae}{n:Nat}{bs bs':List aA}{rest:List aB} : dm A none n [0] (ox bs) (enc bs') rest (some (enc bs))=ay rest (A.aM n (.box (ox bs'))):=by
 rw[ej (s:=none) (v:=enc bs') (old:=enc bs) (dG _) (by rw[kI];rfl) ((eD bs').trans (eD bs).symm)];rfl
theorem alI{A:ae}{n:Nat}{bs:List aA}{v:List Int}{rest:List aB} : dm A none n [1] (ox bs) (enc v) rest (some (.nils 1))=ay rest (A.aM n (.box (enc (⟨bs,v⟩:l9)))):=by
 rw[ej (s:=none) (v:=enc v) (old:=.nils 1) (dG _) (by rw[kI];rfl) (eD v)];rfl
theorem rE{A:ae}{n:Nat}{w:I}{x:l9}{rest:List aB} : dm A (some 2) n [] w (enc x) rest (some (.agg [.nils 9,.nils 1]))=ay rest (A.aM n (.box (enc x))):=by
 refine (ej (s:=some 2) (dG x) (by rw[fS];rfl) (by rw[eD];rfl)).trans ?_
 rw[gZ]
theorem pX(x:l9):b5 (some 2) (enc x)=true:=by rw[fS];rfl
theorem lG(x:l9):(enc x:I).di=some [enc x.gE,enc x.zi]:=rfl
theorem NJ{o:List Nat}{k:Nat}(h:k<o.length)(A:ae):iW A 1 (k:Int) (enc (cm o))=some (.ref (.int .i64 (o[k]:Nat))):=by
 have h2:k<(cm o).length:=by simpa[cm] using h
 rw[ew 1 h2 rfl]
 simp[cm,iw]
theorem al2{key:Nat→Int}{o:List Nat}(hp:o.Pairwise (kO key)){k:Nat}(hk:k<o.length){v:Int}(h:key o[k]≤v):∀ x∈o.take (k+1),key x≤v:=by
 intro x hx
 obtain ⟨j,hj,rfl⟩:=List.getElem_of_mem hx
 rw[List.length_take] at hj
 rw[List.getElem_take]
 by_cases e:j=k
 ·subst e;exact h
 ·have:=List.pairwise_iff_getElem.1 hp j k (by omega) hk (by omega)
  simp only[kO] at this;omega
theorem rY(l:List au)(known day:Int)(hok:dJ l=true):aw Tryz.prog 76 [enc l,enc known,enc day] (enc (jW l day known)):=by
 have hl:=oE hok
 refine aw.bp Tryz.func76 Sm Un Wu (Nat.le_of_ble_eq_true rfl) (fun hwf W0 D0 E1 =>?_)
 simp only[B8,Mk,a6,Nat.zero_add,Nat.reduceAdd]
 clear hwf
 have hS:=N5 l known hl
 have R:=And.intro @bx (And.intro @aL @U)
 repeat' ((first
  |(with_reducible refine .guard (fun hb =>?_) (fun hb =>?_) <;>try simp only[hb])
  |refine J.aI (by decide +kernel) rfl fun K hK =>?_
  |refine .lead _ (hS) ?_
  |(refine .aD [0,1,2,6,7,8,9,10,11,12,13,14,15,22,46,67,86,105] hK ?_;clear hK K)
  |(with_reducible refine .done (hK _ ?_);clear hK K)
  |refine J.of rfl ?_
  |(with_reducible refine aj.aH (fun h =>?_) (fun h =>?_) <;>try simp only[h])) <;>try simp only[aJ,R,Nat.reduceEqDiff,reduceIte,Nat.reduceBEq])
 all_goals clear R
 refine J.loop (fun i:Nat=>ar [(0,enc l),(2,.int .i64 day),(6,.ptr 6 []),(7,enc (gC l known)),(8,enc (cm (jU l day known i))),(9,.int .i64 i)] [(6,.box (.agg [.nils 9,.nils 1]))]) (fun i=>i≤l.length) (fun i=>l.length-i) 0 (Nat.zero_le _) ?_ (fun i hi =>?_)
 ·refine az.oj [] 8 (x:=.nils 1) (y:=enc ([]:List Int)) rfl (by rfl) ?_ ?_ ?_ ?_ ?_ <;>simp[cE,bg,aT,bN,bM,fG,aU,I.only,I.bV,ah.only,br,ak,aq,jU,rf,cm]
 by_cases hlt:i<l.length
 ·have hc:=fX hlt
  have he:=fun A=>ic (A:=A) hlt
  have hw:=fk (i:=i) (by omega)
  have hst:i<(gC l known).length:=by rw[Ny];exact hlt
  have heS:=fun A=>ew (A:=A) 1 hst rfl
  have hsu:=akp l day known i
  obtain ⟨hp1,hp2,hp3⟩:=ako l day known i
  have hdue:oh l day known i=((gC l known)[i]&&(((ab l i).kind != 0)&&decide ((ab l i).day≤day))):=by
   simp only[oh,nE,List.getD_eq_getElem?_getD,List.getElem?_eq_getElem hst,Option.getD_some,bne,ne_eq,decide_not];rfl
  have hgt:decide (day<(ab l i).day) = !decide ((ab l i).day≤day):=by
   by_cases h:(ab l i).day≤day
   ·simp[h]
   ·simp[h];omega
  rcases q1:(gC l known)[i] <;>rcases q2:((ab l i).kind==0) <;>rcases q3:decide ((ab l i).day≤day)
  all_goals
   rw[q3] at hgt
   have q2':((ab l i).kind != 0) = !((ab l i).kind==0):=rfl
   rw[q1,q2',q2,q3] at hdue
   simp only[Bool.not_true,Bool.not_false,Bool.and_true,Bool.and_false] at hdue hgt
   rw[hdue] at hsu
  case true.false.true =>
   simp only[if_true] at hsu
   generalize jU l day known i=o at *
   have htl:(cm o).length=o.length:=by simp[cm]
   have R:=And.intro @hc (And.intro @he (And.intro @heS (And.intro @hw (And.intro @q1 (And.intro @q2 (And.intro @hgt (And.intro @htl (And.intro @bx (And.intro @aL (And.intro @nJ @U))))))))))
   repeat' ((first
    |(with_reducible refine .guard (fun hb =>?_) (fun hb =>?_) <;>try simp only[hb])
    |refine J.aI (by decide +kernel) rfl fun K hK =>?_
    |(refine .aD [0,1,2,6,7,8,9,10,11,12,13,14,15,22,46,67,86,105] hK ?_;clear hK K)
    |(with_reducible refine .done (hK _ ?_);clear hK K)
    |refine J.of rfl ?_
    |(with_reducible refine aj.aH (fun h =>?_) (fun h =>?_) <;>try simp only[h])) <;>try simp only[aJ,R,Nat.reduceEqDiff,reduceIte,Nat.reduceBEq])
   all_goals clear R
   refine J.loop (fun k:Nat=>ar [(0,enc l),(2,.int .i64 day),(6,.ptr 6 []),(7,enc (gC l known)),(8,enc (cm o)),(9,.int .i64 i),(10,.int .i64 k)] [(6,.box (.agg [.nils 9,.nils 1]))]) (fun k=>k≤o.length∧∀ x∈o.drop k,(ab l i).day<(ab l x).day) (fun k=>k) o.length ⟨Nat.le_refl _,by simp⟩ ?_ (fun k hk =>?_)
   ·refine az.cJ ?_ (fun m=>rfl)
    simp[aT,aU]
   obtain ⟨hk1,hk2⟩:=hk
   have bd:(∀ x∈o.take k,(ab l x).day≤(ab l i).day)→gi (fun i=>(ab l i).day) i o=o.take k++i::o.drop k:=fun h=>ah3 h hk2
   have hT:cm (o.take k++i::o.drop k)=(cm o).take k++(i:Int)::(cm o).drop k:=by simp[cm,List.map_take,List.map_drop]
   by_cases hk0:k=0
   ·subst hk0
    have hg0:decide ((0:Int)<((0:Nat):Int))=false:=by decide
    rw[bd (by simp)] at hsu
    have R:=And.intro @hg0 (And.intro @bx (And.intro @aL @U))
    repeat' ((first
     |(with_reducible refine .guard (fun hb =>?_) (fun hb =>?_) <;>try simp only[hb])
     |refine J.aI (by decide +kernel) rfl fun K hK =>?_
     |(refine .aD [0,1,2,6,7,8,9,10,11,12,13,14,15,22,46,67,86,105] hK ?_;clear hK K)
     |(with_reducible refine .done (hK _ ?_);clear hK K)
     |refine J.of rfl ?_
     |(with_reducible refine aj.aH (fun h =>?_) (fun h =>?_) <;>try simp only[h])) <;>try simp only[aJ,R,Nat.reduceEqDiff,reduceIte,Nat.reduceBEq])
    all_goals clear R
    refine J.nX (qm l day (gC l known) ((cm o).take 0++(i:Int)::(cm o).drop 0) i (.agg [.nils 9,.nils 1])) (J.sub ?_ (MF rfl (by omega) (by omega) (.inr rfl))) (fun B hsub =>?_)
    ·refine az.cJ ?_ (fun m=>rfl)
     simp[aT,aU]
    simp only[al,bP]
    refine J.sub hsub ?_
    have R:=And.intro @hw (And.intro @bx (And.intro @aL @U))
    repeat' ((first
     |(with_reducible refine .guard (fun hb =>?_) (fun hb =>?_) <;>try simp only[hb])
     |refine J.aI (by decide +kernel) rfl fun K hK =>?_
     |(refine .aD [0,1,2,6,7,8,9,10,11,12,13,14,15,22,46,67,86,105] hK ?_;clear hK K)
     |(with_reducible refine .done (hK _ ?_);clear hK K)
     |refine J.of rfl ?_
     |(with_reducible refine aj.aH (fun h =>?_) (fun h =>?_) <;>try simp only[h])) <;>try simp only[aJ,R,Nat.reduceEqDiff,reduceIte])
    all_goals clear R
    refine ⟨i+1,by omega,by omega,?_⟩
    rw[hsu,hT]
    refine az.cJ ?_ (fun m=>rfl)
    simp[aT,aU]
   obtain ⟨k',rfl⟩:∃ k',k=k'+1:=⟨k-1,by omega⟩
   have hkl:k'<o.length:=by omega
   have hg1:decide ((0:Int)<((k'+1:Nat):Int))=true:=decide_eq_true (by omega)
   have hwk:IntKind.i64.wrap (((k'+1:Nat):Int)-1)=(k':Int):=by rw[cG _ (by omega) (by omega)];omega
   have hek:=fun A=>NJ (A:=A) hkl
   have hol:o[k']<l.length:=by have:=hp2 _ (List.getElem_mem hkl);omega
   have heo:=fun A=>ic (A:=A) hol
   rcases q4:decide ((ab l i).day<(ab l o[k']).day)
   ·have q4':(ab l o[k']).day≤(ab l i).day:=by simp at q4;omega
    rw[bd (al2 hp1 hkl q4')] at hsu
    have R:=And.intro @hg1 (And.intro @hwk (And.intro @hek (And.intro @heo (And.intro @he (And.intro @q4 (And.intro @bx (And.intro @aL (And.intro @nJ @U))))))))
    repeat' ((first
     |(with_reducible refine .guard (fun hb =>?_) (fun hb =>?_) <;>try simp only[hb])
     |refine J.aI (by decide +kernel) rfl fun K hK =>?_
     |(refine .aD [0,1,2,6,7,8,9,10,11,12,13,14,15,22,46,67,86,105] hK ?_;clear hK K)
     |(with_reducible refine .done (hK _ ?_);clear hK K)
     |refine J.of rfl ?_
     |(with_reducible refine aj.aH (fun h =>?_) (fun h =>?_) <;>try simp only[h])) <;>try simp only[aJ,R,Nat.reduceEqDiff,reduceIte,Nat.reduceBEq])
    all_goals clear R
    refine J.nX (qm l day (gC l known) ((cm o).take (k'+1)++(i:Int)::(cm o).drop (k'+1)) i (.agg [.nils 9,.nils 1])) (J.sub ?_ (MF rfl (by omega) (by omega) (.inr rfl))) (fun B hsub =>?_)
    ·refine az.cJ ?_ (fun m=>rfl)
     simp[aT,aU]
    simp only[al,bP]
    refine J.sub hsub ?_
    have R:=And.intro @hw (And.intro @bx (And.intro @aL @U))
    repeat' ((first
     |(with_reducible refine .guard (fun hb =>?_) (fun hb =>?_) <;>try simp only[hb])
     |refine J.aI (by decide +kernel) rfl fun K hK =>?_
     |(refine .aD [0,1,2,6,7,8,9,10,11,12,13,14,15,22,46,67,86,105] hK ?_;clear hK K)
     |(with_reducible refine .done (hK _ ?_);clear hK K)
     |refine J.of rfl ?_
     |(with_reducible refine aj.aH (fun h =>?_) (fun h =>?_) <;>try simp only[h])) <;>try simp only[aJ,R,Nat.reduceEqDiff,reduceIte])
    all_goals clear R
    refine ⟨i+1,by omega,by omega,?_⟩
    rw[hsu,hT]
    refine az.cJ ?_ (fun m=>rfl)
    simp[aT,aU]
   ·have q4':(ab l i).day<(ab l o[k']).day:=by simpa using q4
    have R:=And.intro @hg1 (And.intro @hwk (And.intro @hek (And.intro @heo (And.intro @he (And.intro @q4 (And.intro @bx (And.intro @aL (And.intro @nJ @U))))))))
    repeat' ((first
     |(with_reducible refine .guard (fun hb =>?_) (fun hb =>?_) <;>try simp only[hb])
     |refine J.aI (by decide +kernel) rfl fun K hK =>?_
     |(refine .aD [0,1,2,6,7,8,9,10,11,12,13,14,15,22,46,67,86,105] hK ?_;clear hK K)
     |(with_reducible refine .done (hK _ ?_);clear hK K)
     |refine J.of rfl ?_
     |(with_reducible refine aj.aH (fun h =>?_) (fun h =>?_) <;>try simp only[h])) <;>try simp only[aJ,R,Nat.reduceEqDiff,reduceIte,Nat.reduceBEq])
    all_goals clear R
    refine ⟨k',⟨by omega,fun x hx =>?_⟩,by omega,?_⟩
    ·rw[List.drop_eq_getElem_cons hkl] at hx
     rcases List.mem_cons.1 hx with rfl | hx
     ·exact q4'
     ·exact hk2 x hx
    ·refine az.cJ ?_ (fun m=>rfl)
     simp[aT,aU]
  all_goals
   simp only[Bool.false_eq_true,if_false] at hsu
   have R:=And.intro @hc (And.intro @he (And.intro @heS (And.intro @hw (And.intro @q1 (And.intro @q2 (And.intro @hgt (And.intro @bx (And.intro @aL (And.intro @nJ @U)))))))))
   repeat' ((first
    |(with_reducible refine .guard (fun hb =>?_) (fun hb =>?_) <;>try simp only[hb])
    |refine J.aI (by decide +kernel) rfl fun K hK =>?_
    |(refine .aD [0,1,2,6,7,8,9,10,11,12,13,14,15,22,46,67,86,105] hK ?_;clear hK K)
    |(with_reducible refine .done (hK _ ?_);clear hK K)
    |refine J.of rfl ?_
    |(with_reducible refine aj.aH (fun h =>?_) (fun h =>?_) <;>try simp only[h])) <;>try simp only[aJ,R,Nat.reduceEqDiff,reduceIte,Nat.reduceBEq])
   all_goals clear R
   refine ⟨i+1,by omega,by omega,?_⟩
   rw[hsu]
   refine az.cJ ?_ (fun m=>rfl)
   simp[aT,aU]
 ·have hc:=gh hlt
  have hge:i=l.length:=by omega
  subst hge
  rw[akn]
  have R:=And.intro @hc (And.intro @alJ (And.intro @QD (And.intro @bx (And.intro @aL @U))))
  repeat' ((first
   |(with_reducible refine .guard (fun hb =>?_) (fun hb =>?_) <;>try simp only[hb])
   |refine J.aI (by decide +kernel) rfl fun K hK =>?_
   |(refine .aD [0,1,2,6,7,8,9,10,11,12,13,14,15,22,46,67,86,105] hK ?_;clear hK K)
   |(with_reducible refine .done (hK _ ?_);clear hK K)
   |refine J.of rfl ?_
   |(with_reducible refine aj.aH (fun h =>?_) (fun h =>?_) <;>try simp only[h])) <;>try simp only[aJ,R,Nat.reduceEqDiff,reduceIte,Nat.reduceBEq])
  all_goals clear R
  have hpl:=akF l day known
  have hmem:∀ i∈fw l day known,i<l.length∧(ab l i).kind≠0:=fun i hi=>by
   have h1:=yk hi
   refine ⟨sy h1,?_⟩
   have:=(List.mem_filter.1 h1).2
   simp only[Bool.and_eq_true,decide_eq_true_eq] at this
   exact this.1
  have hol:(fw l day known).length≤60:=by rw[yj];exact Nat.le_trans (sx l day known) hl
  rw[hpl]
  generalize fw l day known=o at *
  have htl:(cm o).length=o.length:=by simp[cm]
  refine J.sub (az.ai5 11 9 [0] (.agg [.nils 9,.nils 1]) rfl rfl) ?_
  refine J.loop (fun i:Nat=>ar [(0,enc l),(6,.ptr 6 []),(8,enc (cm o)),(11,.ptr 11 []),(12,.own 912 (cm (je l o i).2).length),(13,.int .i64 i)] [(6,.box (.agg [.nils 9,.nils 1])),(11,.box (ox (je l o i).1)),(912,.bW 3 1 ((cm (je l o i).2).map enc))]) (fun i=>i≤o.length) (fun i=>o.length-i) 0 (Nat.zero_le _) ?_ (fun i hi =>?_)
  ·refine az.ln 12 912 3 1 1 rfl rfl ?_
   refine az.bR ?_ ?_ ?_ ?_ <;>simp[aT,bN,bM,bg,aq,aU,ak,I.only,I.bV,br,ah.only,je,cm,ox]
   rfl
  obtain ⟨hr1,hr2,hr3,hr4⟩:=akC l o i hi
  by_cases hlt:i<o.length
  ·have hc:=fX hlt
   have he:=fun A=>NJ (A:=A) hlt
   have hw:=fk (i:=i) (by omega)
   obtain ⟨hjl,hjk⟩:=hmem o[i] (List.getElem_mem hlt)
   have he2:=fun A=>ic (A:=A) hjl
   have hs:=akD (l:=l) hlt
   rw[alU] at hs
   generalize je l o i=s at *
   obtain ⟨bs,vd⟩:=s
   simp only at hr1 hr2 hr3 hr4 hs ⊢
   have hF:=Of bs (ab l o[i]) (by omega) hr1 (fun b hb=>by have:=hr3 b hb;omega) (qZ hok hjl) hjk
   have happ:=fun (A:ae) d rest=>jF (α:=Int) (A:=A) (d:=d) 3 1 8 912 (l:=(cm vd).length) (es:=cm vd) (ys:=[(o[i]:Int)]) (rest:=rest) rfl rfl (by simp) (by simp[maxLen,cm];omega) (by simp[cm];omega)
   generalize dU bs (ab l o[i])=r at hF hs
   obtain ⟨bs',did⟩:=r
   simp only at hF hs
   cases did
   all_goals
    simp only[Bool.false_eq_true,if_false,if_true] at hs
    have R:=And.intro @hc (And.intro @htl (And.intro @he (And.intro @he2 (And.intro @hw (And.intro @happ (And.intro @pj (And.intro @JD (And.intro @kQ (And.intro @alH (And.intro @cD (And.intro @bx (And.intro @aL @U))))))))))))
    repeat' ((first
     |(with_reducible refine .guard (fun hb =>?_) (fun hb =>?_) <;>try simp only[hb])
     |refine J.aI (by decide +kernel) rfl fun K hK =>?_
     |refine .lead _ (hF) ?_
     |(refine .aD [0,1,2,6,7,8,9,10,11,12,13,14,15,22,46,67,86,105] hK ?_;clear hK K)
     |(with_reducible refine .done (hK _ ?_);clear hK K)
     |refine J.of rfl ?_
     |(with_reducible refine aj.aH (fun h =>?_) (fun h =>?_) <;>try simp only[h])) <;>try simp only[aJ,R,Nat.reduceEqDiff,reduceIte,Nat.reduceBEq])
    all_goals clear R
    refine ⟨i+1,by omega,by omega,?_⟩
    rw[hs]
    have ab:cm (vd++[o[i]])=cm vd++[(o[i]:Int)]:=by simp[cm]
    simp only[ab]
    refine az.bR ?_ ?_ ?_ ?_ <;>simp[aT,bN,bM,bg,aq,aU,ak,I.only,I.bV,br,ah.only,ec,iB,ox]
  ·have hc:=gh hlt
   have hge:i=o.length:=by omega
   subst hge
   rw[akB] at hr4 ⊢
   have hF:=Ps (cm (iE eG l o).2) (by simp[cm];omega)
   have hfo:=nq (k:=(cm (iE eG l o).2).length) (T:=3) (es:=cm (iE eG l o).2) 1 rfl rfl
   have R:=And.intro @hc (And.intro @htl (And.intro @hfo (And.intro @JD (And.intro @kQ (And.intro @ajW (And.intro @alI (And.intro @rE (And.intro @pX (And.intro @cD (And.intro @bx (And.intro @aL @U)))))))))))
   repeat' ((first
    |(with_reducible refine .guard (fun hb =>?_) (fun hb =>?_) <;>try simp only[hb])
    |refine J.aI (by decide +kernel) rfl fun K hK =>?_
    |refine .lead _ (hF) ?_
    |(refine .aD [0,1,2,6,7,8,9,10,11,12,13,14,15,22,46,67,86,105] hK ?_;clear hK K)
    |(with_reducible refine .done (hK _ ?_);clear hK K)
    |refine J.of rfl ?_
    |(with_reducible refine aj.aH (fun h =>?_) (fun h =>?_) <;>try simp only[h])) <;>try simp only[aJ,R,Nat.reduceEqDiff,reduceIte,Nat.reduceBEq])
   all_goals clear R
   trace_state
theorem eC.akf{aC:Bool}{ρ:List (Nat×Nat)}{k:Nat}{x:ah}{os0:List (Nat×ah)}{r c:I}(h1:∀ p,c.only p=true)(h2:aC=true→c.cY=true)(h3:r.only (aq [(k,.box c)])=true)(h4:aC=true→r.cY=true):eC aC ρ [(k,x)] os0 r [(k,.box c)]:=by
 refine ⟨fun m x h =>?_,fun m m' h h' _ =>?_,fun m h =>?_,fun m h h' =>?_,h3,h4⟩
 ·simp only[ak] at h
  split at h
  ·simp only[Option.some.injEq] at h;subst h;exact ⟨h1 _,rfl,h2⟩
  ·cases h
 ·rw[dw.1 h,dw.1 h']
 ·rw[dw.1 h];exact dw.2 rfl
 ·rw[dw.1 h] at h'
  have:aq [(k,x)] k=true:=dw.2 rfl
  rw[this] at h';cases h'
theorem xW(p:Nat→Bool)(l:List au):(I.agg (l.map enc)).only p=true:=by simp only[I.only];exact ec p l
theorem Pj(l:List au)(i:Nat)(hi:i<l.length)(hlen:l.length≤60):aw Tryz.prog 78 [enc l,enc (i:Int)] (enc (dz l i)):=by
 have hne:l≠[]:=fun e=>by rw[e] at hi;simp at hi
 have hdl:=CW hi
 refine aw.bp Tryz.func78 Sn Uo Wv (Nat.le_of_ble_eq_true rfl) (fun hwf W0 D0 E1 =>?_)
 simp only[B9,Ml,a6,Nat.zero_add]
 clear hwf
 refine .ao (by decide +kernel) fun K hK =>?_
 simp only[IQ,U,simprocAttr]
 refine .done (hK _ ?_);clear hK K
 refine .ao (by decide +kernel) fun K hK =>?_
 simp only[IS,U,simprocAttr]
 refine .bX false [(7,6)] [] [enc l] (CH l) rfl (Oo l (by omega)) gm.nil ⟨.inl ⟨(kb _ _).symm,br _ _,dG _⟩,trivial⟩ ?_ ?_
 ·rintro x os' (⟨_,h | h,rfl⟩ | ⟨_,k,rfl,rfl⟩)
  ·subst h;exact eC.nil (fun _=>rfl) (fun h=>by cases h)
  ·subst h;exact eC.nil (fun _=>rfl) (fun h=>by cases h)
  ·exact eC.tI (fun p=>xW p _) (fun h=>by cases h) rfl (fun h=>by cases h) rfl (by decide)
 ·rintro x os' (⟨hn,_,_⟩ | ⟨hn,k,rfl,rfl⟩)
  ·exact absurd hn hne
  try simp only[kV,jz,jg,List.cons_append,List.nil_append,U,simprocAttr]
  rw[cG _ (by omega) (by omega)]
  have hp1:(i:Int)+1=((i+1:Nat):Int):=by omega
  simp only[hp1]
  refine .bX false [(1000000,6)] (kV 1000000 l k) [.view 1000000 [] 17 0 l.length,enc (i:Int),enc ((i+1:Nat):Int)] (CT l i) rfl (On l i k hi (by omega)) ⟨?_,?_⟩ ⟨.inl ⟨?_,?_,rfl⟩,.inl ⟨rfl,rfl,rfl⟩,.inl ⟨rfl,rfl,rfl⟩,trivial⟩ ?_ ?_
  ·intro n x h
   simp only[kV,ak] at h
   split at h
   ·rename_i hn'
    subst hn'
    simp only[Option.some.injEq] at h
    subst h
    exact ⟨by simp only[jz,jg,U,simprocAttr],xW _ _,rfl⟩
   ·cases h
  ·intro a b ha hb _
   rw[dw.1 ha,dw.1 hb]
  ·try simp only[jz,simprocAttr]
  ·exact dw.2 rfl
  ·rintro x os' ⟨q,rfl,rfl⟩
   exact eC.akf (fun p=>xW p _) (fun h=>by cases h) rfl (fun h=>by cases h)
  ·rintro x os' ⟨q,rfl,rfl⟩
   rw[←hdl]
   generalize hL:dz l i=L at hdl ⊢
   try simp only[kV,jz,jg,List.cons_append,List.nil_append,U,simprocAttr]
   refine .done (hK _ ?_);clear hK K
   refine J.ret ?_
   simp only[U,simprocAttr]
   try simp only[sH (α:=au) (sz:=17) rfl,U,simprocAttr]
   rw[hL];simp
theorem Om(a b:List Int):aw Tryz.prog 134 [enc a,enc b] (enc (decide (a=b))):=by
 refine aw.bp Tryz.func134 Ra S7 Vh (Nat.le_of_ble_eq_true rfl) (fun hwf W0 D0 E1 =>?_)
 simp only[AP,K6,a6,Nat.zero_add]
 have hlen:a.length≤maxLen:=((ku a).1 hwf.1).1
 simp only[maxLen] at hlen
 clear hwf
 by_cases hl:a.length=b.length
 case neg =>
  have hn:((a.length:Int) != (b.length:Int))=true:=by simp;omega
  have R:=And.intro @hn (And.intro @bx (And.intro @aL @U))
  repeat' ((first
   |(with_reducible refine .guard (fun hb =>?_) (fun hb =>?_) <;>try simp only[hb])
   |refine J.aI (by decide +kernel) rfl fun K hK =>?_
   |(refine .aD [0,1,4,5,10,12,13,14,24] hK ?_;clear hK K)
   |(with_reducible refine .done (hK _ ?_);clear hK K)
   |refine J.of rfl ?_
   |(with_reducible refine aj.aH (fun h =>?_) (fun h =>?_) <;>try simp only[h])) <;>try simp only[aJ,R,simprocAttr])
  all_goals clear R
  have:¬ a=b:=fun e=>hl (by rw[e])
  simp[this]
 have hn:((a.length:Int) != (b.length:Int))=false:=by simp;omega
 have R:=And.intro @hn (And.intro @bx (And.intro @aL @U))
 repeat' ((first
  |(with_reducible refine .guard (fun hb =>?_) (fun hb =>?_) <;>try simp only[hb])
  |refine J.aI (by decide +kernel) rfl fun K hK =>?_
  |(refine .aD [0,1,4,5,10,12,13,14,24] hK ?_;clear hK K)
  |(with_reducible refine .done (hK _ ?_);clear hK K)
  |refine J.of rfl ?_
  |(with_reducible refine aj.aH (fun h =>?_) (fun h =>?_) <;>try simp only[h])) <;>try simp only[aJ,R,simprocAttr])
 all_goals clear R
 refine J.loop (fun i:Nat=>ar [(0,enc a),(1,enc b),(12,.int .i64 a.length),(13,.int .i64 i)] []) (fun i=>i≤a.length∧∀ k,k<i→a[k]?=b[k]?) (fun i=>a.length-i) 0 ⟨Nat.zero_le _,fun k h=>by omega⟩ ?_ (fun i hi =>?_)
 ·refine az.bR ?_ ?_ ?_ ?_ <;>simp[aT,bN,bM,bg,aU,I.only,br]
 obtain ⟨hi1,hi2⟩:=hi
 by_cases hlt:i<a.length
 ·have hc:=fX hlt
  have he:=fun A=>ew (A:=A) 1 hlt rfl
  have hlt2:i<b.length:=by omega
  have he2:=fun A=>ew (A:=A) 1 hlt2 rfl
  have hw:=fk (i:=i) (by omega)
  rcases hp:(a[i] != b[i])
  ·have R:=And.intro @hc (And.intro @he (And.intro @he2 (And.intro @hp (And.intro @hw (And.intro @lR (And.intro @bx @U))))))
   repeat' ((first
    |(with_reducible refine .guard (fun hb =>?_) (fun hb =>?_) <;>try simp only[hb])
    |refine J.aI (by decide +kernel) rfl fun K hK =>?_
    |(refine .aD [0,1,4,5,10,12,13,14,24] hK ?_;clear hK K)
    |(with_reducible refine .done (hK _ ?_);clear hK K)
    |refine J.of rfl ?_
    |(with_reducible refine aj.aH (fun h =>?_) (fun h =>?_) <;>try simp only[h])) <;>try simp only[aJ,R,simprocAttr])
   all_goals clear R
   refine ⟨i+1,⟨by omega,fun k hk =>?_⟩,by omega,?_⟩
   ·by_cases e:k=i
    ·subst e
     have:a[k]=b[k]:=by simpa using hp
     simp[hlt,hlt2,this]
    ·exact hi2 k (by omega)
   ·refine az.bR ?_ ?_ ?_ ?_ <;>simp[aT,bN,bM,bg,aU,I.only,br]
  ·have R:=And.intro @hc (And.intro @he (And.intro @he2 (And.intro @hp (And.intro @lR (And.intro @bx @U)))))
   repeat' ((first
    |(with_reducible refine .guard (fun hb =>?_) (fun hb =>?_) <;>try simp only[hb])
    |refine J.aI (by decide +kernel) rfl fun K hK =>?_
    |(refine .aD [0,1,4,5,10,12,13,14,24] hK ?_;clear hK K)
    |(with_reducible refine .done (hK _ ?_);clear hK K)
    |refine J.of rfl ?_
    |(with_reducible refine aj.aH (fun h =>?_) (fun h =>?_) <;>try simp only[h])) <;>try simp only[aJ,R,simprocAttr])
   all_goals clear R
   have:¬ a=b:=fun e=>by subst e;simp at hp
   simp[this]
 ·have hc:=gh hlt
  have R:=And.intro @hc (And.intro @bx @U)
  repeat' ((first
   |(with_reducible refine .guard (fun hb =>?_) (fun hb =>?_) <;>try simp only[hb])
   |refine J.aI (by decide +kernel) rfl fun K hK =>?_
   |(refine .aD [0,1,4,5,10,12,13,14,24] hK ?_;clear hK K)
   |(with_reducible refine .done (hK _ ?_);clear hK K)
   |refine J.of rfl ?_
   |(with_reducible refine aj.aH (fun h =>?_) (fun h =>?_) <;>try simp only[h])) <;>try simp only[aJ,R,simprocAttr])
  all_goals clear R
  have:a=b:=List.ext_getElem? fun k=>by
   by_cases hk:k<i
   ·exact hi2 k hk
   ·rw[List.getElem?_eq_none (by omega),List.getElem?_eq_none (by omega)]
  simp[this]
def pf(b:aA):bA 8 Int:=⟨[b.no,b.er,b.dP,b.bQ,b.fg,b.born,b.dA,if b.found then 1 else 0],rfl⟩
theorem QB(a b c d e f g h:Int):(eB [.int .i64 0,.int .i64 0,.int .i64 0,.int .i64 0,.int .i64 0,.int .i64 0,.int .i64 0,.int .i64 0] [(0,.int .i64 a),(1,.int .i64 b),(2,.int .i64 c),(3,.int .i64 d),(4,.int .i64 e),(5,.int .i64 f),(6,.int .i64 g),(7,.int .i64 h)])=some [.int .i64 a,.int .i64 b,.int .i64 c,.int .i64 d,.int .i64 e,.int .i64 f,.int .i64 g,.int .i64 h]:=by simp[eB,I.cq,I.size]
theorem alE{A:ae}{n:Nat}{w:I}{a b c d e f g h a' b' c' d' e' f' g' h':Int}{rest:List aB} : dm A (some 8) n [] w (.agg [.int .i64 a,.int .i64 b,.int .i64 c,.int .i64 d,.int .i64 e,.int .i64 f,.int .i64 g,.int .i64 h]) rest (some (.agg [.int .i64 a',.int .i64 b',.int .i64 c',.int .i64 d',.int .i64 e',.int .i64 f',.int .i64 g',.int .i64 h'])) =
  ay rest (A.aM n (.box (.agg [.int .i64 a,.int .i64 b,.int .i64 c,.int .i64 d,.int .i64 e,.int .i64 f,.int .i64 g,.int .i64 h]))):=by
 refine (ej (s:=some 8) (by rfl) (by rfl) (by rfl)).trans ?_
 rw[gZ]
theorem akc{a b c d e f g h:Int} : b5 (some 8) (.agg [.int .i64 a,.int .i64 b,.int .i64 c,.int .i64 d,.int .i64 e,.int .i64 f,.int .i64 g,.int .i64 h])=true:=rfl
theorem zt(b:aA):aw Tryz.prog 133 [.ref (enc (⟨b⟩:eF))] (enc (pf b)):=by
 refine aw.bp Tryz.func133 Q9 S6 Vg (Nat.le_of_ble_eq_true rfl) (fun hwf W0 D0 E1 =>?_)
 simp only[AO,K5,a6]
 clear hwf
 rcases hf:b.found
 all_goals
  have R:=And.intro @hf (And.intro @QB (And.intro @alE (And.intro @akc eK)))
  repeat' ((first
   |(with_reducible refine .guard (fun hb =>?_) (fun hb =>?_) <;>try simp only[hb])
   |refine J.aI (by decide +kernel) rfl fun K hK =>?_
   |(refine .aD [0,2,3,8] hK ?_;clear hK K)
   |(with_reducible refine .done (hK _ ?_);clear hK K)
   |refine J.of rfl ?_
   |(with_reducible refine aj.aH (fun h =>?_) (fun h =>?_) <;>try simp only[h])) <;>try simp only[aJ,R,simprocAttr])
  all_goals clear R
  simp[pf,hf];rfl
def jT:Option aA→I
 |none=>.nilp
 |some b=>.ref (enc (⟨b⟩:eF))
def jj(m:cn):Option aA→Option aA→Bool
 |some a,some b=>decide ((pf a).l=(pf b).l)&&decide ((ft m a.bu).1=(ft m b.bu).1)
 |none,none=>true
 |_,_=>false
theorem yr:mK false (some true) (some false)=some (.bool false):=rfl
theorem Ph(m:cn)(x y:Option aA):aw Tryz.prog 77 [enc m,jT x,jT y] (enc (jj m x y)):=by
 rcases x with _ | a
 ·rcases y with _ | b
  all_goals
   simp only[jT,jj]
   refine aw.bp Tryz.func77 vp vr vC (Nat.le_of_ble_eq_true rfl) (fun hwf W0 D0 E1 =>?_)
   simp only[sn,ua,a6,Nat.zero_add,Nat.reduceAdd]
   clear hwf
   have R:=And.intro @yr (And.intro @sD (And.intro @eP eK))
   repeat' ((first
    |(with_reducible refine .guard (fun hb =>?_) (fun hb =>?_) <;>try simp only[hb])
    |refine J.aI (by decide +kernel) rfl fun K hK =>?_
    |(refine .aD [0,1,2,3,6,7,13] hK ?_;clear hK K)
    |(with_reducible refine .done (hK _ ?_);clear hK K)
    |refine J.of rfl ?_
    |(with_reducible refine aj.aH (fun h =>?_) (fun h =>?_) <;>try simp only[h])) <;>try simp only[aJ,R,simprocAttr])
   all_goals clear R
 rcases y with _ | b
 ·simp only[jT,jj]
  refine aw.bp Tryz.func77 vp vr vC (Nat.le_of_ble_eq_true rfl) (fun hwf W0 D0 E1 =>?_)
  simp only[sn,ua,a6,Nat.zero_add,Nat.reduceAdd]
  clear hwf
  have R:=And.intro @yr (And.intro @sD (And.intro @eP eK))
  repeat' ((first
   |(with_reducible refine .guard (fun hb =>?_) (fun hb =>?_) <;>try simp only[hb])
   |refine J.aI (by decide +kernel) rfl fun K hK =>?_
   |(refine .aD [0,1,2,3,6,7,13] hK ?_;clear hK K)
   |(with_reducible refine .done (hK _ ?_);clear hK K)
   |refine J.of rfl ?_
   |(with_reducible refine aj.aH (fun h =>?_) (fun h =>?_) <;>try simp only[h])) <;>try simp only[aJ,R,simprocAttr])
  all_goals clear R
 simp only[jT,jj]
 refine aw.bp Tryz.func77 vp vr vC (Nat.le_of_ble_eq_true rfl) (fun hwf W0 D0 E1 =>?_)
 simp only[sn,ua,a6,Nat.zero_add,Nat.reduceAdd]
 clear hwf
 have ha:=rW m a
 have hyB:=rW m b
 have h3:=zt a
 have h4:=zt b
 have R:=And.intro @yr (And.intro @sD (And.intro @eP eK))
 repeat' ((first
  |(with_reducible refine .guard (fun hb =>?_) (fun hb =>?_) <;>try simp only[hb])
  |refine J.aI (by decide +kernel) rfl fun K hK =>?_
  |refine .flat _ (h3) rfl ?_
  |refine .flat _ (h4) rfl ?_
  |refine .lead _ (ha) ?_
  |refine .lead _ (hyB) ?_
  |refine .flat _ (Om _ _) rfl ?_
  |(refine .aD [0,1,2,3,6,7,13] hK ?_;clear hK K)
  |(with_reducible refine .done (hK _ ?_);clear hK K)
  |refine J.of rfl ?_
  |(with_reducible refine aj.aH (fun h =>?_) (fun h =>?_) <;>try simp only[h])) <;>try simp only[aJ,R,List.cons_append,simprocAttr])
 all_goals clear R
 all_goals simp_all
def rA(m:cn)(l:List au)(no known:Int)(i:Nat):Bool := !jj m (cC (db l 100000 known) no) (cC (db (dz l i) 100000 known) no)
def fY(m:cn)(l:List au)(no known:Int)(n:Nat):List Item:=((List.range n).filter (rA m l no known)).map fun i=>(ab l i).da
theorem MR(m:cn)(l:List au)(no known:Int)(n:Nat):fY m l no known (n+1)=fY m l no known n++if rA m l no known n then [(ab l n).da] else []:=by
 simp only[fY,List.range_succ,List.filter_append,List.map_append,List.filter_cons,List.filter_nil]
 congr 1
 split <;>rfl
theorem MQ(m:cn)(l:List au)(no known:Int)(n:Nat):(fY m l no known n).length≤n:=by
 simp only[fY,List.length_map]
 have:=List.length_filter_le (rA m l no known) (List.range n)
 simpa using this
def nN(m:cn)(l:List au)(no known:Int):List Item×Int:=if (iu m l no known).2=0 then (fY m l no known l.length,0) else ([],(iu m l no known).2)
theorem Ah{m:cn}{l:List au}{no known:Int}(h:(iu m l no known).2=0):dJ l=true:=by
 simp only[iu] at h
 repeat' split at h
 all_goals first | (exact nc (by assumption)) | (simp_all;done) | exact nc h
theorem Kn(p:Nat→Bool)(x:Option aA):(jT x).only p=true:=by cases x <;>simp[jT,I.only,br]
theorem Ka{l:List au} : dJ l=true↔l.length≤60∧(∀ x∈l,gA x=true)∧l.Pairwise fun a b=>before a.da b.da=true:=by
 constructor
 ·intro h
  refine ⟨oE h,fun x hx =>?_,List.pairwise_iff_getElem.2 fun i j hi hj hij =>?_⟩
  ·obtain ⟨i,hi,rfl⟩:=List.getElem_of_mem hx
   have:=qZ h hi
   rwa [←lD hi] at this
  ·have:=Kb h hij hj
   rwa [←lD hi,←lD hj] at this
 ·rintro ⟨h1,h2,h3⟩
  refine yc h1 fun i hi =>?_
  simp only[ig,Bool.and_eq_true,Bool.or_eq_true,decide_eq_true_eq]
  refine ⟨by rw[←lD hi];exact h2 _ (List.getElem_mem hi),?_⟩
  by_cases h0:i=0
  ·exact .inl h0
  ·right
   have:=List.pairwise_iff_getElem.1 h3 (i-1) i (by omega) hi (by omega)
   rwa [lD,lD] at this
theorem aj5{l l':List au}(hs:l'.Sublist l)(h:dJ l=true):dJ l'=true:=by
 obtain ⟨h1,h2,h3⟩:=Ka.1 h
 exact Ka.2 ⟨Nat.le_trans hs.length_le h1,fun x hx=>h2 x (hs.subset hx),h3.sublist hs⟩
theorem CV(l:List au)(i:Nat):(dz l i).Sublist l:=by
 have:=(List.take_append_drop i l)
 simp only[dz]
 conv=>rhs;rw[←this]
 refine List.Sublist.append_left ?_ _
 rw[←List.drop_drop]
 exact List.drop_sublist _ _
theorem J9{l:List au}(hok:dJ l=true)(i:Nat):dJ (dz l i)=true:=aj5 (CV l i) hok
theorem zD(m:cn)(l:List au)(no known:Int):aw Tryz.prog 18 [enc m,enc l,enc no,enc known] (.tuple [enc (nN m l no known).1,enc (nN m l no known).2]):=by
 refine aw.bp Tryz.func18 RK TJ VS (Nat.le_of_ble_eq_true rfl) (fun hwf W0 D0 E1 =>?_)
 simp only[Bv,LI,a6,Nat.zero_add,Nat.reduceAdd]
 clear hwf
 have hC:=rS m l no known
 simp only[nN]
 have hok0:=Ah (m:=m) (l:=l) (no:=no) (known:=known)
 generalize iu m l no known=e at hC hok0 ⊢
 obtain ⟨e1,e2⟩:=e
 simp only at hC hok0 ⊢
 by_cases he:e2=0
 case neg =>
  have hn:=mF he
  have R:=And.intro @hn (And.intro @he (And.intro @eP eK))
  repeat' ((first
   |(with_reducible refine .guard (fun hb =>?_) (fun hb =>?_) <;>try simp only[hb])
   |refine J.aI (by decide +kernel) rfl fun K hK =>?_
   |refine .lead _ (hC) ?_
   |(refine .aD [0,1,2,3,4,8,9,11,12,13,14,15,25,35,36,37,38,55] hK ?_;clear hK K)
   |(with_reducible refine .done (hK _ ?_);clear hK K)
   |refine J.of rfl ?_
   |(with_reducible refine aj.aH (fun h =>?_) (fun h =>?_) <;>try simp only[h])) <;>try simp only[aJ,R,simprocAttr])
  all_goals clear R
  all_goals rfl
 have hn:=mE he
 have hok:=hok0 he
 subst he
 have hF:=rV l known hok
 have hk:=tq (db l 100000 known) no
 have hx:gv (.i .i64) .nilp (.int .i64 no) (dp (db l 100000 known)) ((db l 100000 known).map fun b=>.ref (enc (⟨b⟩:eF)))=some (jT (cC (db l 100000 known) no),(cC (db l 100000 known) no).isSome):=by
  rw[hk];cases cC (db l 100000 known) no <;>rfl
 have hlen:=oE hok
 have R:=And.intro @hn (And.intro @hx (And.intro @eP eK))
 repeat' ((first
  |(with_reducible refine .guard (fun hb =>?_) (fun hb =>?_) <;>try simp only[hb])
  |refine J.aI (by decide +kernel) rfl fun K hK =>?_
  |refine .lead _ (hC) ?_
  |refine .lead _ (hF) ?_
  |(refine .aD [0,1,2,3,4,8,9,11,12,13,14,15,25,35,36,37,38,55] hK ?_;clear hK K)
  |(with_reducible refine .done (hK _ ?_);clear hK K)
  |refine J.of rfl ?_
  |(with_reducible refine aj.aH (fun h =>?_) (fun h =>?_) <;>try simp only[h])) <;>try simp only[aJ,R,simprocAttr])
 all_goals clear R
 refine J.loop (fun i:Nat=>ar [(1,enc l),(2,.int .i64 no),(3,.int .i64 known),(4,.ptr 4 []),(12,jT (cC (db l 100000 known) no)),(13,.own 913 (fY m l no known i).length),(35,enc l),(36,.int .i64 l.length),(37,.int .i64 i)] [(4,.box (enc m)),(913,.bW 65 2 ((fY m l no known i).map enc))]) (fun i=>i≤l.length) (fun i=>l.length-i) 0 (Nat.zero_le _) ?_ (fun i hi =>?_)
 ·refine az.ln 13 913 65 2 2 rfl rfl ?_
  simp only[fY,List.range_zero,List.filter_nil,List.map_nil,List.length_nil]
  refine az.bR ?_ ?_ ?_ ?_ <;>simp[*,aT,bN,bM,bg,aq,aU,cw,I.only,I.bV,ah.only,br,Kn]
 have hRl:=MQ m l no known i
 by_cases hlt:i<l.length
 ·have hc:=fX hlt
  have he:=fun A=>ic (A:=A) hlt
  have hw:=fk (i:=i) (by omega)
  have hD:=Pj l i hlt hlen
  have hokd:=J9 hok i
  have hF2:=rV (dz l i) known hokd
  have hk2:=tq (db (dz l i) 100000 known) no
  have hx2:gv (.i .i64) .nilp (.int .i64 no) (dp (db (dz l i) 100000 known)) ((db (dz l i) 100000 known).map fun b=>.ref (enc (⟨b⟩:eF)))=some (jT (cC (db (dz l i) 100000 known) no),(cC (db (dz l i) 100000 known) no).isSome):=by
   rw[hk2];cases cC (db (dz l i) 100000 known) no <;>rfl
  have hS:=Ph m (cC (db l 100000 known) no) (cC (db (dz l i) 100000 known) no)
  have hsu:=MR m l no known i
  have hp:rA m l no known i = !jj m (cC (db l 100000 known) no) (cC (db (dz l i) 100000 known) no):=rfl
  rw[hp] at hsu
  generalize jj m (cC (db l 100000 known) no) (cC (db (dz l i) 100000 known) no)=b at hS hsu
  have happ:=fun (A:ae) d rest=>jF (α:=Item) (A:=A) (d:=d) 65 2 16 913 (l:=(fY m l no known i).length) (es:=fY m l no known i) (ys:=[(ab l i).da]) (rest:=rest) rfl rfl (by simp) (by simp[maxLen];omega) (by simp;omega)
  have hbs:=m9 2 (ab l i).da rfl
  have hol:(∀ aC A x,bd aC A (jT x)=some (jT x)):=fun aC A x=>by cases x <;>simp[jT,bd,dV]
  cases b
  all_goals
   simp only[Bool.not_true,Bool.not_false,if_true,Bool.false_eq_true,if_false,List.append_nil] at hsu
   have R:=And.intro @hc (And.intro @he (And.intro @hw (And.intro @hx2 (And.intro @happ (And.intro @hbs (And.intro @hol (And.intro @eP eK)))))))
   repeat' ((first
    |(with_reducible refine .guard (fun hb =>?_) (fun hb =>?_) <;>try simp only[hb])
    |refine J.aI (by decide +kernel) rfl fun K hK =>?_
    |refine .lead _ (hD) ?_
    |refine .lead _ (hF2) ?_
    |refine .flat _ (hS) rfl ?_
    |(refine .aD [0,1,2,3,4,8,9,11,12,13,14,15,25,35,36,37,38,55] hK ?_;clear hK K)
    |(with_reducible refine .done (hK _ ?_);clear hK K)
    |refine J.of rfl ?_
    |(with_reducible refine aj.aH (fun h =>?_) (fun h =>?_) <;>try simp only[h])) <;>try simp only[aJ,R,simprocAttr])
   all_goals clear R
   refine ⟨i+1,by omega,by omega,?_⟩
   simp only[hsu]
   refine az.bR ?_ ?_ ?_ ?_ <;>simp[*,aT,bN,bM,bg,aq,aU,cw,I.only,I.bV,ah.only,ec,iB,br,Kn]
 ·have hc:=gh hlt
  have hie:i=l.length:=by omega
  subst hie
  have hfo:np (fY m l no known l.length).length (some (.bW 65 2 ((fY m l no known l.length).map enc)))=some (enc (fY m l no known l.length)):=nq 2 rfl rfl
  have R:=And.intro @hc (And.intro @hfo (And.intro @bx (And.intro @aL @U)))
  repeat' ((first
   |(with_reducible refine .guard (fun hb =>?_) (fun hb =>?_) <;>try simp only[hb])
   |refine J.aI (by decide +kernel) rfl fun K hK =>?_
   |(refine .aD [0,1,2,3,4,8,9,11,12,13,14,15,25,35,36,37,38,55] hK ?_;clear hK K)
   |(with_reducible refine .done (hK _ ?_);clear hK K)
   |refine J.of rfl ?_
   |(with_reducible refine aj.aH (fun h =>?_) (fun h =>?_) <;>try simp only[h])) <;>try simp only[aJ,R,simprocAttr])
  all_goals clear R
theorem zJ(a b:List Item):aw Tryz.prog 21 [enc a,enc b] (enc (decide (a=b))):=by
 refine aw.bp Tryz.func21 RW TV V4 (Nat.le_of_ble_eq_true rfl) (fun hwf W0 D0 E1 =>?_)
 simp only[BH,LV,a6,Nat.zero_add]
 have hlen:a.length≤maxLen:=((ku a).1 hwf.1).1
 simp only[maxLen] at hlen
 clear hwf
 by_cases hl:a.length=b.length
 case neg =>
  have hn:((a.length:Int) != (b.length:Int))=true:=by simp;omega
  have R:=And.intro @hn (And.intro @bx (And.intro @aL @U))
  repeat' ((first
   |(with_reducible refine .guard (fun hb =>?_) (fun hb =>?_) <;>try simp only[hb])
   |refine J.aI (by decide +kernel) rfl fun K hK =>?_
   |(refine .aD [0,1,4,5,10,14,25] hK ?_;clear hK K)
   |(with_reducible refine .done (hK _ ?_);clear hK K)
   |refine J.of rfl ?_
   |(with_reducible refine aj.aH (fun h =>?_) (fun h =>?_) <;>try simp only[h])) <;>try simp only[aJ,R,simprocAttr])
  all_goals clear R
  have:¬ a=b:=fun e=>hl (by rw[e])
  simp[this]
 have hn:((a.length:Int) != (b.length:Int))=false:=by simp;omega
 have R:=And.intro @hn (And.intro @bx (And.intro @aL @U))
 repeat' ((first
  |(with_reducible refine .guard (fun hb =>?_) (fun hb =>?_) <;>try simp only[hb])
  |refine J.aI (by decide +kernel) rfl fun K hK =>?_
  |(refine .aD [0,1,4,5,10,14,25] hK ?_;clear hK K)
  |(with_reducible refine .done (hK _ ?_);clear hK K)
  |refine J.of rfl ?_
  |(with_reducible refine aj.aH (fun h =>?_) (fun h =>?_) <;>try simp only[h])) <;>try simp only[aJ,R,simprocAttr])
 all_goals clear R
 refine J.loop (fun i:Nat=>ar [(0,enc a),(1,enc b),(5,.int .i64 i)] []) (fun i=>i≤a.length∧∀ k,k<i→a[k]?=b[k]?) (fun i=>a.length-i) 0 ⟨Nat.zero_le _,fun k h=>by omega⟩ ?_ (fun i hi =>?_)
 ·refine az.bR ?_ ?_ ?_ ?_ <;>simp[aT,bN,bM,bg,aU,I.only,br]
 obtain ⟨hi1,hi2⟩:=hi
 by_cases hlt:i<a.length
 ·have hc:=fX hlt
  have he:=fun A=>ew (A:=A) 2 hlt rfl
  have hlt2:i<b.length:=by omega
  have he2:=fun A=>ew (A:=A) 2 hlt2 rfl
  have hw:=fk (i:=i) (by omega)
  rcases hp:decide (a[i]=b[i])
  ·have R:=And.intro @hc (And.intro @he (And.intro @he2 (And.intro @hp (And.intro @lR (And.intro @bx (And.intro @aL @U))))))
   repeat' ((first
    |(with_reducible refine .guard (fun hb =>?_) (fun hb =>?_) <;>try simp only[hb])
    |refine J.aI (by decide +kernel) rfl fun K hK =>?_
    |(refine .aD [0,1,4,5,10,14,25] hK ?_;clear hK K)
    |(with_reducible refine .done (hK _ ?_);clear hK K)
    |refine J.of rfl ?_
    |(with_reducible refine aj.aH (fun h =>?_) (fun h =>?_) <;>try simp only[h])) <;>try simp only[aJ,R,simprocAttr])
   all_goals clear R
   have:¬ a=b:=fun e=>by subst e;simp at hp
   simp[this]
  ·have R:=And.intro @hc (And.intro @he (And.intro @he2 (And.intro @hp (And.intro @hw (And.intro @lR (And.intro @bx (And.intro @aL @U)))))))
   repeat' ((first
    |(with_reducible refine .guard (fun hb =>?_) (fun hb =>?_) <;>try simp only[hb])
    |refine J.aI (by decide +kernel) rfl fun K hK =>?_
    |(refine .aD [0,1,4,5,10,14,25] hK ?_;clear hK K)
    |(with_reducible refine .done (hK _ ?_);clear hK K)
    |refine J.of rfl ?_
    |(with_reducible refine aj.aH (fun h =>?_) (fun h =>?_) <;>try simp only[h])) <;>try simp only[aJ,R,simprocAttr])
   all_goals clear R
   refine ⟨i+1,⟨by omega,fun k hk =>?_⟩,by omega,?_⟩
   ·by_cases e:k=i
    ·subst e
     have:a[k]=b[k]:=by simpa using hp
     simp[hlt,hlt2,this]
    ·exact hi2 k (by omega)
   ·refine az.bR ?_ ?_ ?_ ?_ <;>simp[aT,bN,bM,bg,aU,I.only,br]
 ·have hc:=gh hlt
  have R:=And.intro @hc (And.intro @bx (And.intro @aL @U))
  repeat' ((first
   |(with_reducible refine .guard (fun hb =>?_) (fun hb =>?_) <;>try simp only[hb])
   |refine J.aI (by decide +kernel) rfl fun K hK =>?_
   |(refine .aD [0,1,4,5,10,14,25] hK ?_;clear hK K)
   |(with_reducible refine .done (hK _ ?_);clear hK K)
   |refine J.of rfl ?_
   |(with_reducible refine aj.aH (fun h =>?_) (fun h =>?_) <;>try simp only[h])) <;>try simp only[aJ,R,simprocAttr])
  all_goals clear R
  have:a=b:=List.ext_getElem? fun k=>by
   by_cases hk:k<i
   ·exact hi2 k hk
   ·rw[List.getElem?_eq_none (by omega),List.getElem?_eq_none (by omega)]
  simp[this]
def jG(a b c d e f:Int):bA 6 Int:=⟨[a,b,c,d,e,f],rfl⟩
def Qa(a b c d e:Int):bA 5 Int:=⟨[a,b,c,d,e],rfl⟩
def lE(n k d kn b dP s o:Int)(r:bA 6 Int)(f:Int):au:=⟨⟨0,n⟩,k,d,kn,b,dP,s,o,r,⟨0,f⟩⟩
def iS:List au:=[lE 0 1 1 1 10 0 3 2 (jG 0 0 0 0 0 0) 0,lE 1 1 5 5 11 10 3 2 (jG 0 0 0 0 0 0) 0,lE 2 2 6 6 20 0 3 0 (jG 0 0 0 0 0 0) 0,lE 3 4 6 6 20 0 0 0 (jG 31 1 1 1 1 31) 0,lE 4 3 7 7 10 0 0 1 (jG 0 0 0 0 0 0) 0,
 lE 5 4 6 9 20 0 0 0 (jG 24 1 1 1 1 31) 0,lE 6 5 10 10 20 0 0 3 (jG 0 0 0 0 0 0) 0,lE 7 4 8 11 11 0 0 0 (jG 1 1 1 1 1 1) 0,lE 8 6 12 12 10 0 0 0 (jG 0 0 0 0 0 0) 0,lE 9 0 0 14 0 0 0 0 (jG 0 0 0 0 0 0) 5]
def lF:cn:=⟨Qa 1 3 4 24 24,0,[⟨1,jG 0 0 0 0 0 0⟩,⟨2,jG 2 0 0 0 0 0⟩,⟨3,jG 3 0 0 0 0 2⟩]⟩
theorem Pm:aw Tryz.prog 81 [] (enc iS):=by
 refine aw.bp Tryz.func81 Sr Ur Wy (Nat.le_of_ble_eq_true rfl) (fun hwf W0 D0 E1 =>?_)
 simp only[Cc,Mo,a6]
 clear hwf
 refine .ao (by decide +kernel) fun K hK =>?_
 simp only[IT,U,simprocAttr]
 refine .done (hK _ ?_);clear hK K
 refine .ao (by decide +kernel) fun K hK =>?_
 simp only[IU,U,simprocAttr]
 try simp only[eB,I.cq,I.size,I.sizes,List.set_cons_zero,List.set_cons_succ,List.getElem?_cons_zero,List.getElem?_cons_succ,and_self,U,simprocAttr]
 simp only[iv]
 rw[if_pos ⟨by rfl,by rfl⟩]
 try simp only[U,simprocAttr]
 refine .done (hK _ ?_);clear hK K
 refine J.ret ?_
 simp only[U,simprocAttr]
 try simp only[Bool.and_self,U,simprocAttr]
 rfl
theorem Pn:aw Tryz.prog 82 [] (enc lF):=by
 refine aw.bp Tryz.func82 St Us Wz (Nat.le_of_ble_eq_true rfl) (fun hwf W0 D0 E1 =>?_)
 simp only[Cd,Mp,a6]
 clear hwf
 refine .ao (by decide +kernel) fun K hK =>?_
 simp only[IV,U,simprocAttr]
 refine .done (hK _ ?_);clear hK K
 refine .ao (by decide +kernel) fun K hK =>?_
 simp only[IW,U,simprocAttr]
 try simp only[eB,I.cq,I.size,I.sizes,List.set_cons_zero,List.set_cons_succ,List.getElem?_cons_zero,List.getElem?_cons_succ,and_self,U,simprocAttr]
 simp only[iv]
 rw[if_pos ⟨by rfl,by rfl⟩]
 try simp only[eB,I.cq,I.size,I.sizes,List.set_cons_zero,List.set_cons_succ,List.getElem?_cons_zero,List.getElem?_cons_succ,and_self,U,simprocAttr]
 rw[ej (by rfl) (by rfl) (by rfl)]
 try simp only[gZ,U,simprocAttr]
 refine .done (hK _ ?_);clear hK K
 refine J.ret ?_
 simp only[U,simprocAttr]
 rw[if_pos (by rfl)]
 try simp only[Bool.and_self,U,simprocAttr]
 rfl
def ou(x:Int):List Int→List Int
 | []=>[x]
 |y::l=>if x≤y then x::y::l else y::ou x l
def lM:List Int→List Int
 | []=>[]
 |x::l=>ou x (lM l)
theorem xF(x:Int):∀ l,(ou x l).Perm (x::l)
 | []=>.refl _
 |y::l=>by
  simp only[ou]
  split
  ·exact .refl _
  ·exact ((xF x l).cons y).trans (.swap x y l)
theorem Js(x:Int):∀ l:List Int,l.Pairwise (· ≤ ·)→(ou x l).Pairwise (· ≤ ·)
 | [],_=>by simp[ou]
 |y::l,h=>by
  obtain ⟨h1,h2⟩:=List.pairwise_cons.1 h
  simp only[ou]
  split
  ·rename_i hxy
   refine List.pairwise_cons.2 ⟨fun z hz =>?_,h⟩
   rcases List.mem_cons.1 hz with rfl | hz
   ·exact hxy
   ·have:=h1 z hz;omega
  ·refine List.pairwise_cons.2 ⟨fun z hz =>?_,Js x l h2⟩
   rcases List.mem_cons.1 ((xF x l).mem_iff.1 hz) with rfl | hz
   ·omega
   ·exact h1 z hz
theorem Jy:∀ l,(lM l).Perm l
 | []=>.refl _
 |x::l=>(xF x _).trans ((Jy l).cons x)
theorem Jz:∀ l,(lM l).Pairwise (· ≤ ·)
 | []=>.nil
 |x::l=>Js x _ (Jz l)
theorem Np{a b:List Int}(ha:a.Pairwise (· ≤ ·))(hb:b.Pairwise (· ≤ ·))(h:a.Perm b):a=b :=
 List.Perm.eq_of_pairwise (fun x y _ _ h k=>Int.le_antisymm h k) ha hb h
theorem Nk(l:List Int):(dX l).Pairwise (· ≤ ·):=by
 have hx:=List.pairwise_mergeSort (le:=fun x y:Int=>decide (x≤y)) (by intro a b c;simp;omega) (by intro a b;simp;omega) l
 exact hx.imp fun {a b} h=>by simpa using h
theorem Nj(l:List Int):(dX l).Perm l:=List.mergeSort_perm _ _
theorem Ni(l:List Int):dX l=lM l:=Np (Nk l) (Jz l) ((Nj l).trans (Jy l).symm)
theorem Yn:ta iS 10 6 7=(2,0):=by decide +kernel
theorem Yo:iu lF iS 20 9=([3],0):=by decide +kernel
theorem Yp:iu lF iS 20 14=([1,2,3],0):=by decide +kernel
theorem Yq:iL lF iS 11=([11],0):=by
 simp only[iL,Ni];decide +kernel
theorem Yr:sr iS 2 3 7 7=(1,0):=by decide +kernel
theorem Ys:qo iS 12 12=([11,20],0):=by
 simp only[qo,Ni];decide +kernel
theorem Yt:nN lF iS 20 9=([⟨0,2⟩,⟨0,5⟩],0):=by decide +kernel
theorem QC(b:Int):eB [.int .i64 0,.int .i64 0] [(1,.int .i64 b)]=some [.int .i64 0,.int .i64 b]:=by simp[eB,I.cq,I.size]
theorem QJ(a b c d:Int):iv 2 (some [.agg [.int .i64 a,.int .i64 b],.agg [.int .i64 c,.int .i64 d]])=some (enc ([⟨a,b⟩,⟨c,d⟩]:List Item)):=m8 (ys:=([⟨a,b⟩,⟨c,d⟩]:List Item)) 2 rfl
theorem QI(a b c:Int):iv 1 (some [.int .i64 a,.int .i64 b,.int .i64 c])=some (enc [a,b,c]):=m8 (ys:=[a,b,c]) 1 rfl
theorem alK{A:ae}{n:Nat}{b:I}(m:cn)(x y z:I){rest:List aB}(h:I.aQ (.agg [x,y,z])=Enc.aQ cn):dm A (some 7) n [] b (enc m) rest (some (.agg [x,y,z]))=ay rest (A.aM n (.box (enc m))):=by
 refine (ej (s:=some 7) (dG _) (by rw[fS];rfl) ((eD m).trans h.symm)).trans ?_
 rw[gZ]
theorem O7:aw Tryz.prog 22 [] (enc true):=by
 have h1:=O9 iS 10 6 7
 have h2:=rS lF iS 20 9
 have h3:=rS lF iS 20 14
 have h4:=zA lF iS 11
 have h5:=Pa iS 2 3 7 7
 have h6:=O8 iS 12 12
 have h7:=zD lF iS 20 9
 rw[Yn] at h1
 rw[Yo] at h2
 rw[Yp] at h3
 rw[Yq] at h4
 rw[Yr] at h5
 rw[Ys] at h6
 rw[Yt] at h7
 simp only at h1 h2 h3 h4 h5 h6 h7
 have h8:=fun a b=>rU a b
 refine aw.bp Tryz.func22 R1 T0 V9 (Nat.le_of_ble_eq_true rfl) (fun hwf W0 D0 E1 =>?_)
 simp only[BM,L0,a6]
 clear hwf
 have hst:=fun (A:ae) (rest:List aB)=>alK (A:=A) (n:=2) (b:=.agg [.agg [.int .i64 0,.int .i64 0,.int .i64 0,.int .i64 0,.int .i64 0],.int .i64 0,.nils 7]) lF (.agg [.int .i64 0,.int .i64 0,.int .i64 0,.int .i64 0,.int .i64 0]) (.int .i64 0) (.nils 7) (rest:=rest) rfl
 have q1:((2:Int)==2)=true:=rfl
 have q2:((1:Int)==1)=true:=rfl
 have q3:((0:Int)==0)=true:=rfl
 have R:=And.intro @hst (And.intro @q1 (And.intro @q2 (And.intro @q3 (And.intro @eP (And.intro @QC (And.intro @QJ (And.intro @pj (And.intro @qu (And.intro @QI (And.intro @aL @U))))))))))
 repeat' ((first
  |(with_reducible refine .guard (fun hb =>?_) (fun hb =>?_) <;>try simp only[hb])
  |refine J.aI (by decide +kernel) rfl fun K hK =>?_
  |refine .lead _ (Pm) ?_
  |refine .lead _ (Pn) ?_
  |refine .flat _ (h1) rfl ?_
  |refine .lead _ (h2) ?_
  |refine .lead _ (h3) ?_
  |refine .lead _ (h4) ?_
  |refine .flat _ (h5) rfl ?_
  |refine .lead _ (h6) ?_
  |refine .lead _ (h7) ?_
  |refine .flat _ (rU _ _) rfl ?_
  |refine .flat _ (zJ _ _) rfl ?_
  |(refine .aD [0,1,2,3,4,5,6,7,8,9,10,11,12,13,14,15,16,17] hK ?_;clear hK K)
  |(with_reducible refine .done (hK _ ?_);clear hK K)
  |refine J.of rfl ?_
  |(with_reducible refine aj.aH (fun h =>?_) (fun h =>?_) <;>try simp only[h])) <;>try simp only[aJ,R,decide_true,simprocAttr])
 all_goals clear R
 all_goals trace_state
def qx(m:cn)(rs:List (bA 6 Int))(g:cA):Bool:=(List.range rs.length).all (ni m rs g)
def jV(m:cn)(rs:List (bA 6 Int))(n:Nat):List Int:=((m.given.take n).filter (qx m rs)).map (·.bQ)
theorem akw(m:cn)(rs:List (bA 6 Int)):jV m rs 0=[]:=by simp[jV]
theorem akv{m:cn}(rs:List (bA 6 Int)){n:Nat}(h:n<m.given.length):jV m rs (n+1)=jV m rs n++if qx m rs (cd m n) then [(cd m n).bQ] else []:=by
 simp only[jV]
 rw[List.take_succ_eq_append_getElem h,List.filter_append,List.map_append,jN h]
 congr 1
 simp only[List.filter_cons,List.filter_nil]
 cases qx m rs (cd m n) <;>rfl
theorem aku(m:cn)(rs:List (bA 6 Int))(n:Nat):(jV m rs n).length≤m.given.length:=by
 simp only[jV,List.length_map]
 exact Nat.le_trans (List.length_filter_le _ _) (by rw[List.length_take];omega)
theorem akt(m:cn)(rs:List (bA 6 Int)):jV m rs m.given.length=(jb m rs rs.length).map (·.bQ):=by
 simp only[jV,List.take_length];rfl
theorem PR(p:Nat→Bool)(n:Nat):(List.range (n+1)).all p=((List.range n).all p&&p n):=by
 rw[List.range_succ,List.all_append];simp
theorem Od(m:cn)(rs:List (bA 6 Int)):aw Tryz.prog 130 [enc m,enc rs] (.tuple [enc (ft m rs).1,enc (ft m rs).2]):=by
 refine aw.bp Tryz.func130 Q7 S4 Ve (Nat.le_of_ble_eq_true rfl) (fun hwf W0 D0 E1 =>?_)
 simp only[AM,K3,a6,Nat.zero_add]
 refine .ao (by decide +kernel) fun K hK =>?_
 simp only[E0,U,simprocAttr]
 try simp only[dG,U,simprocAttr]
 refine .done (hK _ ?_);clear hK K
 refine J.seq ?_
 refine J.seq ?_
 refine .bD (by decide +kernel) fun K hK =>?_
 simp only[E4,U,simprocAttr]
 try simp only[c4,ea,U,simprocAttr]
 refine .flat _ (uP m) rfl ?_
 generalize hm:eI m=bm
 cases bm
 ·try simp only[U,simprocAttr]
  refine .done (hK _ ?_);clear hK K;try simp only[al]
  refine J.bI ?_
  simp only[aj,U,simprocAttr]
  refine ⟨fun h =>?_,fun h =>?_⟩
  ·refine .ao (by decide +kernel) fun K hK =>?_
   simp only[Ff,U,simprocAttr]
   refine .done (hK _ ?_);clear hK K
   refine J.ret ?_
   simp only[al,U,simprocAttr]
   simp[ft,hm,pS]
  ·cases h
 try simp only[U,simprocAttr]
 refine .done (hK _ ?_);clear hK K
 refine J.bI ?_
 simp only[aj,U,simprocAttr]
 refine ⟨fun h =>?_,fun h =>?_⟩
 ·cases h
 refine J.skip ?_;try simp only[al,simprocAttr]
 refine J.seq ?_
 refine .ao (by decide +kernel) fun K hK =>?_
 simp only[Fh,U,simprocAttr]
 try simp only[bx,U,simprocAttr]
 refine .done (hK _ ?_);clear hK K
 refine J.bI ?_
 simp only[aj,U,simprocAttr]
 refine ⟨fun h =>?_,fun h =>?_⟩
 ·refine .ao (by decide +kernel) fun K hK =>?_
  simp only[Fi,U,simprocAttr]
  refine .done (hK _ ?_);clear hK K
  refine J.ret ?_
  simp only[al,U,simprocAttr]
  have:¬ rs.length≤60:=by simp at h;omega
  simp[ft,hm,this,pS]
 have hrl:rs.length≤60:=by simp at h;omega
 have hlen:=Kd hm
 refine J.skip ?_;try simp only[al,simprocAttr]
 refine J.seq ?_
 refine .ao (by decide +kernel) fun K hK =>?_
 simp only[Fj,U,simprocAttr]
 refine .done (hK _ ?_);clear hK K
 refine J.block (J.loop (fun i:Nat=>ar [(1,enc rs),(2,.ptr 2 []),(6,.int .i64 i)] [(2,.box (enc m))]) (fun i=>i≤rs.length∧∀ j,j<i→kj (eA rs j)=true) (fun i=>rs.length-i) 0 ⟨by omega,fun j h=>by omega⟩ ?_ (fun i hi =>?_))
 ·refine az.bR ?_ ?_ ?_ ?_ <;>simp[aT,bN,bM,bg,aq,aU,cw,I.only,ah.only,br]
 refine J.seq (J.seq ?_)
 refine .bD (by decide +kernel) fun K hK =>?_
 simp only[Fk,U,simprocAttr]
 try simp only[bx,U,simprocAttr]
 refine .done (hK _ ?_);clear hK K;try simp only[al]
 refine J.bI ?_
 simp only[aj,U,simprocAttr]
 refine ⟨fun h =>?_,fun h =>?_⟩
 ·have hlt:i<rs.length:=by simp at h;omega
  refine J.skip ?_;try simp only[al,simprocAttr]
  refine J.seq (J.block ?_)
  refine .ao (by decide +kernel) fun K hK =>?_
  simp only[Fl,U,simprocAttr]
  try simp only[c4,ea,xI hlt,U,simprocAttr]
  refine .flat _ (zl (eA rs i)) rfl ?_
  generalize hr:kj (eA rs i)=aH
  cases aH
  ·try simp only[U,simprocAttr]
   refine .done (hK _ ?_);clear hK K
   refine J.bI ?_
   simp only[aj,U,simprocAttr]
   refine ⟨fun h =>?_,fun h =>?_⟩
   ·refine .ao (by decide +kernel) fun K hK =>?_
    simp only[Fm,U,simprocAttr]
    refine .done (hK _ ?_);clear hK K
    refine J.ret ?_
    simp only[bP,al,U,simprocAttr]
    have hok:q0 rs=false:=j6 i hlt hr
    simp[ft,hm,hrl,hok,pS]
   ·cases h
  try simp only[U,simprocAttr]
  refine .done (hK _ ?_);clear hK K
  refine J.bI ?_
  simp only[aj,U,simprocAttr]
  refine ⟨fun h =>?_,fun h =>?_⟩
  ·cases h
  refine J.skip ?_;try simp only[al,bP,simprocAttr]
  refine .bD (by decide +kernel) fun K hK =>?_
  simp only[Fo,U,simprocAttr]
  refine .done (hK _ ?_);clear hK K;try simp only[al]
  refine ⟨i+1,⟨by omega,fun j hj =>?_⟩,by omega,?_⟩
  ·rcases Nat.lt_or_ge j i with h1 | h1
   ·exact hi.2 j h1
   ·have:j=i:=by omega
    subst this;exact hr
  ·rw[cG _ (by omega) (by omega)]
   refine az.bR ?_ ?_ ?_ ?_ <;>simp[aT,bN,bM,bg,aq,aU,cw,I.only,ah.only,br]
 have hge:i=rs.length:=by simp at h;omega
 subst hge
 have hok:q0 rs=true:=lq hi.2
 refine J.exit ?_;try simp only[al,bP,simprocAttr]
 refine .ao (by decide +kernel) fun K hK =>?_
 simp only[E5,U,simprocAttr]
 refine .done (hK _ ?_);clear hK K
 refine J.seq ?_
 refine .ao (by decide +kernel) fun K hK =>?_
 simp only[E6,U,simprocAttr]
 refine .done (hK _ ?_);clear hK K
 refine J.block (J.loop (fun n:Nat=>ar [(1,enc rs),(2,.ptr 2 []),(7,.own 7 (jV m rs n).length),(8,.int .i64 n)] [(7,.bW 3 1 ((jV m rs n).map enc)),(2,.box (enc m))]) (fun n=>n≤m.given.length) (fun n=>m.given.length-n) 0 (by omega) ?_ (fun n hn =>?_))
 ·refine az.ln 7 7 3 1 1 ?_ ?_ ?_
  ·try simp only[U,simprocAttr]
  ·try simp only[U,simprocAttr]
  ·simp only[akw,List.map_nil,List.length_nil]
   refine az.bR ?_ ?_ ?_ ?_ <;>simp[aT,bN,bM,bg,aq,aU,cw,I.only,I.bV,ah.only,br]
 refine J.seq (J.seq ?_)
 refine .bD (by decide +kernel) fun K hK =>?_
 simp only[E7,U,simprocAttr]
 try simp only[c4,bx,U,simprocAttr]
 refine .done (hK _ ?_);clear hK K;try simp only[al]
 refine J.bI ?_
 simp only[aj,U,simprocAttr]
 refine ⟨fun h =>?_,fun h =>?_⟩
 ·have hlt:n<m.given.length:=by simp at h;omega
  refine J.skip ?_;try simp only[al,simprocAttr]
  refine J.seq (J.block ?_)
  refine .ao (by decide +kernel) fun K hK =>?_
  simp only[E8,U,simprocAttr]
  refine .done (hK _ ?_);clear hK K
  refine J.seq ?_
  refine .ao (by decide +kernel) fun K hK =>?_
  simp only[E9,U,simprocAttr]
  refine .done (hK _ ?_);clear hK K
  refine J.block (J.loop (fun j:Nat=>ar [(1,enc rs),(2,.ptr 2 []),(7,.own 7 (jV m rs n).length),(8,.int .i64 n),(9,.bool ((List.range j).all (ni m rs (cd m n)))),(10,.int .i64 j)] [(7,.bW 3 1 ((jV m rs n).map enc)),(2,.box (enc m))]) (fun j=>j≤rs.length) (fun j=>rs.length-j) 0 (by omega) ?_ (fun j hj =>?_))
  ·refine az.bR ?_ ?_ ?_ ?_ <;>simp[aT,bN,bM,bg,aq,aU,cw,I.only,ah.only,ec,br]
  refine J.seq (J.seq ?_)
  refine .bD (by decide +kernel) fun K hK =>?_
  simp only[Fa,U,simprocAttr]
  try simp only[bx,U,simprocAttr]
  refine .done (hK _ ?_);clear hK K;try simp only[al]
  refine J.bI ?_
  simp only[aj,U,simprocAttr]
  refine ⟨fun h =>?_,fun h =>?_⟩
  ·have hjl:j<rs.length:=by simp at h;omega
   refine J.skip ?_;try simp only[al,simprocAttr]
   refine J.seq (J.block ?_)
   have hsucc:=PR (ni m rs (cd m n)) j
   generalize hb:(List.range j).all (ni m rs (cd m n))=b at hsucc
   refine .bD (by decide +kernel) fun K hK =>?_
   simp only[Fb,U,simprocAttr]
   cases b
   ·try simp only[U,simprocAttr]
    refine .done (hK _ ?_);clear hK K;try simp only[al,bP]
    refine .bD (by decide +kernel) fun K hK =>?_
    simp only[wz,U,simprocAttr]
    refine .done (hK _ ?_);clear hK K;try simp only[al]
    refine ⟨j+1,by omega,by omega,?_⟩
    rw[hsucc,cG _ (by omega) (by omega),Bool.false_and]
    refine az.bR ?_ ?_ ?_ ?_ <;>simp[aT,bN,bM,bg,aq,aU,cw,I.only,ah.only,ec,br]
   ·try simp only[c4,nF hlt,xI hjl,ea,U,simprocAttr]
    refine .flat _ (N3 m.fA (cd m n).mark (eA rs j) (by rw[←jN hlt];exact Ke hm _ (List.getElem_mem hlt))) rfl ?_
    try simp only[c4,U,simprocAttr]
    refine .done (hK _ ?_);clear hK K;try simp only[al,bP]
    refine .bD (by decide +kernel) fun K hK =>?_
    simp only[wz,U,simprocAttr]
    refine .done (hK _ ?_);clear hK K;try simp only[al]
    refine ⟨j+1,by omega,by omega,?_⟩
    have hd:decide (kF m.fA (cd m n).mark (eA rs j)≤m.gb)=ni m rs (cd m n) j:=rfl
    rw[hsucc,cG _ (by omega) (by omega),Bool.true_and,hd]
    refine az.bR ?_ ?_ ?_ ?_ <;>simp[aT,bN,bM,bg,aq,aU,cw,I.only,ah.only,ec,br]
  have hje:j=rs.length:=by simp at h;omega
  subst hje
  refine J.exit ?_;try simp only[al,bP,simprocAttr]
  have hdue:(List.range rs.length).all (ni m rs (cd m n))=qx m rs (cd m n):=rfl
  have hol:=aku m rs n
  have hsucc:=akv rs hlt
  rw[hdue]
  generalize hb:qx m rs (cd m n)=b at hsucc
  refine .ao (by decide +kernel) fun K hK =>?_
  simp only[Fc,U,simprocAttr]
  refine .done (hK _ ?_);clear hK K
  cases b
  ·refine J.bI ?_
   simp only[aj,U,simprocAttr]
   refine ⟨fun h =>?_,fun h =>?_⟩
   ·cases h
   refine J.skip ?_;try simp only[al,bP,simprocAttr]
   refine .bD (by decide +kernel) fun K hK =>?_
   simp only[wA,U,simprocAttr]
   refine .done (hK _ ?_);clear hK K;try simp only[al]
   refine ⟨n+1,by omega,by omega,?_⟩
   rw[hsucc,cG _ (by omega) (by omega)]
   simp only[Bool.false_eq_true,if_false,List.append_nil]
   refine az.bR ?_ ?_ ?_ ?_ <;>simp[aT,bN,bM,bg,aq,aU,cw,I.only,ah.only,ec,br]
  ·refine J.bI ?_
   simp only[aj,U,simprocAttr]
   refine ⟨fun h =>?_,fun h =>?_⟩
   ·refine .bD (by decide +kernel) fun K hK =>?_
    simp only[Fe,U,simprocAttr]
    try simp only[c4,nF hlt,U,simprocAttr]
    rw[jF 3 1 8 7 rfl rfl (by simp) (by simp[maxLen];omega) (by simp;omega)]
    try simp only[U,simprocAttr]
    refine .done (hK _ ?_);clear hK K;try simp only[al,bP]
    refine .bD (by decide +kernel) fun K hK =>?_
    simp only[wA,U,simprocAttr]
    refine .done (hK _ ?_);clear hK K;try simp only[al]
    refine ⟨n+1,by omega,by omega,?_⟩
    rw[hsucc,cG _ (by omega) (by omega)]
    simp only[if_true]
    refine az.bR ?_ ?_ ?_ ?_ <;>simp[aT,bN,bM,bg,aq,aU,cw,I.only,I.bV,ah.only,ec,iB,br,iw]
   ·cases h
 have hge:n=m.given.length:=by simp at h;omega
 subst hge
 refine J.exit ?_;try simp only[al,bP,simprocAttr]
 refine .ao (by decide +kernel) fun K hK =>?_
 simp only[Fg,U,simprocAttr]
 refine .done (hK _ ?_);clear hK K
 refine J.ret ?_
 simp only[U,simprocAttr]
 try simp only[ea,U,simprocAttr]
 simp[ft,hm,hrl,hok,akt]
theorem xp(l:List au)(day known:Int)(no:Int):cC (jW l day known).gE no=cC (db l day known) no:=by
 obtain ⟨k1,k2,k3⟩:=KC r6 r7 l (fw l day known)
 exact (xn k1 k2 no).symm
theorem yp(l:List au)(day known:Int):(db l day known).Perm (jW l day known).gE:=(KC r6 r7 l (fw l day known)).1
theorem Pr(l:List au)(no known:Int):aw Tryz.prog 92 [enc l,enc no,enc known] (enc (eL l [eS no 9999] [known])):=by
 have hF:=zL l
 refine aw.bp Tryz.func92 Sz Uy WG (Nat.le_of_ble_eq_true rfl) (fun hwf W0 D0 E1 =>?_)
 simp only[Cj,Mv,a6,Nat.zero_add,Nat.reduceAdd]
 clear hwf
 simp only[eL]
 rcases q1:dJ l
 ·rw[q1,if_neg (by decide)] at hF
  have R:=And.intro @aL @U
  repeat' ((first
   |(with_reducible refine .guard (fun hb =>?_) (fun hb =>?_) <;>try simp only[hb])
   |refine J.aI (by decide +kernel) rfl fun K hK =>?_
   |refine .flat _ (hF) rfl ?_
   |(refine .aD [0,1,2,6,9,12,15] hK ?_;clear hK K)
   |(with_reducible refine .done (hK _ ?_);clear hK K)
   |refine J.of rfl ?_
   |(with_reducible refine aj.aH (fun h =>?_) (fun h =>?_) <;>try simp only[h])) <;>try simp only[aJ,R,Nat.reduceEqDiff,reduceIte,Int.reduceBNe,Nat.reduceBEq])
  all_goals clear R
 ·rw[q1,if_pos rfl] at hF
  have e1:([eS no 9999].all fun n=>b7 1 (n.g 1) (n.g 0))=b7 1 9999 no:=by simp[eS,bA.g]
  have e2:([known].any fun d => !b7 0 100000 d) = !b7 0 100000 known:=by simp
  rw[e1,e2]
  rcases q2:b7 1 9999 no <;>rcases q3:b7 0 100000 known
  all_goals
   have R:=And.intro @q2 (And.intro @q3 (And.intro @aL @U))
   repeat' ((first
    |(with_reducible refine .guard (fun hb =>?_) (fun hb =>?_) <;>try simp only[hb])
    |refine J.aI (by decide +kernel) rfl fun K hK =>?_
    |refine .flat _ (hF) rfl ?_
    |refine .flat _ (nY _ _ _) rfl ?_
    |refine .flat _ (uR _) rfl ?_
    |(refine .aD [0,1,2,6,9,12,15] hK ?_;clear hK K)
    |(with_reducible refine .done (hK _ ?_);clear hK K)
    |refine J.of rfl ?_
    |(with_reducible refine aj.aH (fun h =>?_) (fun h =>?_) <;>try simp only[h])) <;>try simp only[aJ,R,Nat.reduceEqDiff,reduceIte,Int.reduceBNe,Nat.reduceBEq])
   all_goals clear R
def vg:aA:=⟨0,0,0,0,0,0,0,false,[]⟩
def ky:I:=.agg [.int .i64 0,.int .i64 0,.int .i64 0,.int .i64 0,.int .i64 0,.int .i64 0,.int .i64 0,.bool false,.nils 6]
theorem nk:I.agg [.int .i64 0,.int .i64 0,.int .i64 0,.int .i64 0,.int .i64 0,.int .i64 0,.int .i64 0,.bool false,.nils 6]=ky:=rfl
theorem oZ:(∀ (A:ae) n w rest,dm A (some 9) n [] w ky rest (some ky)=ay rest (A.aM n (.box ky)))∧(∀ (A:ae) n w (b:aA) rest,dm A (some 9) n [] w (enc b) rest (some ky)=ay rest (A.aM n (.box (enc b)))) ∧
  (∀ aC A,bd aC A ky=some (enc vg))∧b5 (some 9) ky=true∧((eB [.int .i64 0,.int .i64 0,.int .i64 0,.int .i64 0,.int .i64 0,.int .i64 0,.int .i64 0,.bool false,.nils 6] []).map .agg=some ky)∧(ky.cq=true) :=
 ⟨fun A n w rest=>by rw[ej (s:=some 9) (v:=ky) (old:=ky) rfl rfl rfl,gZ],fun A n w b rest=>oT,fun aC A=>by simp[ky,bd,bZ];rfl,rfl,rfl,rfl⟩
def m6(l:List au)(no known:Int):aA×Int:=if eL l [eS no 9999] [known]=0 then (match cC (db l 100000 known) no with
 |none=>(vg,42)
 |some b=>(b,0)) else (vg,eL l [eS no 9999] [known])
theorem Pd(l:List au)(no known:Int):aw Tryz.prog 46 [enc l,enc no,enc known] (.tuple [enc (m6 l no known).1,enc (m6 l no known).2]):=by
 have hC:=Pr l no known
 refine aw.bp Tryz.func46 R7 T8 Wf (Nat.le_of_ble_eq_true rfl) (fun hwf W0 D0 E1 =>?_)
 simp only[BR,L5,a6,Nat.zero_add,Nat.reduceAdd]
 clear hwf
 simp only[m6]
 generalize hc:eL l [eS no 9999] [known]=e at hC ⊢
 by_cases he:e=0
 ·have hn:=mE he
  subst he
  have hok:=nc hc
  have hF:=rY l known 100000 hok
  have hg:=xp l 100000 known no
  rw[←hg]
  generalize jW l 100000 known=p at hF hg ⊢
  have hI:=lf p.gE no
  rcases lL p.gE no with ⟨g1,e1⟩ | ⟨k,hk,g1,g2,e1⟩
  ·rw[e1] at hI
   rw[g1]
   have hg2:decide ((-1:Int)<0)=true:=rfl
   have R:=And.intro @hn (And.intro @hg2 (And.intro @nk (And.intro @oZ (And.intro @rE (And.intro @pX (And.intro @lG (And.intro @kQ (And.intro @cD (And.intro @aL @U)))))))))
   repeat' ((first
    |(with_reducible refine .guard (fun hb =>?_) (fun hb =>?_) <;>try simp only[hb])
    |refine J.aI (by decide +kernel) rfl fun K hK =>?_
    |refine .flat _ (hC) rfl ?_
    |refine .lead _ (hF) ?_
    |refine .flat _ (hI) rfl ?_
    |(refine .aD [0,1,2,6,7,8,9,10,16,27] hK ?_;clear hK K)
    |(with_reducible refine .done (hK _ ?_);clear hK K)
    |refine J.of rfl ?_
    |(with_reducible refine aj.aH (fun h =>?_) (fun h =>?_) <;>try simp only[h])) <;>try simp only[aJ,R,Nat.reduceEqDiff,reduceIte,Nat.reduceBEq])
   all_goals clear R
  ·rw[e1] at hI
   rw[g1]
   have hg3:decide ((k:Int)<0)=false:=by simp
   have hek:=fun A=>ew (A:=A) 9 hk rfl
   have R:=And.intro @hn (And.intro @hg3 (And.intro @hek (And.intro @nk (And.intro @oZ (And.intro @rE (And.intro @pX (And.intro @lG (And.intro @kQ (And.intro @cD (And.intro @aL @U))))))))))
   repeat' ((first
    |(with_reducible refine .guard (fun hb =>?_) (fun hb =>?_) <;>try simp only[hb])
    |refine J.aI (by decide +kernel) rfl fun K hK =>?_
    |refine .flat _ (hC) rfl ?_
    |refine .lead _ (hF) ?_
    |refine .flat _ (hI) rfl ?_
    |(refine .aD [0,1,2,6,7,8,9,10,16,27] hK ?_;clear hK K)
    |(with_reducible refine .done (hK _ ?_);clear hK K)
    |refine J.of rfl ?_
    |(with_reducible refine aj.aH (fun h =>?_) (fun h =>?_) <;>try simp only[h])) <;>try simp only[aJ,R,Nat.reduceEqDiff,reduceIte,Nat.reduceBEq])
   all_goals clear R
 ·have hn:=mF he
  have R:=And.intro @hn (And.intro @he (And.intro @nk (And.intro @oZ (And.intro @aL @U))))
  repeat' ((first
   |(with_reducible refine .guard (fun hb =>?_) (fun hb =>?_) <;>try simp only[hb])
   |refine J.aI (by decide +kernel) rfl fun K hK =>?_
   |refine .flat _ (hC) rfl ?_
   |(refine .aD [0,1,2,6,7,8,9,10,16,27] hK ?_;clear hK K)
   |(with_reducible refine .done (hK _ ?_);clear hK K)
   |refine J.of rfl ?_
   |(with_reducible refine aj.aH (fun h =>?_) (fun h =>?_) <;>try simp only[h])) <;>try simp only[aJ,R,Nat.reduceEqDiff,reduceIte,Nat.reduceBEq])
  all_goals clear R
theorem rX(m:cn)(b:aA):aw Tryz.prog 71 [enc m,enc b] (enc (ft m b.bu).1):=by
 refine aw.bp Tryz.func71 Sh Ui Wp (Nat.le_of_ble_eq_true rfl) (fun hwf W0 D0 E1 =>?_)
 simp only[B3,Mf,a6,Nat.zero_add]
 clear hwf
 have hC:=Od m b.bu
 have R:=And.intro @eP (And.intro @fO (And.intro @cD (And.intro @aL @U)))
 repeat' ((first
  |(with_reducible refine .guard (fun hb =>?_) (fun hb =>?_) <;>try simp only[hb])
  |refine J.aI (by decide +kernel) rfl fun K hK =>?_
  |refine .lead _ (hC) ?_
  |(refine .aD [0,1,2,3,4,5] hK ?_;clear hK K)
  |(with_reducible refine .done (hK _ ?_);clear hK K)
  |refine J.of rfl ?_
  |(with_reducible refine aj.aH (fun h =>?_) (fun h =>?_) <;>try simp only[h])) <;>try simp only[aJ,R,Nat.reduceEqDiff,reduceIte,Nat.reduceBEq])
 all_goals clear R
theorem Qd(m:cn)(l:List au)(no known:Int):iu m l no known=if eI m then (if (m6 l no known).2=0 then ((ft m (m6 l no known).1.bu).1,0) else ([],(m6 l no known).2)) else ([],13):=by
 simp only[iu,m6]
 split
 ·by_cases h:eL l [eS no 9999] [known]=0
  ·simp only[h,if_true]
   cases cC (db l 100000 known) no <;>simp
  ·simp only[h,if_false]
 ·rfl
theorem zw(m:cn)(l:List au)(x:iN):aw Tryz.prog 15 [enc m,enc l,enc x] (.tuple [enc (iu m l (x.g 0) (x.g 1)).1,enc (iu m l (x.g 0) (x.g 1)).2]):=by
 have hM:=uP m
 have hF:=Pd l (x.g 0) (x.g 1)
 refine aw.bp Tryz.func15 Rk Th Vr (Nat.le_of_ble_eq_true rfl) (fun hwf W0 D0 E1 =>?_)
 simp only[AZ,Lg,a6,Nat.zero_add,Nat.reduceAdd]
 clear hwf
 rw[Qd]
 rcases q1:eI m
 ·rw[q1,if_neg (by decide)] at hM
  have R:=And.intro @eP (And.intro @cD (And.intro @aL @U))
  repeat' ((first
   |(with_reducible refine .guard (fun hb =>?_) (fun hb =>?_) <;>try simp only[hb])
   |refine J.aI (by decide +kernel) rfl fun K hK =>?_
   |refine .flat _ (hM) rfl ?_
   |(refine .aD [0,1,2,3,5,6,7,8,9,12,23] hK ?_;clear hK K)
   |(with_reducible refine .done (hK _ ?_);clear hK K)
   |refine J.of rfl ?_
   |(with_reducible refine aj.aH (fun h =>?_) (fun h =>?_) <;>try simp only[h])) <;>try simp only[aJ,R,Nat.reduceEqDiff,reduceIte,Int.reduceBNe,Nat.reduceBEq])
  all_goals clear R
  all_goals rfl
 rw[q1,if_pos rfl] at hM
 generalize m6 l (x.g 0) (x.g 1)=r at hF ⊢
 obtain ⟨b,e⟩:=r
 simp only at hF ⊢
 by_cases he:e=0
 ·have hn:=mE he
  subst he
  have hB:=rX m b
  have R:=And.intro @hn (And.intro @nk (And.intro @oZ (And.intro @eP (And.intro @nG (And.intro @cD (And.intro @aL @U))))))
  repeat' ((first
   |(with_reducible refine .guard (fun hb =>?_) (fun hb =>?_) <;>try simp only[hb])
   |refine J.aI (by decide +kernel) rfl fun K hK =>?_
   |refine .flat _ (hM) rfl ?_
   |refine .lead _ (hF) ?_
   |refine .lead _ (hB) ?_
   |(refine .aD [0,1,2,3,5,6,7,8,9,12,23] hK ?_;clear hK K)
   |(with_reducible refine .done (hK _ ?_);clear hK K)
   |refine J.of rfl ?_
   |(with_reducible refine aj.aH (fun h =>?_) (fun h =>?_) <;>try simp only[h])) <;>try simp only[aJ,R,Nat.reduceEqDiff,reduceIte,Nat.reduceBEq])
  all_goals clear R
 ·have hn:=mF he
  have R:=And.intro @hn (And.intro @he (And.intro @nk (And.intro @oZ (And.intro @eP (And.intro @nG (And.intro @cD (And.intro @aL @U)))))))
  repeat' ((first
   |(with_reducible refine .guard (fun hb =>?_) (fun hb =>?_) <;>try simp only[hb])
   |refine J.aI (by decide +kernel) rfl fun K hK =>?_
   |refine .flat _ (hM) rfl ?_
   |refine .lead _ (hF) ?_
   |(refine .aD [0,1,2,3,5,6,7,8,9,12,23] hK ?_;clear hK K)
   |(with_reducible refine .done (hK _ ?_);clear hK K)
   |refine J.of rfl ?_
   |(with_reducible refine aj.aH (fun h =>?_) (fun h =>?_) <;>try simp only[h])) <;>try simp only[aJ,R,Nat.reduceEqDiff,reduceIte,Int.reduceBNe,Nat.reduceBEq])
  all_goals clear R
  all_goals rfl
theorem Pl(l:List au)(k:Nat)(hl:l.length≤60):aw Tryz.prog 80 [enc l,enc (k:Int)] (enc (dz l k)):=by
 refine aw.bp Tryz.func80 Sq Uq Wx (Nat.le_of_ble_eq_true rfl) (fun hwf W0 D0 E1 =>?_)
 simp only[Cb,Mn,a6,Nat.zero_add]
 clear hwf
 have R:=And.intro @bx (And.intro @aL @U)
 repeat' ((first
  |(with_reducible refine .guard (fun hb =>?_) (fun hb =>?_) <;>try simp only[hb])
  |refine J.aI (by decide +kernel) rfl fun K hK =>?_
  |(refine .aD [0,1,4,5,6,10,15] hK ?_;clear hK K)
  |(with_reducible refine .done (hK _ ?_);clear hK K)
  |refine J.of rfl ?_
  |(with_reducible refine aj.aH (fun h =>?_) (fun h =>?_) <;>try simp only[h])) <;>try simp only[aJ,R,reduceIte,Nat.reduceBEq])
 all_goals clear R
 refine J.loop (fun i:Nat=>ar [(0,enc l),(1,.int .i64 k),(5,.own 905 (dz (l.take i) k).length),(6,.int .i64 i)] [(905,.bW 68 17 ((dz (l.take i) k).map enc))]) (fun i=>i≤l.length) (fun i=>l.length-i) 0 (Nat.zero_le _) ?_ (fun i hi =>?_)
 ·refine az.ln 5 905 68 17 17 rfl rfl ?_
  simp only[List.take_zero,dz,List.take_nil,List.drop_nil,List.append_nil,List.map_nil,List.length_nil]
  refine az.bR ?_ ?_ ?_ ?_ <;>simp[aT,bN,bM,bg,aq,aU,cw,I.only,I.bV,ah.only,br]
 have hdl:(dz (l.take i) k).length≤60:=Nat.le_trans (CV _ _).length_le (by rw[List.length_take];omega)
 by_cases hlt:i<l.length
 ·have hc:=fX hlt
  have he:=fun A=>ic (A:=A) hlt
  have hw:=fk (i:=i) (by omega)
  have hs:dz (l.take (i+1)) k=if i=k then dz (l.take i) k else dz (l.take i) k++[ab l i]:=by
   have e:l.take (i+1)=l.take i++[ab l i]:=by rw[List.take_succ_eq_append_getElem hlt,lD hlt]
   have htl:(l.take i).length=i:=by rw[List.length_take];omega
   rw[e]
   simp only[dz]
   by_cases h1:i=k
   ·subst h1
    rw[if_pos rfl,List.take_append_of_le_length (by omega),List.drop_eq_nil_of_le (by simp;omega),List.drop_eq_nil_of_le (by omega)]
   ·rw[if_neg h1]
    by_cases h2:i<k
    ·have a1:(l.take i++[ab l i]).take k=l.take i++[ab l i]:=List.take_of_length_le (by simp;omega)
     have a2:(l.take i++[ab l i]).drop (k+1)=[]:=List.drop_eq_nil_of_le (by simp;omega)
     have a3:(l.take i).take k=l.take i:=List.take_of_length_le (by omega)
     have a4:(l.take i).drop (k+1)=[]:=List.drop_eq_nil_of_le (by omega)
     rw[a1,a2,a3,a4];simp
    ·rw[List.take_append_of_le_length (by omega),List.drop_append_of_le_length (by omega),List.append_assoc]
  generalize dz (l.take i) k=xs at hdl hs ⊢
  have happ:=fun (A:ae) d rest=>jF (α:=au) (A:=A) (d:=d) 68 17 136 905 (l:=xs.length) (es:=xs) (ys:=[ab l i]) (rest:=rest) rfl rfl (by simp) (by simp[maxLen];omega) (by simp;omega)
  have hbs:=m9 17 (ab l i) rfl
  by_cases h1:i=k
  ·have hn:((i:Int) != (k:Int))=false:=by simp[h1]
   rw[if_pos h1] at hs
   have R:=And.intro @hc (And.intro @he (And.intro @hw (And.intro @hn (And.intro @bx (And.intro @aL @U)))))
   repeat' ((first
    |(with_reducible refine .guard (fun hb =>?_) (fun hb =>?_) <;>try simp only[hb])
    |refine J.aI (by decide +kernel) rfl fun K hK =>?_
    |(refine .aD [0,1,4,5,6,10,15] hK ?_;clear hK K)
    |(with_reducible refine .done (hK _ ?_);clear hK K)
    |refine J.of rfl ?_
    |(with_reducible refine aj.aH (fun h =>?_) (fun h =>?_) <;>try simp only[h])) <;>try simp only[aJ,R,Nat.reduceEqDiff,reduceIte,Nat.reduceBEq])
   all_goals clear R
   refine ⟨i+1,by omega,by omega,?_⟩
   simp only[hs]
   refine az.bR ?_ ?_ ?_ ?_ <;>simp[aT,bN,bM,bg,aq,aU,cw,I.only,ah.only,ec,br]
  ·have hn:((i:Int) != (k:Int))=true:=by simp;omega
   rw[if_neg h1] at hs
   have R:=And.intro @hc (And.intro @he (And.intro @hw (And.intro @hn (And.intro @happ (And.intro @hbs (And.intro @bx (And.intro @aL @U)))))))
   repeat' ((first
    |(with_reducible refine .guard (fun hb =>?_) (fun hb =>?_) <;>try simp only[hb])
    |refine J.aI (by decide +kernel) rfl fun K hK =>?_
    |(refine .aD [0,1,4,5,6,10,15] hK ?_;clear hK K)
    |(with_reducible refine .done (hK _ ?_);clear hK K)
    |refine J.of rfl ?_
    |(with_reducible refine aj.aH (fun h =>?_) (fun h =>?_) <;>try simp only[h])) <;>try simp only[aJ,R,Nat.reduceEqDiff,reduceIte,Nat.reduceBEq])
   all_goals clear R
   refine ⟨i+1,by omega,by omega,?_⟩
   simp only[hs]
   refine az.bR ?_ ?_ ?_ ?_ <;>simp[aT,bN,bM,bg,aq,aU,cw,I.only,I.bV,ah.only,ec,iB,br]
 ·have hc:=gh hlt
  have hge:i=l.length:=by omega
  subst hge
  rw[List.take_length]
  have hfo:=nq (k:=(dz l k).length) (T:=68) (es:=dz l k) 17 rfl rfl
  have R:=And.intro @hc (And.intro @hfo (And.intro @bx (And.intro @aL @U)))
  repeat' ((first
   |(with_reducible refine .guard (fun hb =>?_) (fun hb =>?_) <;>try simp only[hb])
   |refine J.aI (by decide +kernel) rfl fun K hK =>?_
   |(refine .aD [0,1,4,5,6,10,15] hK ?_;clear hK K)
   |(with_reducible refine .done (hK _ ?_);clear hK K)
   |refine J.of rfl ?_
   |(with_reducible refine aj.aH (fun h =>?_) (fun h =>?_) <;>try simp only[h])) <;>try simp only[aJ,R,Nat.reduceEqDiff,reduceIte,Nat.reduceBEq])
  all_goals clear R
theorem aj0{x:au}(h:gA x=true):0≤x.bQ:=by
 simp only[gA,Bool.and_eq_true,decide_eq_true_eq] at h
 obtain ⟨h1,h2,_⟩:=h
 by_cases e:x.kind=1∨x.kind=3∨x.kind=5
 ·simp only[jM,b7] at h1
  rcases e with e | e | e <;>simp[e] at h1 <;>omega
 ·have:x.bQ=(kC x).bQ:=by rw[←h2]
  rw[this];simp[kC,e]
theorem P4{bs bs':List aA}{x:au}(hx:0≤x.bQ)(h:c8 fo bs x=some bs')(hb:∀ b∈bs,0≤b.fg):∀ b∈bs',0≤b.fg:=by
 simp only[c8] at h
 split at h
 ·split at h
  ·simp only[Option.some.injEq] at h
   subst h
   intro b hm
   simp only[fo,List.mem_append,List.mem_singleton] at hm
   rcases hm with hm | rfl
   ·exact hb b hm
   ·exact hx
  ·cases h
 ·split at h
  ·cases h
  ·rename_i b0 hb0
   simp only[Option.map_eq_some_iff] at h
   obtain ⟨b',hb',rfl⟩:=h
   intro b hm
   simp only[l4,List.mem_map] at hm
   obtain ⟨c,hc,rfl⟩:=hm
   split
   ·have h0:=hb b0 (xq hb0).1
    simp only[fy] at hb'
    repeat' split at hb'
    all_goals first
     |(cases hb';done)
     |(simp only[Option.some.injEq] at hb';subst hb';exact h0)
   ·exact hb c hc
theorem KA{l:List au}(hok:dJ l=true){o:List Nat}(hm:∀ i∈o,i<l.length):∀ i,i≤o.length→∀ b∈(eZ l o i).1,0≤b.fg
 |0,_=>by simp[eZ]
 |i+1,h=>by
  have ih:=KA hok hm i (by omega)
  rw[yn (by omega)]
  simp only[gP]
  have hlt:i<o.length:=by omega
  have hj:o.getD i 0<l.length:=hm _ (by rw[List.getD_eq_getElem?_getD,List.getElem?_eq_getElem hlt];exact List.getElem_mem hlt)
  split
  ·rename_i bs hb
   exact P4 (aj0 (qZ hok hj)) hb ih
  ·exact ih
theorem ah0{l:List au}(hok:dJ l=true)(day known:Int):∀ b∈db l day known,0≤b.fg:=by
 have:=KA hok (o:=fw l day known) (fun i hi=>sy (yk hi)) _ (Nat.le_refl _)
 rwa [ym] at this
theorem YA{bs cs:List aA}(hp:bs.Perm cs)(hr:jo (cs.map (·.no)))(p:aA→Bool):dX ((bs.filter p).map (·.no))=(cs.filter p).map (·.no):=by
 refine Np (Nk _) ?_ ((Nj _).trans ((hp.filter p).map _))
 have h2:((cs.filter p).map (·.no)).Sublist (cs.map (·.no)):=(List.filter_sublist).map _
 exact (hr.sublist h2).imp fun {a b} h=>by omega
def rM(m:cn)(b:aA):Bool:=decide (0<b.fg) && !decide (b.fg∈(ft m b.bu).1)
def j5(m:cn)(cs:List aA)(i:Nat):List Int:=((cs.take i).filter (rM m)).map (·.no)
theorem amh{m:cn}{cs:List aA}{i:Nat}(h:i<cs.length):j5 m cs (i+1)=j5 m cs i++if rM m cs[i] then [(cs[i]).no] else []:=by
 simp only[j5,List.take_succ_eq_append_getElem h,List.filter_append,List.map_append,List.filter_cons,List.filter_nil]
 congr 1
 split <;>rfl
theorem amg(m:cn)(cs:List aA)(i:Nat):(j5 m cs i).length≤cs.length:=by
 simp only[j5,List.length_map]
 exact Nat.le_trans (List.length_filter_le _ _) (by rw[List.length_take];omega)
theorem amk{m:cn}{l:List au}{known:Int}(hm:eI m=true)(hc:eL l [] [known]=0):iL m l known=(j5 m (jW l 100000 known).gE (jW l 100000 known).gE.length,0):=by
 simp only[iL,hm,hc,if_true]
 have:=YA (yp l 100000 known) (akE l (fw l 100000 known)) (rM m)
 simp only[j5,List.take_length]
 congr 1
theorem OJ(m:cn)(l:List au)(known:Int):aw Tryz.prog 17 [enc m,enc l,enc known] (.tuple [enc (iL m l known).1,enc (iL m l known).2]):=by
 have hM:=uP m
 have hL:=zL l
 refine aw.bp Tryz.func17 RC TA VJ (Nat.le_of_ble_eq_true rfl) (fun hwf W0 D0 E1 =>?_)
 simp only[Bl,Ly,a6,Nat.zero_add,Nat.reduceAdd]
 clear hwf
 rcases q1:eI m
 ·rw[q1,if_neg (by decide)] at hM
  have hr:iL m l known=([],13):=by simp[iL,q1]
  rw[hr]
  have R:=And.intro @eP (And.intro @cD (And.intro @aL @U))
  repeat' ((first
   |(with_reducible refine .guard (fun hb =>?_) (fun hb =>?_) <;>try simp only[hb])
   |refine J.aI (by decide +kernel) rfl fun K hK =>?_
   |refine .flat _ (hM) rfl ?_
   |(refine .aD [0,1,2,3,6,7,8,9,10,11,14,17,20,28,47] hK ?_;clear hK K)
   |(with_reducible refine .done (hK _ ?_);clear hK K)
   |refine J.of rfl ?_
   |(with_reducible refine aj.aH (fun h =>?_) (fun h =>?_) <;>try simp only[h])) <;>try simp only[aJ,R,Nat.reduceEqDiff,reduceIte,Int.reduceBNe,Nat.reduceBEq])
  all_goals clear R
  all_goals rfl
 rw[q1,if_pos rfl] at hM
 rcases q2:dJ l
 ·rw[q2,if_neg (by decide)] at hL
  have hr:iL m l known=([],41):=by simp[iL,q1,eL,q2]
  rw[hr]
  have R:=And.intro @eP (And.intro @cD (And.intro @aL @U))
  repeat' ((first
   |(with_reducible refine .guard (fun hb =>?_) (fun hb =>?_) <;>try simp only[hb])
   |refine J.aI (by decide +kernel) rfl fun K hK =>?_
   |refine .flat _ (hM) rfl ?_
   |refine .flat _ (hL) rfl ?_
   |(refine .aD [0,1,2,3,6,7,8,9,10,11,14,17,20,28,47] hK ?_;clear hK K)
   |(with_reducible refine .done (hK _ ?_);clear hK K)
   |refine J.of rfl ?_
   |(with_reducible refine aj.aH (fun h =>?_) (fun h =>?_) <;>try simp only[h])) <;>try simp only[aJ,R,Nat.reduceEqDiff,reduceIte,Int.reduceBNe,Nat.reduceBEq])
  all_goals clear R
  all_goals rfl
 rw[q2,if_pos rfl] at hL
 rcases q3:b7 0 100000 known
 ·have hr:iL m l known=([],6):=by simp[iL,q1,eL,q2,q3]
  rw[hr]
  have R:=And.intro @q3 (And.intro @eP (And.intro @cD (And.intro @aL @U)))
  repeat' ((first
   |(with_reducible refine .guard (fun hb =>?_) (fun hb =>?_) <;>try simp only[hb])
   |refine J.aI (by decide +kernel) rfl fun K hK =>?_
   |refine .flat _ (hM) rfl ?_
   |refine .flat _ (hL) rfl ?_
   |refine .flat _ (uR _) rfl ?_
   |(refine .aD [0,1,2,3,6,7,8,9,10,11,14,17,20,28,47] hK ?_;clear hK K)
   |(with_reducible refine .done (hK _ ?_);clear hK K)
   |refine J.of rfl ?_
   |(with_reducible refine aj.aH (fun h =>?_) (fun h =>?_) <;>try simp only[h])) <;>try simp only[aJ,R,Nat.reduceEqDiff,reduceIte,Int.reduceBNe,Nat.reduceBEq])
  all_goals clear R
  all_goals rfl
 have hc0:eL l [] [known]=0:=by simp[eL,q2,q3]
 rw[amk q1 hc0]
 have hF:=rY l known 100000 q2
 have hbr:∀ b∈(jW l 100000 known).gE,0≤b.fg:=fun b hb=>ah0 q2 100000 known b ((yp l 100000 known).mem_iff.2 hb)
 have hln:(jW l 100000 known).gE.length≤60:=by rw[←(yp l 100000 known).length_eq];exact (tc q2 100000 known).2.1
 generalize jW l 100000 known=p at hF hbr hln ⊢
 obtain ⟨cs,vd⟩:=p
 simp only at hbr hln ⊢
 have hfl:∀ x:l9,(enc x:I).di=some [enc x.gE,enc x.zi]:=lG
 have R:=And.intro @q3 (And.intro @nk (And.intro @rE (And.intro @pX (And.intro @lG (And.intro @kQ (And.intro @eP (And.intro @cD (And.intro @bx (And.intro @aL @U)))))))))
 repeat' ((first
  |(with_reducible refine .guard (fun hb =>?_) (fun hb =>?_) <;>try simp only[hb])
  |refine J.aI (by decide +kernel) rfl fun K hK =>?_
  |refine .flat _ (hM) rfl ?_
  |refine .flat _ (hL) rfl ?_
  |refine .flat _ (uR _) rfl ?_
  |refine .lead _ (hF) ?_
  |(refine .aD [0,1,2,3,6,7,8,9,10,11,14,17,20,28,47] hK ?_;clear hK K)
  |(with_reducible refine .done (hK _ ?_);clear hK K)
  |refine J.of rfl ?_
  |(with_reducible refine aj.aH (fun h =>?_) (fun h =>?_) <;>try simp only[h])) <;>try simp only[aJ,R,Nat.reduceEqDiff,reduceIte,Int.reduceBNe,Nat.reduceBEq])
 all_goals clear R
 refine J.loop (fun i:Nat=>ar [(3,.ptr 3 []),(8,.ptr 8 []),(9,.own 909 (j5 m cs i).length),(10,.int .i64 i)] [(3,.box (enc m)),(8,.box (enc (⟨cs,vd⟩:l9))),(909,.bW 3 1 ((j5 m cs i).map enc))]) (fun i=>i≤cs.length) (fun i=>cs.length-i) 0 (Nat.zero_le _) ?_ (fun i hi =>?_)
 ·refine az.ln 9 909 3 1 1 rfl rfl ?_
  simp only[j5,List.take_zero,List.filter_nil,List.map_nil,List.length_nil]
  refine az.bR ?_ ?_ ?_ ?_ <;>simp[aT,bN,bM,bg,aq,aU,cw,I.only,I.bV,ah.only,br]
 have hwl:=amg m cs i
 by_cases hlt:i<cs.length
 ·have hc:=fX hlt
  have hek:=fun A=>ew (A:=A) 9 hlt rfl
  have hw:=fk (i:=i) (by omega)
  have hs:=amh (m:=m) hlt
  have hB:=rX m cs[i]
  have hb0:=hbr _ (List.getElem_mem hlt)
  generalize j5 m cs i=xs at hwl hs ⊢
  have happ:=fun (A:ae) d rest=>jF (α:=Int) (A:=A) (d:=d) 3 1 8 909 (l:=xs.length) (es:=xs) (ys:=[(cs[i]).no]) (rest:=rest) rfl rfl (by simp) (by simp[maxLen];omega) (by simp;omega)
  rcases q5:(cs[i]).fg != 0 <;>rcases q6:decide ((cs[i]).fg∈(ft m (cs[i]).bu).1)
  all_goals
   have q7:rM m cs[i]=((cs[i]).fg != 0 && !decide ((cs[i]).fg∈(ft m (cs[i]).bu).1)):=by
    have:decide (0<(cs[i]).fg)=((cs[i]).fg != 0):=by
     rw[Bool.eq_iff_iff];simp;omega
    simp only[rM,this]
   rw[q5,q6] at q7
   rw[q7] at hs
   simp only[Bool.not_true,Bool.not_false,Bool.and_true,Bool.and_false,if_true,Bool.false_eq_true,if_false,List.append_nil] at hs
   have R:=And.intro @hc (And.intro @hek (And.intro @hw (And.intro @q5 (And.intro @q6 (And.intro @happ (And.intro @pj (And.intro @nk (And.intro @oZ (And.intro @lG (And.intro @kQ (And.intro @fO (And.intro @eP (And.intro @cD (And.intro @bx (And.intro @aL @U)))))))))))))))
   repeat' ((first
    |(with_reducible refine .guard (fun hb =>?_) (fun hb =>?_) <;>try simp only[hb])
    |refine J.aI (by decide +kernel) rfl fun K hK =>?_
    |refine .lead _ (hB) ?_
    |refine .flat _ (Pc _ _) rfl ?_
    |(refine .aD [0,1,2,3,6,7,8,9,10,11,14,17,20,28,47] hK ?_;clear hK K)
    |(with_reducible refine .done (hK _ ?_);clear hK K)
    |refine J.of rfl ?_
    |(with_reducible refine aj.aH (fun h =>?_) (fun h =>?_) <;>try simp only[h])) <;>try simp only[aJ,R,Nat.reduceEqDiff,reduceIte,Nat.reduceBEq])
   all_goals clear R
   refine ⟨i+1,by omega,by omega,?_⟩
   simp only[hs]
   refine az.bR ?_ ?_ ?_ ?_ <;>simp[aT,bN,bM,bg,aq,aU,cw,I.only,I.bV,ah.only,ec,iB,br,iw]
 ·have hc:=gh hlt
  have hge:i=cs.length:=by omega
  subst hge
  have hfo:=nq (k:=(j5 m cs cs.length).length) (T:=3) (es:=j5 m cs cs.length) 1 rfl rfl
  have R:=And.intro @hc (And.intro @hfo (And.intro @lG (And.intro @kQ (And.intro @cD (And.intro @bx (And.intro @aL @U))))))
  repeat' ((first
   |(with_reducible refine .guard (fun hb =>?_) (fun hb =>?_) <;>try simp only[hb])
   |refine J.aI (by decide +kernel) rfl fun K hK =>?_
   |(refine .aD [0,1,2,3,6,7,8,9,10,11,14,17,20,28,47] hK ?_;clear hK K)
   |(with_reducible refine .done (hK _ ?_);clear hK K)
   |refine J.of rfl ?_
   |(with_reducible refine aj.aH (fun h =>?_) (fun h =>?_) <;>try simp only[h])) <;>try simp only[aJ,R,Nat.reduceEqDiff,reduceIte,Nat.reduceBEq])
  all_goals clear R
theorem Yg(a b:Bool):ca .b (.bool a) (.bool b)=some (a==b):=by simp[ca]
theorem Pk(m:cn)(a b:l9)(no:Int):aw Tryz.prog 79 [enc m,enc a,enc b,enc no] (enc (jj m (cC a.gE no) (cC b.gE no))):=by
 have hA:=lf a.gE no
 have hyB:=lf b.gE no
 have hm1:decide ((-1:Int)<0)=true:=rfl
 refine aw.bp Tryz.func79 Sp Up Ww (Nat.le_of_ble_eq_true rfl) (fun hwf W0 D0 E1 =>?_)
 simp only[Ca,Mm,a6,Nat.zero_add,Nat.reduceAdd]
 clear hwf
 rcases lL a.gE no with ⟨g1,e1⟩ | ⟨i,hi,g1,n1,e1⟩ <;>rcases lL b.gE no with ⟨g2,e2⟩ | ⟨k,hk,g2,n2,e2⟩
 all_goals
  rw[e1] at hA
  rw[e2] at hyB
  rw[g1,g2]
 ·simp only[jj]
  have R:=And.intro @hm1 (And.intro @lG (And.intro @kQ (And.intro @cD (And.intro @aL @U))))
  repeat' ((first
   |(with_reducible refine .guard (fun hb =>?_) (fun hb =>?_) <;>try simp only[hb])
   |refine J.aI (by decide +kernel) rfl fun K hK =>?_
   |refine .flat _ (hA) rfl ?_
   |refine .flat _ (hyB) rfl ?_
   |(refine .aD [0,1,2,3,4,5,6,8,9,10,11,12,13,14,28] hK ?_;clear hK K)
   |(with_reducible refine .done (hK _ ?_);clear hK K)
   |refine J.of rfl ?_
   |(with_reducible refine aj.aH (fun h =>?_) (fun h =>?_) <;>try simp only[h])) <;>try simp only[aJ,R,Nat.reduceEqDiff,reduceIte,Nat.reduceBEq])
  all_goals clear R
 ·have h2:decide ((k:Int)<0)=false:=by simp
  simp only[jj]
  have R:=And.intro @hm1 (And.intro @h2 (And.intro @lG (And.intro @kQ (And.intro @cD (And.intro @aL @U)))))
  repeat' ((first
   |(with_reducible refine .guard (fun hb =>?_) (fun hb =>?_) <;>try simp only[hb])
   |refine J.aI (by decide +kernel) rfl fun K hK =>?_
   |refine .flat _ (hA) rfl ?_
   |refine .flat _ (hyB) rfl ?_
   |(refine .aD [0,1,2,3,4,5,6,8,9,10,11,12,13,14,28] hK ?_;clear hK K)
   |(with_reducible refine .done (hK _ ?_);clear hK K)
   |refine J.of rfl ?_
   |(with_reducible refine aj.aH (fun h =>?_) (fun h =>?_) <;>try simp only[h])) <;>try simp only[aJ,R,Nat.reduceEqDiff,reduceIte,Nat.reduceBEq])
  all_goals clear R
 ·have h2:decide ((i:Int)<0)=false:=by simp
  simp only[jj]
  have R:=And.intro @hm1 (And.intro @h2 (And.intro @lG (And.intro @kQ (And.intro @cD (And.intro @aL @U)))))
  repeat' ((first
   |(with_reducible refine .guard (fun hb =>?_) (fun hb =>?_) <;>try simp only[hb])
   |refine J.aI (by decide +kernel) rfl fun K hK =>?_
   |refine .flat _ (hA) rfl ?_
   |refine .flat _ (hyB) rfl ?_
   |(refine .aD [0,1,2,3,4,5,6,8,9,10,11,12,13,14,28] hK ?_;clear hK K)
   |(with_reducible refine .done (hK _ ?_);clear hK K)
   |refine J.of rfl ?_
   |(with_reducible refine aj.aH (fun h =>?_) (fun h =>?_) <;>try simp only[h])) <;>try simp only[aJ,R,Nat.reduceEqDiff,reduceIte,Nat.reduceBEq])
  all_goals clear R
 have h2:decide ((i:Int)<0)=false:=by simp
 have h3:decide ((k:Int)<0)=false:=by simp
 have he:=fun A=>ew (A:=A) 9 hi rfl
 have he2:=fun A=>ew (A:=A) 9 hk rfl
 generalize (a.gE)[i]=x at he n1 ⊢
 generalize (b.gE)[k]=y at he2 n2 ⊢
 have hX:=rX m x
 have hY:=rX m y
 have hno:x.no=y.no:=by rw[n1,n2]
 have R:=And.intro @h2 (And.intro @h3 (And.intro @he (And.intro @he2 (And.intro @nk (And.intro @oZ (And.intro @lG (And.intro @kQ (And.intro @fO (And.intro @Yg (And.intro @eP (And.intro @cD (And.intro @aL @U))))))))))))
 repeat' ((first
  |(with_reducible refine .guard (fun hb =>?_) (fun hb =>?_) <;>try simp only[hb])
  |refine J.aI (by decide +kernel) rfl fun K hK =>?_
  |refine .flat _ (hA) rfl ?_
  |refine .flat _ (hyB) rfl ?_
  |refine .lead _ (hX) ?_
  |refine .lead _ (hY) ?_
  |refine .flat _ (rU _ _) rfl ?_
  |(refine .aD [0,1,2,3,4,5,6,8,9,10,11,12,13,14,28] hK ?_;clear hK K)
  |(with_reducible refine .done (hK _ ?_);clear hK K)
  |refine J.of rfl ?_
  |(with_reducible refine aj.aH (fun h =>?_) (fun h =>?_) <;>try simp only[h])) <;>try simp only[aJ,R,Nat.reduceEqDiff,reduceIte,Nat.reduceBEq])
 all_goals clear R
 all_goals first | (simp_all[jj,pf];done) | (rcases hx:x.found <;>rcases hy:y.found <;>simp_all[jj,pf])
theorem OT(m:cn)(l:List au)(x:iN):aw Tryz.prog 19 [enc m,enc l,enc x] (.tuple [enc (nN m l (x.g 0) (x.g 1)).1,enc (nN m l (x.g 0) (x.g 1)).2]):=by
 refine aw.bp Tryz.func19 RL TK VT (Nat.le_of_ble_eq_true rfl) (fun hwf W0 D0 E1 =>?_)
 simp only[Bw,LJ,a6,Nat.zero_add,Nat.reduceAdd]
 clear hwf
 have hC:=zw m l x
 simp only[nN]
 have hok0:=Ah (m:=m) (l:=l) (no:=x.g 0) (known:=x.g 1)
 generalize iu m l (x.g 0) (x.g 1)=e at hC hok0 ⊢
 obtain ⟨e1,e2⟩:=e
 simp only at hC hok0 ⊢
 by_cases he:e2=0
 case neg =>
  have hn:=mF he
  have R:=And.intro @hn (And.intro @he (And.intro @eP (And.intro @nG eK)))
  repeat' ((first
   |(with_reducible refine .guard (fun hb =>?_) (fun hb =>?_) <;>try simp only[hb])
   |refine J.aI (by decide +kernel) rfl fun K hK =>?_
   |refine .lead _ (hC) ?_
   |(refine .aD [0,1,2,3,5,6,7,9,10,11,12,21,30,44] hK ?_;clear hK K)
   |(with_reducible refine .done (hK _ ?_);clear hK K)
   |refine J.of rfl ?_
   |(with_reducible refine aj.aH (fun h =>?_) (fun h =>?_) <;>try simp only[h])) <;>try simp only[aJ,R,Nat.reduceEqDiff,reduceIte,Nat.reduceBEq])
  all_goals clear R
  all_goals rfl
 have hn:=mE he
 have hok:=hok0 he
 subst he
 have hF:=rY l (x.g 1) 100000 hok
 have hlen:=oE hok
 have R:=And.intro @hn (And.intro @eP (And.intro @nG (And.intro @rE (And.intro @pX eK))))
 repeat' ((first
  |(with_reducible refine .guard (fun hb =>?_) (fun hb =>?_) <;>try simp only[hb])
  |refine J.aI (by decide +kernel) rfl fun K hK =>?_
  |refine .lead _ (hC) ?_
  |refine .lead _ (hF) ?_
  |(refine .aD [0,1,2,3,5,6,7,9,10,11,12,21,30,44] hK ?_;clear hK K)
  |(with_reducible refine .done (hK _ ?_);clear hK K)
  |refine J.of rfl ?_
  |(with_reducible refine aj.aH (fun h =>?_) (fun h =>?_) <;>try simp only[h])) <;>try simp only[aJ,R,Nat.reduceEqDiff,reduceIte,Nat.reduceBEq])
 all_goals clear R
 refine J.loop (fun i:Nat=>ar [(1,enc l),(3,.ptr 3 []),(5,.ptr 5 []),(10,.ptr 10 []),(11,.own 911 (fY m l (x.g 0) (x.g 1) i).length),(12,.int .i64 i)] [(3,.box (enc m)),(5,.box (enc x)),(10,.box (enc (jW l 100000 (x.g 1)))),(911,.bW 65 2 ((fY m l (x.g 0) (x.g 1) i).map enc))]) (fun i=>i≤l.length) (fun i=>l.length-i) 0 (Nat.zero_le _) ?_ (fun i hi =>?_)
 ·refine az.ln 11 911 65 2 2 rfl rfl ?_
  simp only[fY,List.range_zero,List.filter_nil,List.map_nil,List.length_nil]
  refine az.bR ?_ ?_ ?_ ?_ <;>simp[aT,bN,bM,bg,aq,aU,cw,I.only,I.bV,ah.only,br]
 have hRl:=MQ m l (x.g 0) (x.g 1) i
 by_cases hlt:i<l.length
 ·have hc:=fX hlt
  have he:=fun A=>ic (A:=A) hlt
  have hw:=fk (i:=i) (by omega)
  have hD:=Pl l i hlen
  have hokd:=J9 hok i
  have hF2:=rY (dz l i) (x.g 1) 100000 hokd
  have hS:=Pk m (jW l 100000 (x.g 1)) (jW (dz l i) 100000 (x.g 1)) (x.g 0)
  rw[xp,xp] at hS
  have hsu:=MR m l (x.g 0) (x.g 1) i
  have hp:rA m l (x.g 0) (x.g 1) i = !jj m (cC (db l 100000 (x.g 1)) (x.g 0)) (cC (db (dz l i) 100000 (x.g 1)) (x.g 0)):=rfl
  rw[hp] at hsu
  generalize jj m (cC (db l 100000 (x.g 1)) (x.g 0)) (cC (db (dz l i) 100000 (x.g 1)) (x.g 0))=b at hS hsu
  have happ:=fun (A:ae) d rest=>jF (α:=Item) (A:=A) (d:=d) 65 2 16 911 (l:=(fY m l (x.g 0) (x.g 1) i).length) (es:=fY m l (x.g 0) (x.g 1) i) (ys:=[(ab l i).da]) (rest:=rest) rfl rfl (by simp) (by simp[maxLen];omega) (by simp;omega)
  have hbs:=m9 2 (ab l i).da rfl
  cases b
  all_goals
   simp only[Bool.not_true,Bool.not_false,if_true,Bool.false_eq_true,if_false,List.append_nil] at hsu
   have R:=And.intro @hc (And.intro @he (And.intro @hw (And.intro @happ (And.intro @hbs (And.intro @eP (And.intro @nG (And.intro @pX eK)))))))
   repeat' ((first
    |(with_reducible refine .guard (fun hb =>?_) (fun hb =>?_) <;>try simp only[hb])
    |refine J.aI (by decide +kernel) rfl fun K hK =>?_
    |refine .lead _ (hD) ?_
    |refine .lead _ (hF2) ?_
    |refine .flat _ (hS) rfl ?_
    |(refine .aD [0,1,2,3,5,6,7,9,10,11,12,21,30,44] hK ?_;clear hK K)
    |(with_reducible refine .done (hK _ ?_);clear hK K)
    |refine J.of rfl ?_
    |(with_reducible refine aj.aH (fun h =>?_) (fun h =>?_) <;>try simp only[h])) <;>try simp only[aJ,R,Nat.reduceEqDiff,reduceIte,Nat.reduceBEq])
   all_goals clear R
   refine ⟨i+1,by omega,by omega,?_⟩
   simp only[hsu]
   refine az.bR ?_ ?_ ?_ ?_ <;>simp[aT,bN,bM,bg,aq,aU,cw,I.only,I.bV,ah.only,ec,iB,br]
 ·have hc:=gh hlt
  have hie:i=l.length:=by omega
  subst hie
  have hfo:np (fY m l (x.g 0) (x.g 1) l.length).length (some (.bW 65 2 ((fY m l (x.g 0) (x.g 1) l.length).map enc)))=some (enc (fY m l (x.g 0) (x.g 1) l.length)):=nq 2 rfl rfl
  have R:=And.intro @hc (And.intro @hfo (And.intro @bx (And.intro @aL @U)))
  repeat' ((first
   |(with_reducible refine .guard (fun hb =>?_) (fun hb =>?_) <;>try simp only[hb])
   |refine J.aI (by decide +kernel) rfl fun K hK =>?_
   |(refine .aD [0,1,2,3,5,6,7,9,10,11,12,21,30,44] hK ?_;clear hK K)
   |(with_reducible refine .done (hK _ ?_);clear hK K)
   |refine J.of rfl ?_
   |(with_reducible refine aj.aH (fun h =>?_) (fun h =>?_) <;>try simp only[h])) <;>try simp only[aJ,R,Nat.reduceEqDiff,reduceIte,Nat.reduceBEq])
  all_goals clear R
theorem Pb(m:cn)(l:List au)(x:iN):aw Tryz.prog 3 [enc m,enc l,enc x] (enc true):=by
 have h1:=rS m l (x.g 0) (x.g 1)
 have h2:=zw m l x
 have h3:=zA m l (x.g 1)
 have h4:=OJ m l (x.g 1)
 have h5:=zD m l (x.g 0) (x.g 1)
 have h6:=OT m l x
 generalize iu m l (x.g 0) (x.g 1)=u1 at h1 h2
 generalize iL m l (x.g 1)=u2 at h3 h4
 generalize nN m l (x.g 0) (x.g 1)=u3 at h5 h6
 refine aw.bp Tryz.func3 R5 T6 Wd (Nat.le_of_ble_eq_true rfl) (fun hwf W0 D0 E1 =>?_)
 simp only[c3,oI,a6,Nat.zero_add,Nat.reduceAdd]
 clear hwf
 have q1:∀ e:Int,(e==e)=true:=fun e=>by simp
 have R:=And.intro @q1 (And.intro @eP (And.intro @nG eK))
 repeat' ((first
  |(with_reducible refine .guard (fun hb =>?_) (fun hb =>?_) <;>try simp only[hb])
  |refine J.aI (by decide +kernel) rfl fun K hK =>?_
  |refine .lead _ (h1) ?_
  |refine .lead _ (h2) ?_
  |refine .lead _ (h3) ?_
  |refine .lead _ (h4) ?_
  |refine .lead _ (h5) ?_
  |refine .lead _ (h6) ?_
  |refine .flat _ (rU _ _) rfl ?_
  |refine .flat _ (zJ _ _) rfl ?_
  |refine .flat _ (O7) rfl ?_
  |(refine .aD [0,1,2,3,5,6,7,8,9,10,11,12,13,14,15,16,17,18] hK ?_;clear hK K)
  |(with_reducible refine .done (hK _ ?_);clear hK K)
  |refine J.of rfl ?_
  |(with_reducible refine aj.aH (fun h =>?_) (fun h =>?_) <;>try simp only[h])) <;>try simp only[aJ,R,eq_self,decide_true,Nat.reduceEqDiff,reduceIte,Nat.reduceBEq])
 all_goals clear R
end Go.Proofs.YtcldiigclhgafaaGreat
namespace Go.Proofs.YtcldiigclhgafaaGreat
open Go Go.Abs Go.ChangeShapes Go.WideShapes Go.RowKit
open Go.Abs.Enc (enc)
theorem Tryz.own:ownKnob Tryz.prog.godebug=none:=by kernel_rfl
theorem Tryz.aiv:laidOutB Tryz.prog=true:=by kernel_rfl
theorem ja:fC Tryz.prog 3 Int:=akj (by kernel_rfl) (by kernel_rfl)
theorem ajh:fC Tryz.prog 23 (bA 5 Int):=tU (th (by kernel_rfl)) ja (by kernel_rfl) (by decide)
theorem ajg:fC Tryz.prog 66 (bA 6 Int):=tU (th (by kernel_rfl)) ja (by kernel_rfl) (by decide)
theorem aje:fC Tryz.prog 61 (bA 6 Int):=tU (th (by kernel_rfl)) ja (by kernel_rfl) (by decide)
theorem ajd:fC Tryz.prog 28 iN:=tU (th (by kernel_rfl)) ja (by kernel_rfl) (by decide)
theorem ajb:fC Tryz.prog 63 cA:=⟨by kernel_rfl,by decide,fun h=>by
 obtain ⟨a,b,hab⟩:=Kr (α:=Int) (β:=bA 6 Int) (u0:=3) (u1:=61) (by kernel_rfl) ja aje (by kernel_rfl) h
 exact ⟨⟨a,b⟩,hab⟩⟩
theorem ajc:fC Tryz.prog 24 (List cA):=Kq (by kernel_rfl) ajb (by kernel_rfl)
theorem ajf:fC Tryz.prog 26 cn:=⟨by kernel_rfl,by decide,fun h=>by
 obtain ⟨a,b,c,hab⟩:=akl (α:=bA 5 Int) (β:=Int) (γ:=List cA) (u0:=23) (u1:=3) (u2:=24) (by kernel_rfl) ajh ja ajc (by kernel_rfl) h
 exact ⟨⟨a,b,c⟩,hab⟩⟩
theorem J3:fC Tryz.prog 65 Item:=⟨by kernel_rfl,by decide,fun h=>by
 obtain ⟨a,b,hab⟩:=Kr (α:=Int) (β:=Int) (u0:=3) (u1:=3) (by kernel_rfl) ja ja (by kernel_rfl) h
 exact ⟨⟨a,b⟩,hab⟩⟩
theorem ai9:fC Tryz.prog 68 au:=⟨by kernel_rfl,by decide,fun h=>by
 obtain ⟨vs,hv,hr⟩:=akk [(65,0),(3,2),(3,3),(3,4),(3,5),(3,6),(3,7),(3,8),(66,9),(65,15)]
  [(2,fun v=>∃ a:Item,v=enc a),(1,fun v=>∃ a:Int,v=enc a),(1,fun v=>∃ a:Int,v=enc a),(1,fun v=>∃ a:Int,v=enc a),(1,fun v=>∃ a:Int,v=enc a),(1,fun v=>∃ a:Int,v=enc a),(1,fun v=>∃ a:Int,v=enc a),(1,fun v=>∃ a:Int,v=enc a),(6,fun v=>∃ a:bA 6 Int,v=enc a),(2,fun v=>∃ a:Item,v=enc a)]
  (by kernel_rfl) (by simp only[qY];exact ⟨trivial,J3.bC,trivial,ja.bC,trivial,ja.bC,trivial,ja.bC,trivial,ja.bC,trivial,ja.bC,trivial,ja.bC,trivial,ja.bC,trivial,ajg.bC,trivial,J3.bC,trivial⟩) (by kernel_rfl) h
 obtain ⟨v0,vs0,e0,h0,hv0⟩:=lp hv
 obtain ⟨a0,f0⟩:∃ a:Item,v0=enc a:=h0
 obtain ⟨v1,vs1,e1,h1,hv1⟩:=lp hv0
 obtain ⟨a1,f1⟩:∃ a:Int,v1=enc a:=h1
 obtain ⟨v2,vs2,e2,h2,hv2⟩:=lp hv1
 obtain ⟨a2,f2⟩:∃ a:Int,v2=enc a:=h2
 obtain ⟨v3,vs3,e3,h3,hv3⟩:=lp hv2
 obtain ⟨a3,f3⟩:∃ a:Int,v3=enc a:=h3
 obtain ⟨v4,vs4,e4,h4,hv4⟩:=lp hv3
 obtain ⟨a4,f4⟩:∃ a:Int,v4=enc a:=h4
 obtain ⟨v5,vs5,e5,h5,hv5⟩:=lp hv4
 obtain ⟨a5,f5⟩:∃ a:Int,v5=enc a:=h5
 obtain ⟨v6,vs6,e6,h6,hv6⟩:=lp hv5
 obtain ⟨uV,f6⟩:∃ a:Int,v6=enc a:=h6
 obtain ⟨v7,vs7,e7,h7,hv7⟩:=lp hv6
 obtain ⟨a7,f7⟩:∃ a:Int,v7=enc a:=h7
 obtain ⟨v8,vs8,e8,h8,hv8⟩:=lp hv7
 obtain ⟨a8,f8⟩:∃ a:bA 6 Int,v8=enc a:=h8
 obtain ⟨v9,vs9,e9,h9,hv9⟩:=lp hv8
 obtain ⟨a9,f9⟩:∃ a:Item,v9=enc a:=h9
 have e10:=PQ hv9
 rw[e0,e1,e2,e3,e4,e5,e6,e7,e8,e9,e10,f0,f1,f2,f3,f4,f5,f6,f7,f8,f9] at hr
 exact ⟨⟨a0,a1,a2,a3,a4,a5,uV,a7,a8,a9⟩,hr⟩⟩
theorem aja:fC Tryz.prog 27 (List au):=Kq (by kernel_rfl) ai9 (by kernel_rfl)
theorem alo{w:World}{D:aP}{E:aX}{x y z:I}{a b c:Value}(hx:∃ cs,bK x a cs∧af w D E x cs)(hy:∃ cs,bK y b cs∧af w D E y cs)(hz:∃ cs,bK z c cs∧af w D E z cs):aF w D E [x,y,z] [a,b,c]:=by
 obtain ⟨c1,h1,h2⟩:=hx
 obtain ⟨c2,h3,h4⟩:=hy
 obtain ⟨c3,h5,h6⟩:=hz
 simp only[aF]
 exact ⟨a,[b,c],c1,rfl,h1,h2,b,[c],c2,rfl,h3,h4,c,[],c3,rfl,h5,h6,rfl⟩
end Go.Proofs.YtcldiigclhgafaaGreat
