/-
  A part of the proof that the law HerdCounts returns true for every input; conditions: none beyond the statement's own. (part 6 of 7)
-/
import Derived.Test.YtcldiigclhgafaaGreatRows
import Derived.Test.YtcldiigclhgafaaGreatNke
set_option linter.unusedSimpArgs false
set_option linter.unusedVariables false
set_option maxHeartbeats 16000000
set_option maxRecDepth 100000
namespace Go.Proofs.YtcldiigclhgafaaGreat
open Go Go.Abs
open Go.Abs.Enc (enc)
section
variable {α:Type} [Enc α] {P:Program} {hs:List FuncId} {Y:Value→List I→List (Nat×aj)→cV→Prop} {K:af→Prop} {A:af} {rest:List aC} {d:Nat} {e esz bytes:Nat} {q:Nat}
theorem As(z:I){l:List α}(hsz:Enc.sz α=esz)(hl:l≠[])(hf:A.o d=none)(hb:l.length*bytes≤140737488355328)(hml:l.length≤maxLen) :
  ∃ p:Nat→Prop,gv A (some d) e esz bytes z (enc l) rest (.c0 q)=.any p fun m=>aA rest ((A.aO d (.box (.agg (l.map enc++List.replicate m z)))).aP (some d) (.view d [] esz 0 l.length)):=by
 have hne:l.map (enc (α:=α))≠[]:=by simpa using hl
 have h1:eD A esz (.c0 q)=some []:=rfl;refine ⟨fun m=>l.length+m≤maxLen,?_⟩;simp only[gv,h1,qC A esz l hsz,fq,if_neg hne,gu,hf,List.length_nil,zz4,zy3,if_pos (u8 hb hml),zy7]
theorem bh.sD(z:I){l:List α}(hsz:Enc.sz α=esz)(hl:l≠[])(hf:A.o d=none)(hb:l.length*bytes≤140737488355328)(hml:l.length≤maxLen)
  (h:∀ m,bh P Y false K (aA rest ((A.aO d (.box (.agg (l.map enc++List.replicate m z)))).aP (some d) (.view d [] esz 0 l.length)))):bh P Y false K (gv A (some d) e esz bytes z (enc l) rest (.c0 q)):=by
 obtain ⟨p,h1⟩:=As (rest:=rest) (e:=e) (q:=q) z hsz hl hf hb hml;rw[h1];exact .any rfl fun m _=>h m
theorem cg.ox(z:α){l:List α}(hsz:Enc.sz α=esz)(hl:l≠[])(hf:A.o d=none)(hb:l.length*bytes≤140737488355328)(hml:l.length≤maxLen)
  (h:∀ m,cg P hs K (aA rest ((A.aO d (.box (.agg ((l++List.replicate m z).map enc)))).aP (some d) (.view d [] esz 0 l.length)))):cg P hs K (gv A (some d) e esz bytes (enc z) (enc l) rest (.c0 q)):=by
 obtain ⟨p,h1⟩:=As (rest:=rest) (e:=e) (q:=q) (enc z) hsz hl hf hb hml;rw[h1];refine .any fun m _ =>?_;have:=h m;simp only[zx4,List.map_replicate] at this;exact this
theorem cg.vw(z:α)(hsz:Enc.sz α=esz){n l:Nat}{xs ys:List α}(hy:ys≠[])(ho:A.o n=some (.box (.agg (xs.map enc))))(hl:l≤xs.length)(hr:xs.length<l+ys.length)(hf:A.o d=none)(hb:(l+ys.length)*bytes≤140737488355328)(hml:l+ys.length≤maxLen)
  (h:∀ q,cg P hs K (aA rest ((A.aO d (.box (.agg ((xs.take l++(ys++List.replicate q z)).map enc)))).aP (some d) (.view d [] esz 0 (l+ys.length))))):cg P hs K (gv A (some d) e esz bytes (enc z) (enc ys) rest (.view n [] esz 0 l)):=by
 have h1:=qD (A:=A) (esz:=esz) (lo:=0) (k:=l) ho (by omega);have h2:(I.agg (xs.map (enc (α:=α)))).at []=some (.agg (xs.map enc)):=rfl;have h4:(xs.take l).length=l:=by rw[zy8];omega
 simp only[gv,h1,List.drop_zero,qC A esz ys hsz,fq];rw[if_neg (by simpa using hy)];simp only[ho,h2,zy3,zz4];rw[if_neg (by omega)];simp only[gu,hf,zy3,h4];rw[if_pos ⟨hb,hml⟩];refine .any fun q _ =>?_;have:=h q;simp only[zx4,List.map_replicate] at this;exact this
theorem X3{A:af}{m n k:Nat}{ys q:List α}(ho:A.o n=some (.box (.agg ((ys++q).map enc))))(hsz:Enc.sz α=esz)(hk:k=ys.length):df A (m+1) (.view n [] esz 0 k)=some (enc ys):=by
 subst hk hsz;have h1:cD A (.ptr n [])=some (.agg ((ys++q).map enc)):=by simp only[cD,ho];rfl
 simp only[df,I.bj,zz6,if_false,h1];have h2:(((ys++q).map (enc (α:=α))).drop 0).take ys.length=ys.map enc:=by
  rw[List.drop_zero,zx4,zw6 (by simp),zw8 (by simp)]
 rw[h2,if_pos (iW ys),gi]
end
theorem pk{A:af}{n:Nat}{w:I}{b:ao}{rest:List aC} : dj A (some 9) n [] w (enc b) rest (some (.agg [.int .i64 0,.int .i64 0,.int .i64 0,.int .i64 0,.int .i64 0,.int .i64 0,.int .i64 0,.bool false,.nils 6]))=aA rest (A.aO n (.box (enc b))):=by
 refine (ee (s:=some 9) (dU _) (by rw[fZ];rfl) (eQ b)).trans ?_;rw[gp]
theorem r2 :
  (∀ (A:af) n (b:ao) (v u:Int) rest,dj A none n [3] (enc b) (.int .i64 v) rest (some (.int .i64 u))=aA rest (A.aO n (.box (enc { b with bx:=v })))) ∧
  (∀ (A:af) n (b:ao) (v u:Int) rest,dj A none n [6] (enc b) (.int .i64 v) rest (some (.int .i64 u))=aA rest (A.aO n (.box (enc { b with cu:=v })))) ∧
  (∀ (A:af) n (b:ao) (v u:Bool) rest,dj A none n [7] (enc b) (.bool v) rest (some (.bool u))=aA rest (A.aO n (.box (enc { b with found:=v })))) :=
 ⟨fun _ _ _ v u _=>by rw[ee (s:=none) (v:=.int .i64 v) (old:=.int .i64 u) rfl rfl rfl];rfl,fun _ _ _ v u _=>by rw[ee (s:=none) (v:=.int .i64 v) (old:=.int .i64 u) rfl rfl rfl];rfl,
  fun _ _ _ v u _=>by rw[ee (s:=none) (v:=.bool v) (old:=.bool u) rfl rfl rfl];rfl⟩
theorem re{α:Type}[Enc α]{xs:List α}{R:List I}{sz k:Nat}(hsz:Enc.sz α=sz)(hk:k=xs.length):kA sz 0 k (some (xs.map enc++R))=some (enc xs):=by
 subst hk hsz;have h:((xs.map (enc (α:=α))++R).drop 0).take xs.length=xs.map enc:=by
  rw[List.drop_zero,zw6 (by simp),zw8 (by simp)]
 simp only[kA,h];rw[if_pos (iW xs),gi]
theorem sG{α:Type}[Enc α]{xs:List α}{R:List I}{i:Nat}(hi:i<xs.length):jE i [] (some (xs.map enc++R))=some (enc xs[i]):=by
 simp[jE,oy,hi,zx0,I.at]
theorem uR{A:af}{n i:Nat}{xs:List ao}{R:List I}{v u:ao}{rest:List aC}(hi:i<xs.length):dj A (some 9) n [i] (.agg (xs.map enc++R)) (enc v) rest (some (enc u))=aA rest (A.aO n (.box (.agg ((xs.set i v).map enc++R)))):=by
 rw[ee (s:=some 9) (dU v) (by rw[fZ];rfl) ((eQ v).trans (eQ u).symm)];have h2:(xs.map (enc (α:=ao))++R)[i]?=some (enc xs[i]):=by simp[hi,zx0]
 simp only[I.dM,h2];rw[List.set_append_left _ _ (by simpa using hi),List.map_set]
theorem amt(p:Nat→Bool)(l:List (bL 6 Int)):(I.agg (l.map enc)).only p=true:=by simp only[I.only];exact eI p l
def nx(b:ao)(s:I):I:=.agg [.int .i64 b.no,.int .i64 b.cd,.int .i64 b.cm,.int .i64 b.bx,.int .i64 b.jF,.int .i64 b.born,.int .i64 b.cu,.bool b.found,s]
theorem zB{A:af}{n m p z lo k:_}{b:ao}{rest:List aC} : dj A none n [8] (enc b) (.view m p z lo k) rest (some (enc b.bA))=aA rest (A.aO n (.box (nx b (.view m p z lo k)))):=by
 rw[ee (s:=none) (v:=.view m p z lo k) (old:=enc b.bA) rfl rfl (eQ b.bA).symm];rfl
theorem X2{A:af}{m N k:Nat}{b:ao}{xs q:List (bL 6 Int)}(ho:A.o N=some (.box (.agg ((xs++q).map enc))))(hk:k=xs.length):df A (m+2) (nx b (.view N [] 6 0 k))=some (enc ({ b with bA:=xs } : ao)):=by
 have h1:=X3 (m:=m) (esz:=6) ho rfl hk;have hi:∀ (k:IntKind) (v:Int),df A (m+1) (.int k v)=some (.int k v):=fun _ _=>by simp[df,I.bj]
 have hb:∀ v:Bool,df A (m+1) (.bool v)=some (.bool v):=fun _=>by simp[df,I.bj]
 rw[nx,df];simp only[I.bj,I.bU,Bool.and_false,Bool.and_true,zz6,if_false,fy,hi,hb,h1,zy5];rfl
theorem wM{ts:List (Nat×I)}{os:List (Nat×aj)}{N k:Nat}{b:ao}{xs q:List (bL 6 Int)}{bs:List ao}{i:Nat}(h9:Abs.bO ts 9=.ptr 9 [])(ho9:ak os 9=some (.box (nx b (.view N [] 6 0 k))))(hoN:ak os N=some (.box (.agg ((xs++q).map enc))))(hk:k=xs.length)
  (h0:Abs.bO ts 0=enc bs) (h6:Abs.bO ts 6=.int .i64 i) (hN:N≠9) (ho:bE (fun n => ![9,N].contains n) (cJ [9,N] os)):aF (au ts os) (au [(0,enc bs),(6,.int .i64 i),(9,.ref (enc ({ b with bA:=xs } : ao)))] []):=by
 have hk9:ak (fR [9,N] os) 9=some (.box (nx b (.view N [] 6 0 k))):=by rw[ma];simpa using ho9
 have hkN:ak (fR [9,N] os) N=some (.box (.agg ((xs++q).map enc))):=by rw[ma];simpa using hoN
 have hf:a6 true (au ts (fR [9,N] os)) (.ptr 9 [])=some (.ref (enc ({ b with bA:=xs } : ao))):=by
  have h1:=X2 (A:=au ts (fR [9,N] os)) (m:=7) (b:=b) hkN hk;have ae:cD (au ts (fR [9,N] os)) (.ptr 9 [])=some (nx b (.view N [] 6 0 k)):=by
   simp only[cD,au,hk9];exact mG _
  have hc:(nx b (.view N [] 6 0 k)).bj=false:=by simp[nx,I.bj,I.bU]
  simp only[a6,if_true,ae,hc,zz6,if_false,h1,zy5]
 refine (aF.gN [9,N] 9 h9 hf ho).trans (aF.cq ?_ trivial ?_ trivial)
 ·have hfg:∀ t,Abs.bO (fF [9,N] ts) t=if (Abs.bO ts t).only (fun j => ![9,N].contains j)=true then Abs.bO ts t else .de:=DC _ ts
  simp[aY,aZ,hfg,h0,h6,bK,I.only]
 ·simp[bY,bK,I.only]
theorem sF{bs:List ao}{x:ar}(ae:(bs.map (·.no)).Nodup)(hk:¬ (x.kind=1∨x.kind=2)){i:Nat}(hi:i<bs.length)(hg:cI bs x.cG=some bs[i]){b:ao}(ht:dG bs[i] x=some b)(hno:b.no=(bs[i]).no):eb bs x=(bs.set i b,true):=by
 simp only[eb,cX,if_neg hk,hg,ht,zy5,MN ae hi hno]
theorem PJ{bs:List ao}{x:ar}(hk:¬ (x.kind=1∨x.kind=2))(hg:cI bs x.cG=none):eb bs x=(bs,false):=by
 simp only[eb,cX,if_neg hk,hg]
theorem Ax{bs:List ao}{x:ar}(hk:¬ (x.kind=1∨x.kind=2)){b:ao}(hg:cI bs x.cG=some b)(ht:dG b x=none):eb bs x=(bs,false):=by
 simp only[eb,cX,if_neg hk,hg,ht,Option.map_none]
theorem sg(bs:List ao)(x:ar)(hk:3≤x.kind)(hg:cI bs x.cG=none):aB Tryz.prog 132 [enc bs,enc x] (.tuple [enc (eb bs x).1,enc (eb bs x).2]):=by
 refine aB.bu Tryz.func132 pN pP pT (zz0 rfl) (fun hwf W0 D0 E1 =>?_);simp only[oA,o6,bl,zz4];clear hwf;have hk12:¬ (x.kind=1∨x.kind=2):=by omega
 have hk1:(x.kind==1)=false:=gP (by omega);have hk2:(x.kind==2)=false:=gP (by omega);have hF1:=mC bs x.cG;have hg2:decide ((-1:Int)<0)=true:=rfl;rcases mQ bs x.cG with ⟨g1,e1⟩ | ⟨i,hi,g1,-,e1⟩
 ·rw[e1] at hF1;rw[PJ hk12 g1];have R:=u8 @hk1 (u8 @hk2 (u8 @hg2 (u8 @aN (u8 @bB (u8 @cA @ab)))))
  repeat' ((first |(with_reducible refine .guard (fun hb =>?_) (fun hb =>?_) <;>try simp only[hb])|refine J.aI (by decide +kernel) rfl fun K hK =>?_|refine .flat _ (hF1) rfl ?_|(refine .ay [0,1,3,4,5,6,7,8,9,10,22,24,28,62,81,88,89,105,110,121,127,131] hK ?_;clear hK K)|(with_reducible refine .done (hK _ ?_);clear hK K)|refine J.of rfl ?_|(with_reducible refine aq.aH (fun h =>?_) (fun h =>?_) <;>try simp only[h])) <;>try simp only[aK,R,Nat.reduceEqDiff,reduceIte,Nat.reduceBEq])
  all_goals clear R
 ·rw[g1] at hg;cases hg
theorem NY(bs:List ao)(x:ar)(hn:bs.length≤99)(ae:(bs.map (·.no)).Nodup)(hk:x.kind=3):aB Tryz.prog 132 [enc bs,enc x] (.tuple [enc (eb bs x).1,enc (eb bs x).2]):=by
 cases hg0:cI bs x.cG with
 |none=>exact sg bs x (by omega) hg0
 |some b0 =>
 refine aB.bu Tryz.func132 pN pP pT (zz0 rfl) (fun hwf W0 D0 E1 =>?_);simp only[oA,o6,bl,zz4];clear hwf;have hk12:¬ (x.kind=1∨x.kind=2):=by omega
 have hk1:(x.kind==1)=false:=gP (by omega);have hk2:(x.kind==2)=false:=gP (by omega);have hF1:=mC bs x.cG;have hg2:decide ((-1:Int)<0)=true:=rfl;have hk3:(x.kind==3)=true:=s8 hk;rcases mQ bs x.cG with ⟨g1,e1⟩ | ⟨i,hi,g1,gno,e1⟩
 ·rw[g1] at hg0;cases hg0
 rw[e1] at hF1;have hg3:decide ((i:Int)<0)=false:=by simp
 have he:=fun A=>eL (A:=A) 9 hi rfl;obtain ⟨b,hb0⟩:∃ b,b=bs[i]:=⟨_,rfl⟩
 have hne:bs≠[]:=fun e=>by rw[e] at hi;simp at hi
 rw[←hb0] at he g1 gno;by_cases hv:dG b x=none
 ·rw[Ax hk12 g1 hv];have hv2:0≤b.cu∨b.bx=0∨b.bx=x.bx:=by
   simp only[dG,hk,if_true] at hv;split at hv
   ·assumption
   ·cases hv
  rcases q1:decide (0≤b.cu) <;>rcases q2:(b.bx==0) <;>rcases q3:(b.bx==x.bx)
  ·simp at q1 q2 q3;omega
  all_goals
   have R:=u8 @hk1 (u8 @hk2 (u8 @hk3 (u8 @hg3 (u8 @he (u8 @q1 (u8 @q2 (u8 @q3 (u8 @pk (u8 @aN (u8 @fA (u8 @bB (u8 @dn (u8 @cA @ab)))))))))))))
   repeat' ((first |(with_reducible refine .guard (fun hb =>?_) (fun hb =>?_) <;>try simp only[hb])|refine J.aI (by decide +kernel) rfl fun K hK =>?_|refine .flat _ (hF1) rfl ?_|(refine .ay [0,1,3,4,5,6,7,8,9,10,22,24,28,62,81,88,89,105,110,121,127,131] hK ?_;clear hK K)|(with_reducible refine .done (hK _ ?_);clear hK K)|refine J.of rfl ?_|(with_reducible refine aq.aH (fun h =>?_) (fun h =>?_) <;>try simp only[h])) <;>try simp only[aK,R,Nat.reduceEqDiff,reduceIte,Nat.reduceBEq])
   all_goals clear R
 ·have hv2:¬ (0≤b.cu∨b.bx=0∨b.bx=x.bx):=by
   simp only[dG,hk,if_true] at hv;split at hv
   ·exact absurd rfl hv
   ·assumption
  have ht:dG b x=some { b with bx:=x.bx } :=by
   simp only[dG,hk,if_true];rw[if_neg hv2]
  rw[sF ae hk12 hi (by rw[g1,hb0]) (b := { b with bx:=x.bx }) (by rw[←hb0];exact ht) (by rw[←hb0])];have q1:decide (0≤b.cu)=false:=by simp;omega
  have q2:(b.bx==0)=false:=gP (by omega);have q3:(b.bx==x.bx)=false:=gP (by omega);have R:=u8 @hk1 (u8 @hk2 (u8 @hk3 (u8 @hg3 (u8 @he (u8 @q1 (u8 @q2 (u8 @q3 (u8 @pk (u8 @r2 (u8 @aN (u8 @fA (u8 @bB (u8 @dn (u8 @cA @ab))))))))))))))
  repeat' ((first |(with_reducible refine .guard (fun hb =>?_) (fun hb =>?_) <;>try simp only[hb])|refine J.aI (by decide +kernel) rfl fun K hK =>?_|refine .flat _ (hF1) rfl ?_|(refine .ay [0,1,3,4,5,6,7,8,9,10,22,24,28,62,81,88,89,105,110,121,127,131] hK ?_;clear hK K)|(with_reducible refine .done (hK _ ?_);clear hK K)|refine J.of rfl ?_|(with_reducible refine aq.aH (fun h =>?_) (fun h =>?_) <;>try simp only[h])) <;>try simp only[aK,R,Nat.reduceEqDiff,reduceIte,Nat.reduceBEq])
  all_goals clear R
  refine bh.sD _ rfl hne rfl (by omega) (by simp only[maxLen];omega) fun mm =>?_;obtain ⟨R,hR⟩:∃ R,R=List.replicate mm (I.agg [.int .i64 0,.int .i64 0,.int .i64 0,.int .i64 0,.int .i64 0,.int .i64 0,.int .i64 0,.bool false,.nils 6]):=⟨_,rfl⟩
  rw[←hR];have hv:∀ fs,jK 138 [] 9 0 bs.length 9 (i:Int) (some fs)=some (.ptr 138 [i]):=fun fs=>by
   have:=oO (m:=138) (sz:=9) (lo:=0) (l:=bs.length) (i:=i) (fs:=fs) hi
   rwa [zz4] at this
  have hat:=sG (R:=R) hi;have hst:=fun (A:af) v u rest=>uR (A:=A) (n:=138) (R:=R) (v:=v) (u:=u) (rest:=rest) hi;have hfv:=fun v:ao=>re (xs:=bs.set i v) (R:=R) (k:=bs.length) (sz:=9) rfl (by simp)
  try simp only[ab,Nat.reduceEqDiff,reduceIte]
  have R:=u8 @hv (u8 @hat (u8 @hst (u8 @hfv (u8 @dn (u8 @aN (u8 @bB (u8 @cA @ab)))))))
  repeat' ((first |(with_reducible refine .guard (fun hb =>?_) (fun hb =>?_) <;>try simp only[hb])|refine J.aI (by decide +kernel) rfl fun K hK =>?_|(refine .ay [0,1,3,4,5,6,7,8,9,10,22,24,28,62,81,88,89,105,110,121,127,131] hK ?_;clear hK K)|(with_reducible refine .done (hK _ ?_);clear hK K)|refine J.of rfl ?_|(with_reducible refine aq.aH (fun h =>?_) (fun h =>?_) <;>try simp only[h])) <;>try simp only[aK,R,Nat.reduceEqDiff,reduceIte,Nat.reduceBEq])
  all_goals clear R
theorem N0(bs:List ao)(x:ar)(hn:bs.length≤99)(ae:(bs.map (·.no)).Nodup)(hk:x.kind=5):aB Tryz.prog 132 [enc bs,enc x] (.tuple [enc (eb bs x).1,enc (eb bs x).2]):=by
 cases hg0:cI bs x.cG with
 |none=>exact sg bs x (by omega) hg0
 |some b0 =>
 refine aB.bu Tryz.func132 pN pP pT (zz0 rfl) (fun hwf W0 D0 E1 =>?_);simp only[oA,o6,bl,zz4];clear hwf;have hk12:¬ (x.kind=1∨x.kind=2):=by omega
 have hk1:(x.kind==1)=false:=gP (by omega);have hk2:(x.kind==2)=false:=gP (by omega);have hF1:=mC bs x.cG;have hg2:decide ((-1:Int)<0)=true:=rfl;have hk3:(x.kind==3)=false:=gP (by omega);have hk4:(x.kind==4)=false:=gP (by omega);have hk5:(x.kind==5)=true:=s8 hk;rcases mQ bs x.cG with ⟨g1,e1⟩ | ⟨i,hi,g1,gno,e1⟩
 ·rw[g1] at hg0;cases hg0
 rw[e1] at hF1;have hg3:decide ((i:Int)<0)=false:=by simp
 have he:=fun A=>eL (A:=A) 9 hi rfl;obtain ⟨b,hb0⟩:∃ b,b=bs[i]:=⟨_,rfl⟩
 have hne:bs≠[]:=fun e=>by rw[e] at hi;simp at hi
 rw[←hb0] at he g1 gno;have ht:dG b x=some { b with bx:=x.bx,found:=true } :=by simp[dG,hk]
 rw[sF ae hk12 hi (by rw[g1,hb0]) (b := { b with bx:=x.bx,found:=true }) (by rw[←hb0];exact ht) (by rw[←hb0])];have R:=u8 @hk1 (u8 @hk2 (u8 @hk3 (u8 @hk4 (u8 @hk5 (u8 @hg3 (u8 @he (u8 @pk (u8 @r2 (u8 @aN (u8 @fA (u8 @bB (u8 @dn (u8 @cA @ab)))))))))))))
 repeat' ((first |(with_reducible refine .guard (fun hb =>?_) (fun hb =>?_) <;>try simp only[hb])|refine J.aI (by decide +kernel) rfl fun K hK =>?_|refine .flat _ (hF1) rfl ?_|(refine .ay [0,1,3,4,5,6,7,8,9,10,22,24,28,62,81,88,89,105,110,121,127,131] hK ?_;clear hK K)|(with_reducible refine .done (hK _ ?_);clear hK K)|refine J.of rfl ?_|(with_reducible refine aq.aH (fun h =>?_) (fun h =>?_) <;>try simp only[h])) <;>try simp only[aK,R,Nat.reduceEqDiff,reduceIte,Nat.reduceBEq])
 all_goals clear R
 refine bh.sD _ rfl hne rfl (by omega) (by simp only[maxLen];omega) fun mm =>?_;obtain ⟨R,hR⟩:∃ R,R=List.replicate mm (I.agg [.int .i64 0,.int .i64 0,.int .i64 0,.int .i64 0,.int .i64 0,.int .i64 0,.int .i64 0,.bool false,.nils 6]):=⟨_,rfl⟩
 rw[←hR];have hv:∀ fs,jK 138 [] 9 0 bs.length 9 (i:Int) (some fs)=some (.ptr 138 [i]):=fun fs=>by
  have:=oO (m:=138) (sz:=9) (lo:=0) (l:=bs.length) (i:=i) (fs:=fs) hi
  rwa [zz4] at this
 have hat:=sG (R:=R) hi;have hst:=fun (A:af) v u rest=>uR (A:=A) (n:=138) (R:=R) (v:=v) (u:=u) (rest:=rest) hi;have hfv:=fun v:ao=>re (xs:=bs.set i v) (R:=R) (k:=bs.length) (sz:=9) rfl (by simp)
 try simp only[ab,Nat.reduceEqDiff,reduceIte]
 have R:=u8 @hv (u8 @hat (u8 @hst (u8 @hfv (u8 @dn (u8 @aN (u8 @bB (u8 @cA @ab)))))))
 repeat' ((first |(with_reducible refine .guard (fun hb =>?_) (fun hb =>?_) <;>try simp only[hb])|refine J.aI (by decide +kernel) rfl fun K hK =>?_|(refine .ay [0,1,3,4,5,6,7,8,9,10,22,24,28,62,81,88,89,105,110,121,127,131] hK ?_;clear hK K)|(with_reducible refine .done (hK _ ?_);clear hK K)|refine J.of rfl ?_|(with_reducible refine aq.aH (fun h =>?_) (fun h =>?_) <;>try simp only[h])) <;>try simp only[aK,R,Nat.reduceEqDiff,reduceIte,Nat.reduceBEq])
 all_goals clear R
theorem N1(bs:List ao)(x:ar)(hn:bs.length≤99)(ae:(bs.map (·.no)).Nodup)(hk:x.kind=6):aB Tryz.prog 132 [enc bs,enc x] (.tuple [enc (eb bs x).1,enc (eb bs x).2]):=by
 cases hg0:cI bs x.cG with
 |none=>exact sg bs x (by omega) hg0
 |some b0 =>
 refine aB.bu Tryz.func132 pN pP pT (zz0 rfl) (fun hwf W0 D0 E1 =>?_);simp only[oA,o6,bl,zz4];clear hwf;have hk12:¬ (x.kind=1∨x.kind=2):=by omega
 have hk1:(x.kind==1)=false:=gP (by omega);have hk2:(x.kind==2)=false:=gP (by omega);have hF1:=mC bs x.cG;have hg2:decide ((-1:Int)<0)=true:=rfl;have hk3:(x.kind==3)=false:=gP (by omega);have hk4:(x.kind==4)=false:=gP (by omega);have hk5:(x.kind==5)=false:=gP (by omega);have hk6:(x.kind==6)=true:=s8 hk;rcases mQ bs x.cG with ⟨g1,e1⟩ | ⟨i,hi,g1,gno,e1⟩
 ·rw[g1] at hg0;cases hg0
 rw[e1] at hF1;have hg3:decide ((i:Int)<0)=false:=by simp
 have he:=fun A=>eL (A:=A) 9 hi rfl;obtain ⟨b,hb0⟩:∃ b,b=bs[i]:=⟨_,rfl⟩
 have hne:bs≠[]:=fun e=>by rw[e] at hi;simp at hi
 rw[←hb0] at he g1 gno;by_cases q:0≤b.cu
 ·have q1:decide (0≤b.cu)=true:=by simp[q]
  rw[Ax hk12 g1 (by simp[dG,hk,q])];have R:=u8 @hk1 (u8 @hk2 (u8 @hk3 (u8 @hk4 (u8 @hk5 (u8 @hk6 (u8 @hg3 (u8 @he (u8 @q1 (u8 @pk (u8 @r2 (u8 @aN (u8 @fA (u8 @bB (u8 @dn (u8 @cA @ab)))))))))))))))
  repeat' ((first |(with_reducible refine .guard (fun hb =>?_) (fun hb =>?_) <;>try simp only[hb])|refine J.aI (by decide +kernel) rfl fun K hK =>?_|refine .flat _ (hF1) rfl ?_|(refine .ay [0,1,3,4,5,6,7,8,9,10,22,24,28,62,81,88,89,105,110,121,127,131] hK ?_;clear hK K)|(with_reducible refine .done (hK _ ?_);clear hK K)|refine J.of rfl ?_|(with_reducible refine aq.aH (fun h =>?_) (fun h =>?_) <;>try simp only[h])) <;>try simp only[aK,R,Nat.reduceEqDiff,reduceIte,Nat.reduceBEq])
  all_goals clear R
 ·have q1:decide (0≤b.cu)=false:=by simp[q]
  have ht:dG b x=some { b with cu:=x.day } :=by simp[dG,hk,q]
  rw[sF ae hk12 hi (by rw[g1,hb0]) (b := { b with cu:=x.day }) (by rw[←hb0];exact ht) (by rw[←hb0])];have R:=u8 @hk1 (u8 @hk2 (u8 @hk3 (u8 @hk4 (u8 @hk5 (u8 @hk6 (u8 @hg3 (u8 @he (u8 @q1 (u8 @pk (u8 @r2 (u8 @aN (u8 @fA (u8 @bB (u8 @dn (u8 @cA @ab)))))))))))))))
  repeat' ((first |(with_reducible refine .guard (fun hb =>?_) (fun hb =>?_) <;>try simp only[hb])|refine J.aI (by decide +kernel) rfl fun K hK =>?_|refine .flat _ (hF1) rfl ?_|(refine .ay [0,1,3,4,5,6,7,8,9,10,22,24,28,62,81,88,89,105,110,121,127,131] hK ?_;clear hK K)|(with_reducible refine .done (hK _ ?_);clear hK K)|refine J.of rfl ?_|(with_reducible refine aq.aH (fun h =>?_) (fun h =>?_) <;>try simp only[h])) <;>try simp only[aK,R,Nat.reduceEqDiff,reduceIte,Nat.reduceBEq])
  all_goals clear R
  refine bh.sD _ rfl hne rfl (by omega) (by simp only[maxLen];omega) fun mm =>?_;obtain ⟨R,hR⟩:∃ R,R=List.replicate mm (I.agg [.int .i64 0,.int .i64 0,.int .i64 0,.int .i64 0,.int .i64 0,.int .i64 0,.int .i64 0,.bool false,.nils 6]):=⟨_,rfl⟩
  rw[←hR];have hv:∀ fs,jK 138 [] 9 0 bs.length 9 (i:Int) (some fs)=some (.ptr 138 [i]):=fun fs=>by
   have:=oO (m:=138) (sz:=9) (lo:=0) (l:=bs.length) (i:=i) (fs:=fs) hi
   rwa [zz4] at this
  have hat:=sG (R:=R) hi;have hst:=fun (A:af) v u rest=>uR (A:=A) (n:=138) (R:=R) (v:=v) (u:=u) (rest:=rest) hi;have hfv:=fun v:ao=>re (xs:=bs.set i v) (R:=R) (k:=bs.length) (sz:=9) rfl (by simp)
  try simp only[ab,Nat.reduceEqDiff,reduceIte]
  have R:=u8 @hv (u8 @hat (u8 @hst (u8 @hfv (u8 @dn (u8 @aN (u8 @bB (u8 @cA @ab)))))))
  repeat' ((first |(with_reducible refine .guard (fun hb =>?_) (fun hb =>?_) <;>try simp only[hb])|refine J.aI (by decide +kernel) rfl fun K hK =>?_|(refine .ay [0,1,3,4,5,6,7,8,9,10,22,24,28,62,81,88,89,105,110,121,127,131] hK ?_;clear hK K)|(with_reducible refine .done (hK _ ?_);clear hK K)|refine J.of rfl ?_|(with_reducible refine aq.aH (fun h =>?_) (fun h =>?_) <;>try simp only[h])) <;>try simp only[aK,R,Nat.reduceEqDiff,reduceIte,Nat.reduceBEq])
  all_goals clear R
theorem NZ(bs:List ao)(x:ar)(hn:bs.length≤99)(ae:(bs.map (·.no)).Nodup)(hk:x.kind=4)(hsn:∀ b∈bs,b.bA.length≤1000):aB Tryz.prog 132 [enc bs,enc x] (.tuple [enc (eb bs x).1,enc (eb bs x).2]):=by
 cases hg0:cI bs x.cG with
 |none=>exact sg bs x (by omega) hg0
 |some b0 =>
 refine aB.bu Tryz.func132 pN pP pT (zz0 rfl) (fun hwf W0 D0 E1 =>?_);simp only[oA,o6,bl,zz4];clear hwf;have hk12:¬ (x.kind=1∨x.kind=2):=by omega
 have hk1:(x.kind==1)=false:=gP (by omega);have hk2:(x.kind==2)=false:=gP (by omega);have hF1:=mC bs x.cG;have hg2:decide ((-1:Int)<0)=true:=rfl;have hk3:(x.kind==3)=false:=gP (by omega);have hk4:(x.kind==4)=true:=s8 hk;rcases mQ bs x.cG with ⟨g1,e1⟩ | ⟨i,hi,g1,gno,e1⟩
 ·rw[g1] at hg0;cases hg0
 rw[e1] at hF1;have hg3:decide ((i:Int)<0)=false:=by simp
 have he:=fun A=>eL (A:=A) 9 hi rfl;obtain ⟨b,hb0⟩:∃ b,b=bs[i]:=⟨_,rfl⟩
 have hne:bs≠[]:=fun e=>by rw[e] at hi;simp at hi
 rw[←hb0] at he g1 gno;have ht:dG b x=some { b with bA:=b.bA++[x.bA] } :=by simp[dG,hk]
 rw[sF ae hk12 hi (by rw[g1,hb0]) (b := { b with bA:=b.bA++[x.bA] }) (by rw[←hb0];exact ht) (by rw[←hb0])];have hbl:b.bA.length≤1000:=hsn b (hb0▸zx6 hi);have R:=u8 @hk1 (u8 @hk2 (u8 @hk3 (u8 @hk4 (u8 @hg3 (u8 @he (u8 @pk (u8 @r2 (u8 @aN (u8 @fA (u8 @bB (u8 @dn (u8 @cA @ab))))))))))))
 repeat' ((first |(with_reducible refine .guard (fun hb =>?_) (fun hb =>?_) <;>try simp only[hb])|refine J.aI (by decide +kernel) rfl fun K hK =>?_|refine .flat _ (hF1) rfl ?_|(refine .ay [0,1,3,4,5,6,7,8,9,10,22,24,28,62,81,88,89,105,110,121,127,131] hK ?_;clear hK K)|(with_reducible refine .done (hK _ ?_);clear hK K)|refine J.of rfl ?_|(with_reducible refine aq.aH (fun h =>?_) (fun h =>?_) <;>try simp only[h])) <;>try simp only[aK,R,Nat.reduceEqDiff,reduceIte,Nat.reduceBEq])
 all_goals clear R
 refine J.oj (au [(0,enc bs),(6,.int .i64 i),(9,.ref (enc ({ b with bA:=b.bA++[x.bA] } : ao)))] []) ?_ (fun B hsub =>?_)
 ·refine J.rT (gs:=wY) [] [(112,[])] [0,1,2,4,5,6,3,7,8,9] (by decide +kernel) (eA.of (by simp[nO,aZ,tL,I.only])) fun K hK =>?_;have hbs6:=pL 6 x.bA rfl
  try simp only[mg,wY,List.getD_cons_zero,List.getD_cons_succ,hbs6,aN,fA,dn,cA,ab,Nat.reduceEqDiff,reduceIte]
  by_cases hs0:b.bA=[]
  ·rw[hs0];rw[Au (α:=bL 6 Int) (esz:=6) _ rfl]
   try simp only[ab,Nat.reduceEqDiff,reduceIte]
   refine cg.ox iv (l:=[x.bA]) rfl (by simp) rfl (by simp) (by simp[maxLen]) fun m =>?_
   try simp only[zB,aN,fA,ab,Nat.reduceEqDiff,reduceIte]
   refine .done (hK _ ?_);clear hK K;exact wM (N:=119) (xs:=b.bA++[x.bA]) (q:=List.replicate m iv) rfl rfl (by rw[hs0];rfl) (by simp[hs0]) rfl rfl (by decide) (by simp[bE,cJ,aj.only,bK])
  ·refine cg.ox iv (l:=b.bA) rfl hs0 rfl (by omega) (by simp only[maxLen];omega) fun m =>?_
   try simp only[ab,Nat.reduceEqDiff,reduceIte]
   cases m with
   |zero =>
    refine cg.vw iv (xs:=b.bA++List.replicate 0 iv) (ys:=[x.bA]) rfl (by simp) rfl (by simp) (by simp) rfl (by simp;omega) (by simp[maxLen];omega) fun q =>?_;have e1:(b.bA++List.replicate 0 iv).take b.bA.length++([x.bA]++List.replicate q iv)=(b.bA++[x.bA])++List.replicate q iv:=by simp
    rw[e1]
    try simp only[zB,aN,fA,ab,Nat.reduceEqDiff,reduceIte]
    refine .done (hK _ ?_);clear hK K;exact wM (N:=119) (xs:=b.bA++[x.bA]) (q:=List.replicate q iv) rfl rfl rfl (by simp) rfl rfl (by decide) (by simp only[cJ,zw1,zv5];simp[bE,aj.only,I.only,bK,eI])
   |succ m =>
    have e1:(b.bA++List.replicate (m+1) iv).take b.bA.length++([x.bA]++(b.bA++List.replicate (m+1) iv).drop (b.bA.length+[x.bA].length))=(b.bA++[x.bA])++List.replicate m iv:=by
     simp[List.drop_append]
    rw[vy (esz:=6) (xs:=b.bA++List.replicate (m+1) iv) (ys:=[x.bA]) _ rfl (by simp) rfl (by simp)];rw[e1]
    try simp only[zB,aN,fA,ab,Nat.reduceEqDiff,reduceIte]
    refine .done (hK _ ?_);clear hK K;exact wM (N:=115) (xs:=b.bA++[x.bA]) (q:=List.replicate m iv) rfl rfl rfl (by simp) rfl rfl (by decide) (by simp only[cJ,zw1,zv5];simp[bE,aj.only,bK])
 ·simp only[aG,cj];refine J.sub hsub ?_;have R:=u8 @aN (u8 @fA (u8 @bB (u8 @dn (u8 @cA @ab))))
  repeat' ((first |(with_reducible refine .guard (fun hb =>?_) (fun hb =>?_) <;>try simp only[hb])|refine J.aI (by decide +kernel) rfl fun K hK =>?_|(refine .ay [0,1,3,4,5,6,7,8,9,10,22,24,28,62,81,88,89,105,110,121,127,131] hK ?_;clear hK K)|(with_reducible refine .done (hK _ ?_);clear hK K)|refine J.of rfl ?_|(with_reducible refine aq.aH (fun h =>?_) (fun h =>?_) <;>try simp only[h])) <;>try simp only[aK,R,Nat.reduceEqDiff,reduceIte])
  all_goals clear R
  refine bh.sD _ rfl hne rfl (by omega) (by simp only[maxLen];omega) fun mm =>?_;obtain ⟨R,hR⟩:∃ R,R=List.replicate mm (I.agg [.int .i64 0,.int .i64 0,.int .i64 0,.int .i64 0,.int .i64 0,.int .i64 0,.int .i64 0,.bool false,.nils 6]):=⟨_,rfl⟩
  rw[←hR];have hv:∀ fs,jK 138 [] 9 0 bs.length 9 (i:Int) (some fs)=some (.ptr 138 [i]):=fun fs=>by
   have:=oO (m:=138) (sz:=9) (lo:=0) (l:=bs.length) (i:=i) (fs:=fs) hi
   rwa [zz4] at this
  have hat:=sG (R:=R) hi;have hst:=fun (A:af) v u rest=>uR (A:=A) (n:=138) (R:=R) (v:=v) (u:=u) (rest:=rest) hi;have hfv:=fun v:ao=>re (xs:=bs.set i v) (R:=R) (k:=bs.length) (sz:=9) rfl (by simp)
  try simp only[ab,Nat.reduceEqDiff,reduceIte]
  have R:=u8 @hv (u8 @hat (u8 @hst (u8 @hfv (u8 @dn (u8 @aN (u8 @bB (u8 @cA @ab)))))))
  repeat' ((first |(with_reducible refine .guard (fun hb =>?_) (fun hb =>?_) <;>try simp only[hb])|refine J.aI (by decide +kernel) rfl fun K hK =>?_|(refine .ay [0,1,3,4,5,6,7,8,9,10,22,24,28,62,81,88,89,105,110,121,127,131] hK ?_;clear hK K)|(with_reducible refine .done (hK _ ?_);clear hK K)|refine J.of rfl ?_|(with_reducible refine aq.aH (fun h =>?_) (fun h =>?_) <;>try simp only[h])) <;>try simp only[aK,R,Nat.reduceEqDiff,reduceIte,Nat.reduceBEq])
  all_goals clear R
theorem NW(bs:List ao)(x:ar)(hn:bs.length≤99)(ae:(bs.map (·.no)).Nodup)(hsn:∀ b∈bs,b.bA.length≤1000)(hok:fU x=true)(hk:x.kind≠0):aB Tryz.prog 132 [enc bs,enc x] (.tuple [enc (eb bs x).1,enc (eb bs x).2]):=by
 obtain ⟨h1,h2,h3⟩:=Ji hok;have hdam:0≤x.cm:=by
  simp only[fU,zz3,decide_eq_true_eq] at hok;obtain ⟨q1,q2,_⟩:=hok;by_cases e:x.kind=1
  ·simp only[j7,e,bP] at q1;simp at q1;omega
  ·have:x.cm=(kU x).cm:=by rw[←q2]
   rw[this];simp[kU,e]
 by_cases e12:x.kind=1∨x.kind=2
 ·exact NX bs x hn e12 hdam
 by_cases e3:x.kind=3
 ·exact NY bs x hn ae e3
 by_cases e4:x.kind=4
 ·exact NZ bs x hn ae e4 hsn
 by_cases e5:x.kind=5
 ·exact N0 bs x hn ae e5
 ·exact N1 bs x hn ae (by omega)
def mz(known:Int)(m:List ar)(a:Item)(j:Nat):Bool:=(eS known m).1.getD j false&&(decide ((ah m j).kind=0)&&decide ((ah m j).hd=a))
theorem IQ(known:Int)(a:Item):∀ m:List ar,(eS known m).2.contains a=(List.range m.length).any (mz known m a)
 | []=>rfl
 |x::m=>by
  have ih:=IQ known a m;have e:∀ j,mz known (x::m) a (j+1)=mz known m a j:=fun j=>by simp[mz,eS,ah]
  have e0:mz known (x::m) a 0=((decide (x.known≤known) && !(eS known m).2.contains x.dp)&&(decide (x.kind=0)&&decide (x.hd=a))):=by simp[mz,eS,ah]
  rw[zv9,List.range_succ_eq_map,List.any_cons,List.any_map];have e2:(mz known (x::m) a∘Nat.succ)=mz known m a:=funext e;rw[e2,←ih,e0];simp only[eS];generalize (decide (x.known≤known) && !(eS known m).2.contains x.dp)=b;cases b <;>by_cases hk:x.kind=0
  ·simp
  ·simp
  ·simp only[hk,decide_true,Bool.and_true,if_true,List.contains_cons,Bool.true_and]
   congr 1
   by_cases h:x.hd=a
   ·simp[h]
   ·have h2:¬ a=x.hd:=fun e=>h e.symm;simp[h,h2]
  ·simp[hk]
def nv(known:Int)(l:List ar)(n t:Nat):Bool:=decide ((ah l (n-1)).known≤known) && !(List.range t).any (mz known (l.drop n) (ah l (n-1)).dp)
def jv(known:Int)(l:List ar)(n:Nat)(b:Bool):List Bool:=List.replicate (n-1) false++b::(eS known (l.drop n)).1
theorem zd{known:Int}{l:List ar}{n:Nat}{b:Bool}(h:n≤l.length)(h0:0<n):(jv known l n b).length=l.length:=by
 simp only[jv,zz7,List.length_replicate,zv9,r3,zy9];omega
theorem ald{known:Int}{l:List ar}{n:Nat}{b v:Bool} : (jv known l n b).set (n-1) v=jv known l n v:=by
 simp only[jv];rw[List.set_append_right _ _ (by simp)];simp
theorem alc{known:Int}{l:List ar}{n t:Nat}{b:Bool}(h0:0<n):(jv known l n b).getD (n+t) false=(eS known (l.drop n)).1.getD t false:=by
 simp only[jv,zz2];rw[zw0 (by simp;omega)];simp only[List.length_replicate];rw[show n+t-(n-1)=t+1 by omega,List.getElem?_cons_succ]
theorem alM{known:Int}{l:List ar}{n:Nat}(h:n≤l.length)(h0:0<n):jv known l n (nv known l n (l.length-n))=List.replicate (n-1) false++(eS known (l.drop (n-1))).1:=by
 have hil:n-1<l.length:=by omega
 have ae:l.drop (n-1)=ah l (n-1)::l.drop n:=by
  rw[zv3 hil,lU hil,show n-1+1=n by omega]
 rw[ae];simp only[jv,eS,nv,IQ,zy9]
theorem XN(l:List ar)(n t:Nat):ah (l.drop n) t=ah l (n+t):=by simp[ah,zz2]
theorem Qd(known:Int)(l:List ar)(n t:Nat):nv known l n (t+1)=(nv known l n t && !((eS known (l.drop n)).1.getD t false&&(decide ((ah l (n+t)).kind=0)&&decide ((ah l (n+t)).hd=(ah l (n-1)).dp)))):=by
 simp only[nv,List.range_succ,List.any_append,List.any_cons,List.any_nil,Bool.or_false,mz,XN,Bool.not_or,Bool.and_assoc]
theorem Jf{m l:Nat}{fs:List I}{i:Nat}(h:i<l):jK m [] 1 0 l 1 (i:Int) (some fs)=some (.ptr m [i]):=by
 have:=oO (m:=m) (sz:=1) (lo:=0) (l:=l) (i:=i) (fs:=fs) h
 rwa [zz4] at this
theorem NN(l:List ar)(known:Int)(hl:l.length≤60):aB Tryz.prog 106 [enc l,enc known] (enc (gE l known)):=by
 refine aB.bu Tryz.func106 Qt Sj Uu (zz0 rfl) (fun hwf W0 D0 E1 =>?_);simp only[AQ,Ku,bl,zz4];clear hwf;refine .az (by decide +kernel) fun K hK =>?_;simp only[Eo,ab];refine .done (hK _ ?_);clear hK K;refine .az (by decide +kernel) fun K hK =>?_;simp only[Ep,ab,Nat.reduceEqDiff,reduceIte]
 try simp only[dT,bB,ab,Nat.reduceEqDiff,reduceIte]
 rw[JG (by omega) (by simp[maxLen];omega)]
 try simp only[ab,Nat.reduceEqDiff,reduceIte]
 refine .done (hK _ ?_);clear hK K;have hw0:IntKind.i64.wrap ((l.length:Int)-1)=(l.length:Int)-1:=dI _ (by omega) (by omega);refine J.seq (J.seq ?_);refine .b6 (by decide +kernel) fun K hK =>?_;simp only[Er,ab,Nat.reduceEqDiff,reduceIte]
 try simp only[bB,hw0,ab,Nat.reduceEqDiff,reduceIte]
 refine .done (hK _ ?_);clear hK K;try simp only[aG]
 refine J.block (J.loop (fun n:Nat=>au [(0,enc l),(1,.int .i64 known),(5,.view 10 [] 1 0 l.length),(6,.int .i64 ((n:Int)-1))] [(10,.box (.agg ((List.replicate n false++(eS known (l.drop n)).1).map enc)))]) (fun n=>n≤l.length) (fun n=>n) l.length (zz8 _) ?_ (fun n hn =>?_))
 ·simp only[List.drop_length,eS,zx5,List.map_replicate];refine aF.cq ?_ ?_ ?_ ?_ <;>simp[aY,b7,bY,bE,av,aZ,ak,I.only,bK,aj.only,rJ,wm]
 by_cases h0:n=0
 ·subst h0;have hc:decide ((0:Int)≤((0:Nat):Int)-1)=false:=by decide
  have hf:∀ R:List Bool,R.length=l.length→kA 1 0 l.length (some (R.map enc))=some (enc R):=fun R hR=>by
   have:=re (xs:=R) (R:=[]) (sz:=1) (k:=l.length) rfl hR.symm
   rwa [zx5] at this
  have hf2:=hf (eS known l).1 (r3 known l);simp only[List.replicate_zero,zy7,List.drop_zero];have R:=u8 @hc (u8 @hf2 (u8 @dn (u8 @bB (u8 @aN @ab))))
  repeat' ((first |(with_reducible refine .guard (fun hb =>?_) (fun hb =>?_) <;>try simp only[hb])|refine J.aI (by decide +kernel) rfl fun K hK =>?_|(refine .ay [0,1,4,5,6,7,15,33,60] hK ?_;clear hK K)|(with_reducible refine .done (hK _ ?_);clear hK K)|refine J.of rfl ?_|(with_reducible refine aq.aH (fun h =>?_) (fun h =>?_) <;>try simp only[h])) <;>try simp only[aK,R,Nat.reduceEqDiff,reduceIte,Nat.reduceBEq])
  all_goals clear R
  rfl
 obtain ⟨i,hi⟩:∃ i,i=n-1:=⟨_,rfl⟩
 have hni:(n:Int)-1=(i:Int):=by omega
 have hil:i<l.length:=by omega
 have hc:decide ((0:Int)≤(i:Int))=true:=by simp
 have he:=fun A=>jh (A:=A) hil;have hv:=fun fs=>Jf (m:=10) (fs:=fs) hil;have hRn:List.replicate n false++(eS known (l.drop n)).1=jv known l n false:=by
  simp only[jv];rw[show n=(n-1)+1 by omega,List.replicate_succ'];simp
 have hset:=fun b (A:af) v u rest=>M9 (A:=A) (n:=10) (i:=i) (xs:=jv known l n b) (by rw[zd hn (by omega)];exact hil) v u rest;have hat:=fun b=>sH (xs:=jv known l n b) (i:=i) (by rw[zd hn (by omega)];exact hil);have hs2:=fun b v=>ald (known:=known) (l:=l) (n:=n) (b:=b) (v:=v);rw[←hi] at hs2;have hw1:=fc (i:=i) (by omega);have hi1:i+1=n:=by omega
 rw[hi1] at hw1;simp only[hRn,hni];have R:=u8 @hc (u8 @he (u8 @hv (u8 @hset (u8 @hat (u8 @hs2 (u8 @hw1 (u8 @dn (u8 @bB (u8 @aN (u8 @nT @ab))))))))))
 repeat' ((first |(with_reducible refine .guard (fun hb =>?_) (fun hb =>?_) <;>try simp only[hb])|refine J.aI (by decide +kernel) rfl fun K hK =>?_|(refine .ay [0,1,4,5,6,7,15,33,60] hK ?_;clear hK K)|(with_reducible refine .done (hK _ ?_);clear hK K)|refine J.of rfl ?_|(with_reducible refine aq.aH (fun h =>?_) (fun h =>?_) <;>try simp only[h])) <;>try simp only[aK,R,decide_true,Nat.reduceEqDiff,reduceIte,Nat.reduceBEq])
 all_goals clear R
 refine J.loop (fun t:Nat=>au [(0,enc l),(1,.int .i64 known),(5,.view 10 [] 1 0 l.length),(6,.int .i64 i),(7,.int .i64 ((n+t:Nat):Int))] [(10,.box (.agg ((jv known l n (nv known l n t)).map enc)))]) (fun t=>n+t≤l.length) (fun t=>l.length-n-t) 0 hn ?_ (fun t ht =>?_)
 ·have hb0:nv known l n 0=decide ((ah l i).known≤known):=by simp[nv,hi]
  rw[hb0];refine aF.cK ?_ (fun m =>?_)
  ·simp[aY,aZ]
  ·simp only[ak];split <;>rfl
 by_cases hlt:n+t<l.length
 ·have hc2:=fT hlt;have he2:=fun A=>jh (A:=A) hlt;have hv2:=fun fs=>Jf (m:=10) (fs:=fs) hlt;have hat2:=fun b=>sH (xs:=jv known l n b) (i:=n+t) (by rw[zd hn (by omega)];exact hlt);have hget:=fun b=>alc (known:=known) (l:=l) (n:=n) (t:=t) (b:=b) (by omega);have hw2:=fc (i:=n+t) (by omega);have hbs:=Qd known l n t;rw[←hi] at hbs;rcases q1:(eS known (l.drop n)).1.getD t false <;>rcases q2:(ah l (n+t)).kind==0 <;>rcases q3:decide ((ah l (n+t)).hd=(ah l i).dp)
  all_goals
   have q2':=q2;rw[show ((ah l (n+t)).kind==0)=decide ((ah l (n+t)).kind=0) from rfl] at q2';simp only[q1,q2',q3,Bool.and_true,Bool.and_false,Bool.not_true,Bool.not_false] at hbs;have R:=u8 @hc2 (u8 @he (u8 @he2 (u8 @hv (u8 @hv2 (u8 @hset (u8 @hat (u8 @hat2 (u8 @hget (u8 @hs2 (u8 @hw2 (u8 @q1 (u8 @q2 (u8 @q3 (u8 @dn (u8 @bB (u8 @aN (u8 @nT @ab)))))))))))))))))
   repeat' ((first |(with_reducible refine .guard (fun hb =>?_) (fun hb =>?_) <;>try simp only[hb])|refine J.aI (by decide +kernel) rfl fun K hK =>?_|(refine .ay [0,1,4,5,6,7,15,33,60] hK ?_;clear hK K)|(with_reducible refine .done (hK _ ?_);clear hK K)|refine J.of rfl ?_|(with_reducible refine aq.aH (fun h =>?_) (fun h =>?_) <;>try simp only[h])) <;>try simp only[aK,R,Nat.reduceEqDiff,reduceIte,Nat.reduceBEq])
   all_goals clear R
   refine ⟨t+1,by omega,by omega,?_⟩;rw[hbs];refine aF.cK ?_ (fun m =>?_)
   ·simp[aY,aZ] <;>omega
   ·first | rfl | (simp only[ak];split <;>rfl)
 ·have hc2:=ga hlt;have hw3:IntKind.i64.wrap ((i:Int)-1)=(i:Int)-1:=dI _ (by omega) (by omega);have htn:t=l.length-n:=by omega
  have hsn:=alM (known:=known) hn (by omega);rw[←htn,←hi] at hsn;rw[hsn];have R:=u8 @hc2 (u8 @hw3 (u8 @dn (u8 @bB (u8 @aN @ab))))
  repeat' ((first |(with_reducible refine .guard (fun hb =>?_) (fun hb =>?_) <;>try simp only[hb])|refine J.aI (by decide +kernel) rfl fun K hK =>?_|(refine .ay [0,1,4,5,6,7,15,33,60] hK ?_;clear hK K)|(with_reducible refine .done (hK _ ?_);clear hK K)|refine J.of rfl ?_|(with_reducible refine aq.aH (fun h =>?_) (fun h =>?_) <;>try simp only[h])) <;>try simp only[aK,R,Nat.reduceEqDiff,reduceIte,Nat.reduceBEq])
  all_goals clear R
  refine ⟨i,by omega,by omega,?_⟩;refine aF.cK ?_ (fun m=>rfl);simp[aY,aZ]
theorem alo{α:Type}[Enc α]{A:af}(esz:Nat){l:List α}{i:Nat}(h:i≤l.length)(hs:Enc.sz α=esz):ng A esz (some (.int .i64 i)) none none (enc l)=some (enc (l.drop i)):=by
 simp only[ng,gi,hs,if_true,jV,ig,zy3];rw[if_pos ⟨by omega,by omega,by omega,by omega⟩];simp[zw8]
def oD(l:List ar)(day known:Int)(i:Nat):Bool:=(gE l known).getD i false&&nP l day i
def ke(l:List ar)(day known:Int)(n:Nat):List Nat:=qu (fun i=>(ah l i).day) ((List.range n).filter (oD l day known))
theorem akj(l:List ar)(day known:Int):ke l day known l.length=fH l day known:=by
 simp only[ke,fH,iZ,gF,List.filter_filter]
 congr 1
 refine List.filter_congr fun i _ =>?_;simp only[oD,nP,Bool.and_comm]
theorem akl(l:List ar)(day known:Int)(n:Nat):ke l day known (n+1)=if oD l day known n then fJ (fun i=>(ah l i).day) n (ke l day known n) else ke l day known n:=by
 simp only[ke,qu,List.range_succ,List.filter_append,List.foldl_append,zw1,zv5];split <;>rfl
theorem akk(l:List ar)(day known:Int)(n:Nat):(ke l day known n).Pairwise (ln fun i=>(ah l i).day)∧(∀ x∈ke l day known n,x<n)∧(ke l day known n).length≤n:=by
 have h:=rL (fun i=>(ah l i).day) ((List.range n).filter (oD l day known)) [] (by simp) (List.Pairwise.filter _ List.pairwise_lt_range) (by simp);refine ⟨h.2,fun x hx =>?_,?_⟩
 ·have:=h.1.mem_iff.1 hx;simp only[zy7,zw4,zw7] at this;exact this.1
 ·have:=h.1.length_eq;simp only[ke,qu];rw[this];have:=zv8 (oD l day known) (List.range n);simpa using this
theorem ahR{key:Nat→Int}{i k:Nat}{o:List Nat}(h1:∀ x∈o.take k,key x≤key i)(h2:∀ x∈o.drop k,key i<key x):fJ key i o=o.take k++i::o.drop k:=by
 have key':∀ (a b:List Nat),(∀ x∈a,key x≤key i)→(∀ x∈b,key i<key x)→fJ key i (a++b)=a++i::b:=by
  intro a b ha hb
  induction a with
  |nil =>
   cases b with
   |nil=>simp[fJ]
   |cons y b =>
    have:=hb y (by simp);simp[fJ,show ¬ key y≤key i by omega]
  |cons y a ih =>
   have hy:=ha y (by simp);have e:∀ m:List Nat,fJ key i (y::m)=y::fJ key i m:=fun m=>by simp[fJ,hy]
   rw[zy1,e,ih fun x hx=>ha x (by simp[hx])];rfl
 have:=key' (o.take k) (o.drop k) h1 h2
 rwa [zx1] at this
theorem wL{ts:List (Nat×I)}{os:List (Nat×aj)}{N k:Nat}{xs q:List Int}{l:List ar}{day:Int}{br:List Bool}{i:Nat}{Z:I}(h8:Abs.bO ts 8=.view N [] 1 0 k)(hoN:ak os N=some (.box (.agg ((xs++q).map enc))))(hk:k=xs.length)(hN:N=74∨N=77∨N=81)
  (h0:Abs.bO ts 0=enc l) (h2:Abs.bO ts 2=.int .i64 day) (h6:Abs.bO ts 6=.ptr 6 []) (h7:Abs.bO ts 7=enc br) (h9:Abs.bO ts 9=.int .i64 i) (ho6:ak os 6=some (.box Z)) (hZ:Z.bj=true∨Z=.agg [.nils 9,.nils 1])
  (ho:bE (fun n => ![74,77,81].contains n) (cJ [74,77,81] os)):aF (au ts os) (au [(0,enc l),(2,.int .i64 day),(6,.ptr 6 []),(7,enc br),(8,enc xs),(9,.int .i64 i)] [(6,.box Z)]):=by
 have hkN:ak (fR [74,77,81] os) N=some (.box (.agg ((xs++q).map enc))):=by rw[ma];rcases hN with rfl | rfl | rfl <;>simpa using hoN
 have hf:a6 true (au ts (fR [74,77,81] os)) (.view N [] 1 0 k)=some (enc xs):=by
  rw[DL];simp only[au,hkN,ft,fG,mG,I.dv];exact wI hk.symm
 refine (aF.gN [74,77,81] 8 h8 hf ho).trans (aF.cq ?_ ?_ ?_ ?_)
 ·have hfg:∀ t,Abs.bO (fF [74,77,81] ts) t=if (Abs.bO ts t).only (fun j => ![74,77,81].contains j)=true then Abs.bO ts t else .de:=DC _ ts
  simp[aY,aZ,hfg,h0,h2,h6,h7,h9,bK,I.only]
 ·simp[b7,mS,ho6]
 ·simp[bY,bK,I.only,av,ak]
 ·rcases hZ with hZ | rfl
  ·exact ⟨kc _ _ hZ,trivial⟩
  ·exact ⟨rfl,trivial⟩
abbrev qM(l:List ar)(day:Int)(br:List Bool)(xs:List Int)(i:Nat)(Z:I):af:=au [(0,enc l),(2,.int .i64 day),(6,.ptr 6 []),(7,enc br),(8,enc xs),(9,.int .i64 i)] [(6,.box Z)]
theorem zF{K:af→Prop}{ts:List (Nat×I)}{os:List (Nat×aj)}{N k:Nat}{xs q A2:List Int}{l:List ar}{day:Int}{br:List Bool}{i:Nat}{Z:I}(h77:Abs.bO ts 77=.view N [] 1 0 k)(hk:k=xs.length)(hoN:ak os N=some (.box (.agg ((xs++q).map enc))))(h80:Abs.bO ts 80=enc A2)(h81:ak os 81=none)(hN:N=74∨N=77)(hb:xs.length+A2.length≤100)
  (h0:Abs.bO ts 0=enc l) (h2:Abs.bO ts 2=.int .i64 day) (h6:Abs.bO ts 6=.ptr 6 []) (h7:Abs.bO ts 7=enc br) (h9:Abs.bO ts 9=.int .i64 i) (ho6:ak os 6=some (.box Z)) (hZ:Z.bj=true∨Z=.agg [.nils 9,.nils 1])
  (ho:bE (fun n => ![74,77,81].contains n) (cJ [74,77,81] os)) (hK:∀ B,Abs.aF B (qM l day br (xs++A2) i Z)→K B) :
  cg Tryz.prog [] K (aA [⟨some 81,.c7 3 1 8 (.int .i64 0) (.t 77) (.t 80),none⟩,⟨some 8,.mv (.t 81),none⟩] (au ts os)):=by
 subst hk;have hdr:∀ (m:Nat) (y:aj),[74,77,81].contains m=true→cJ [74,77,81] ((m,y)::os)=cJ [74,77,81] os:=fun m y hm=>by
  simp only[cJ,zw1,hm,Bool.not_true,zz6,if_false]
 have hNc:[74,77,81].contains N=true:=by rcases hN with rfl | rfl <;>rfl
 try simp only[h77,h80,ab]
 by_cases hA:A2=[]
 ·subst hA;rw[Av (esz:=1) (xs:=xs++q) _ _ (qC _ 1 ([]:List Int) rfl) hoN (by simp)]
  try simp only[ab,reduceIte]
  refine .done (hK _ ?_);rw[zx5];exact wL (N:=N) (q:=q) rfl hoN rfl (by omega) h0 h2 h6 h7 h9 ho6 hZ ho
 ·by_cases hr:A2.length≤q.length
  ·have e1:(xs++q).take xs.length++(A2++(xs++q).drop (xs.length+A2.length))=(xs++A2)++q.drop A2.length:=by
    simp[List.drop_append]
   rw[vy (esz:=1) (xs:=xs++q) (ys:=A2) _ rfl hA hoN (by simp;omega)];rw[e1]
   try simp only[ab,reduceIte]
   refine .done (hK _ ?_);refine wL (N:=N) (xs:=xs++A2) (q:=q.drop A2.length) rfl (by simp[ak]) (by simp) (by omega) h0 h2 h6 h7 h9 ?_ hZ (by rw[hdr _ _ hNc];exact ho);simp only[ak];rw[if_neg (by omega)];exact ho6
  ·refine cg.vw (0:Int) (xs:=xs++q) (ys:=A2) rfl hA hoN (by simp) (by simp;omega) h81 (by omega) (by simp[maxLen];omega) fun qq =>?_;have e1:(xs++q).take xs.length++(A2++List.replicate qq 0)=(xs++A2)++List.replicate qq 0:=by simp
   rw[e1]
   try simp only[ab,reduceIte]
   refine .done (hK _ ?_);refine wL (N:=81) (xs:=xs++A2) (q:=List.replicate qq 0) rfl (by simp[ak]) (by simp) (by omega) h0 h2 h6 h7 h9 ?_ hZ (by rw[hdr _ _ rfl];exact ho);simp only[ak];rw[if_neg (by omega)];exact ho6
theorem Ml{c:cO}(hP:c.P=Tryz.prog){l:List ar}{day:Int}{br:List Bool}{xs:List Int}{i k:Nat}{Z:I}(hk:k≤xs.length)(hb:xs.length≤60)(hZ:Z.bj=true∨Z=.agg [.nils 9,.nils 1]) :
  J c (.bW C8 tn) (aG (fun B=>Abs.aF B (qM l day br (xs.take k++(i:Int)::xs.drop k) i Z)) fun _ _=>False) (au [(0,enc l),(2,.int .i64 day),(6,.ptr 6 []),(7,enc br),(8,enc xs),(9,.int .i64 i),(10,.int .i64 k)] [(6,.box Z)]):=by
 refine J.akO (gs:=tn) [] [(70,[]),(8,[]),(78,[])] [0,1,2,3,5,6,8,9,10,4,7,11,12] (by decide +kernel) (eA.of (by simp[nO,aZ,tL,I.only,bK])) fun K hK =>?_;rw[hP];have htl:(xs.take k).length=k:=by rw[zy8];omega
 have hdl:(xs.drop k).length=xs.length-k:=zy9
 try simp only[mg,tn,List.getD_cons_zero,List.getD_cons_succ,zr 1 hk rfl,alo 1 hk rfl,Option.map_none,zy5,lL,dn,ab,Nat.reduceEqDiff,reduceIte]
 have hK':∀ B,Abs.aF B (qM l day br ((xs.take k++[(i:Int)])++xs.drop k) i Z)→K B:=fun B h=>hK B (by simp only[aG];simpa using h);by_cases hA:xs.take k=[]
 ·rw[hA];rw[Au (α:=Int) (esz:=1) _ rfl]
  try simp only[ab,Nat.reduceEqDiff,reduceIte]
  refine cg.ox (0:Int) (l:=[(i:Int)]) rfl (by simp) rfl (by simp) (by simp[maxLen]) fun m =>?_;simp only[mb,tS];refine zF (N:=77) (xs:=xs.take k++[(i:Int)]) (q:=List.replicate m 0) (A2:=xs.drop k) rfl (by simp[hA]) (by rw[hA];rfl) rfl rfl (.inr rfl) (by simp;omega) rfl rfl rfl rfl rfl rfl hZ ?_ hK';rcases hZ with hZ | rfl
  ·exact ⟨kc _ _ hZ,trivial⟩
  ·exact ⟨rfl,trivial⟩
 ·refine cg.ox (0:Int) (l:=xs.take k) rfl hA rfl (by omega) (by simp only[maxLen];omega) fun m =>?_
  try simp only[ab,Nat.reduceEqDiff,reduceIte]
  cases m with
  |zero =>
   refine cg.vw (0:Int) (xs:=xs.take k++List.replicate 0 0) (ys:=[(i:Int)]) rfl (by simp) rfl (by simp) (by simp) rfl (by simp;omega) (by simp[maxLen];omega) fun q =>?_;have e1:∀ A1:List Int,(A1++List.replicate 0 0).take A1.length++([(i:Int)]++List.replicate q 0)=(A1++[(i:Int)])++List.replicate q 0:=fun A1=>by simp
   rw[e1];simp only[mb,tS];refine zF (N:=77) (xs:=xs.take k++[(i:Int)]) (q:=List.replicate q 0) (A2:=xs.drop k) rfl (by simp) rfl rfl rfl (.inr rfl) (by simp;omega) rfl rfl rfl rfl rfl rfl hZ ?_ hK';rcases hZ with hZ | rfl
   ·exact ⟨kc _ _ hZ,trivial⟩
   ·exact ⟨rfl,trivial⟩
  |succ m =>
   have e1:∀ A1:List Int,(A1++List.replicate (m+1) 0).take A1.length++([(i:Int)]++(A1++List.replicate (m+1) 0).drop (A1.length+[(i:Int)].length))=(A1++[(i:Int)])++List.replicate m 0:=fun A1=>by
    simp[List.drop_append]
   rw[vy (esz:=1) (xs:=xs.take k++List.replicate (m+1) 0) (ys:=[(i:Int)]) _ rfl (by simp) rfl (by simp)];rw[e1];simp only[mb,tS];refine zF (N:=74) (xs:=xs.take k++[(i:Int)]) (q:=List.replicate m 0) (A2:=xs.drop k) rfl (by simp) rfl rfl rfl (.inl rfl) (by simp;omega) rfl rfl rfl rfl rfl rfl hZ ?_ hK';rcases hZ with hZ | rfl
   ·exact ⟨kc _ _ hZ,trivial⟩
   ·exact ⟨rfl,trivial⟩
structure lH where
 jY:List ao
 Ny:List Int
instance:Enc lH where
 enc x:=.agg [enc x.jY,enc x.Ny]
 sz:=2
 aS:=.ej [.one,.one]
 fP:=true
 done x:=by simp only[I.done,I.eP,Enc.done,zw3]
 size x:=by simp only[I.size,I.sizes,ja,qW]
 jU x:=by simp only[I.aS,I.cU,eQ];rfl
 agg _:=rfl
def kK(l:List ar)(day known:Int):lH:=⟨(iM eO l (fH l day known)).1,ir (cw (iM eO l (fH l day known)).2)⟩
theorem aF.ai1{ts:List (Nat×I)}{os:List (Nat×aj)}(m z:Nat)(p:List Nat)(b:I)(hm:ak os m=some (.box b))(hp:b.at p=some (.nils z)):aF (au ts os) (au ts ((m,.box (b.dM p (.slice z [])))::os)):=by
 rintro c a w ⟨D,E,h⟩;refine ⟨D,E,h.sz,h.eT,h.ef,h.dQ,h.da,h.dm,fun k =>?_,h.c4,h.dV,h.eZ,h.cN,h.fe,h.fI⟩;have ho:=h.bT k;simp only[au,ak] at ho ⊢;split
 ·rename_i hk;subst hk;rw[hm] at ho;obtain ⟨b',cs,T',h1,h2,h3,h4,h5⟩:=ho;obtain ⟨q1,q2⟩:=yY (y:=.slice z []) h4 hp (fun bC ae=>by
   simp only[ai] at ae;subst ae;refine ⟨none,0,rfl,zz8 _,zv1 _,.inl rfl,by simp⟩) rfl
  exact ⟨b',cs,T',by rw[q2];exact h1,h2,h3,q1,h5⟩
 ·exact ho
def jt(l:List ar)(o:List Nat)(i:Nat):List ao×List Nat:=(o.take i).foldl (gG eO l) ([],[])
theorem akv{l:List ar}{o:List Nat}{i:Nat}(h:i<o.length):jt l o (i+1)=gG eO l (jt l o i) o[i]:=by
 simp only[jt];rw[zy2 h,List.foldl_append];rfl
theorem akt(l:List ar)(o:List Nat):jt l o o.length=iM eO l o:=by simp only[jt,List.take_length];rfl
theorem aku(l:List ar)(o:List Nat)(i:Nat)(hi:i≤o.length):((jt l o i).1.map (·.no)).Nodup∧(jt l o i).1.length≤i∧(∀ b∈(jt l o i).1,b.bA.length≤i)∧(jt l o i).2.length≤i:=by
 obtain ⟨h1,h2,h3,h4⟩:=uo l o i hi;have hr:pA (fB l o i) (jt l o i):=wK qN sA l (o.take i) ⟨.nil,.nil,rfl⟩;obtain ⟨k1,k2,k3⟩:=hr;refine ⟨(k1.map _).nodup_iff.1 k2,by rw[←k1.length_eq];exact h2,fun b hb=>h3 b (k1.mem_iff.2 hb),by rw[←k3];exact h4⟩
theorem alQ(l:List ar)(s:List ao×List Nat)(i:Nat):gG eO l s i=((eb s.1 (ah l i)).1,if (eb s.1 (ah l i)).2 then s.2 else s.2++[i]):=by
 have key:∀ (b:List ao) (v:List Nat) (r:Option (List ao)),(match r with | some bs=>(bs,v) | none=>(b,v++[i]))=((match r with | some bs'=>(bs',true) | none=>(b,false)).1,if (match r with | some bs'=>(bs',true) | none=>(b,false)).2=true then v else v++[i]):=fun b v r=>by cases r <;>rfl
 exact key s.1 s.2 (cX eO s.1 (ah l i))
theorem akx(l:List ar)(day known:Int):kK l day known=⟨(iM eO l (fH l day known)).1,ir (cw (iM eO l (fH l day known)).2)⟩:=rfl
theorem alF{A:af}{n:Nat}{w:I}{rest:List aC} : dj A (some 2) n [] w (.agg [.nils 9,.nils 1]) rest (some (.agg [.nils 9,.nils 1]))=aA rest (A.aO n (.box (.agg [.nils 9,.nils 1]))):=by
 refine (ee (s:=some 2) (by rfl) (by rfl) (by rfl)).trans ?_;rw[gp]
theorem Qg:eJ [.nils 9,.nils 1] []=some [.nils 9,.nils 1]:=rfl
def oP(bs:List ao):I:=.agg [enc bs,.nils 1]
theorem Jh(bs:List ao):(oP bs).dv=some [enc bs,.nils 1]:=rfl
theorem iI(a b:I)(v:I):dB [a,b] 0 0 v=some v:=by simp[dB,I.sizes]
theorem ajM(bs:List ao)(b v:I):dB [enc bs,b] 1 1 v=some v:=by simp[dB,I.sizes,ja,qW]
theorem alD{A:af}{n:Nat}{bs bs':List ao}{rest:List aC} : dj A none n [0] (oP bs) (enc bs') rest (some (enc bs))=aA rest (A.aO n (.box (oP bs'))):=by
 rw[ee (s:=none) (v:=enc bs') (old:=enc bs) (dU _) (by rw[lb];rfl) ((eQ bs').trans (eQ bs).symm)];rfl
theorem alE{A:af}{n:Nat}{bs:List ao}{v:List Int}{rest:List aC} : dj A none n [1] (oP bs) (enc v) rest (some (.nils 1))=aA rest (A.aO n (.box (enc (⟨bs,v⟩:lH)))):=by
 rw[ee (s:=none) (v:=enc v) (old:=.nils 1) (dU _) (by rw[lb];rfl) (eQ v)];rfl
theorem oe{A:af}{n:Nat}{w:I}{x:lH}{rest:List aC} : dj A (some 2) n [] w (enc x) rest (some (.agg [.nils 9,.nils 1]))=aA rest (A.aO n (.box (enc x))):=by
 refine (ee (s:=some 2) (dU x) (by rw[fZ];rfl) (by rw[eQ];rfl)).trans ?_;rw[gp]
theorem nU(x:lH):b8 (some 2) (enc x)=true:=by rw[fZ];rfl
theorem jI(x:lH):(enc x:I).dv=some [enc x.jY,enc x.Ny]:=rfl
theorem Np{o:List Nat}{k:Nat}(h:k<o.length)(A:af):ik A 1 (k:Int) (enc (cw o))=some (.ref (.int .i64 (o[k]:Nat))):=by
 have h2:k<(cw o).length:=by simpa[cw] using h
 rw[eL 1 h2 rfl];simp[cw,fY]
theorem alY{key:Nat→Int}{o:List Nat}(hp:o.Pairwise (ln key)){k:Nat}(hk:k<o.length){v:Int}(h:key o[k]≤v):∀ x∈o.take (k+1),key x≤v:=by
 intro x hx;obtain ⟨j,hj,rfl⟩:=List.getElem_of_mem hx;rw[zy8] at hj;rw[List.getElem_take];by_cases e:j=k
 ·subst e;exact h
 ·have:=List.pairwise_iff_getElem.1 hp j k (by omega) hk (by omega);simp only[ln] at this;omega
theorem sn(l:List ar)(known day:Int)(hok:dE l=true):aB Tryz.prog 76 [enc l,enc known,enc day] (enc (kK l day known)):=by
 have hl:=qo hok;refine aB.bu Tryz.func76 RW TQ VY (zz0 rfl) (fun hwf W0 D0 E1 =>?_);simp only[Cp,L0,bl,zz4,Nat.reduceAdd];clear hwf;have hS:=NN l known hl;have R:=u8 @bB (u8 @aN @ab)
 repeat' ((first |(with_reducible refine .guard (fun hb =>?_) (fun hb =>?_) <;>try simp only[hb])|refine J.aI (by decide +kernel) rfl fun K hK =>?_|refine .lead _ (hS) ?_|(refine .ay [0,1,2,6,7,8,9,10,11,12,13,14,15,22,46,67,86,105] hK ?_;clear hK K)|(with_reducible refine .done (hK _ ?_);clear hK K)|refine J.of rfl ?_|(with_reducible refine aq.aH (fun h =>?_) (fun h =>?_) <;>try simp only[h])) <;>try simp only[aK,R,Nat.reduceEqDiff,reduceIte,Nat.reduceBEq])
 all_goals clear R
 refine J.loop (fun i:Nat=>au [(0,enc l),(2,.int .i64 day),(6,.ptr 6 []),(7,enc (gE l known)),(8,enc (cw (ke l day known i))),(9,.int .i64 i)] [(6,.box (.agg [.nils 9,.nils 1]))]) (fun i=>i≤l.length) (fun i=>l.length-i) 0 (zv1 _) ?_ (fun i hi =>?_)
 ·refine aF.oI [] 8 (x:=.nils 1) (y:=enc ([]:List Int)) rfl (by rfl) ?_ ?_ ?_ ?_ ?_ <;>simp[cJ,bE,aY,b7,bY,fF,aZ,I.only,I.bZ,aj.only,bK,ak,av,ke,qu,cw]
 by_cases hlt:i<l.length
 ·have hc:=fT hlt;have he:=fun A=>jh (A:=A) hlt;have hw:=fc (i:=i) (by omega);have hst:i<(gE l known).length:=by rw[Nc];exact hlt
  have heS:=fun A=>eL (A:=A) 1 hst rfl;have hsu:=akl l day known i;obtain ⟨hp1,hp2,hp3⟩:=akk l day known i;have hdue:oD l day known i=((gE l known)[i]&&(((ah l i).kind != 0)&&decide ((ah l i).day≤day))):=by
   simp only[oD,nP,zz2,zy0 hst,Option.getD_some,bne,ne_eq,decide_not];rfl
  have hgt:decide (day<(ah l i).day) = !decide ((ah l i).day≤day):=by
   by_cases h:(ah l i).day≤day
   ·simp[h]
   ·simp[h];omega
  rcases q1:(gE l known)[i] <;>rcases q2:((ah l i).kind==0) <;>rcases q3:decide ((ah l i).day≤day)
  all_goals
   rw[q3] at hgt;have q2':((ah l i).kind != 0) = !((ah l i).kind==0):=rfl;rw[q1,q2',q2,q3] at hdue;simp only[Bool.not_true,Bool.not_false,Bool.and_true,Bool.and_false] at hdue hgt;rw[hdue] at hsu
  case true.false.true =>
   simp only[if_true] at hsu;generalize ke l day known i=o at *;have htl:(cw o).length=o.length:=by simp[cw]
   have R:=u8 @hc (u8 @he (u8 @heS (u8 @hw (u8 @q1 (u8 @q2 (u8 @hgt (u8 @htl (u8 @bB (u8 @aN (u8 @nT @ab))))))))))
   repeat' ((first |(with_reducible refine .guard (fun hb =>?_) (fun hb =>?_) <;>try simp only[hb])|refine J.aI (by decide +kernel) rfl fun K hK =>?_|(refine .ay [0,1,2,6,7,8,9,10,11,12,13,14,15,22,46,67,86,105] hK ?_;clear hK K)|(with_reducible refine .done (hK _ ?_);clear hK K)|refine J.of rfl ?_|(with_reducible refine aq.aH (fun h =>?_) (fun h =>?_) <;>try simp only[h])) <;>try simp only[aK,R,Nat.reduceEqDiff,reduceIte,Nat.reduceBEq])
   all_goals clear R
   refine J.loop (fun k:Nat=>au [(0,enc l),(2,.int .i64 day),(6,.ptr 6 []),(7,enc (gE l known)),(8,enc (cw o)),(9,.int .i64 i),(10,.int .i64 k)] [(6,.box (.agg [.nils 9,.nils 1]))]) (fun k=>k≤o.length∧∀ x∈o.drop k,(ah l i).day<(ah l x).day) (fun k=>k) o.length ⟨zz8 _,by simp⟩ ?_ (fun k hk =>?_)
   ·refine aF.cK ?_ (fun m=>rfl);simp[aY,aZ]
   obtain ⟨hk1,hk2⟩:=hk;have a6:(∀ x∈o.take k,(ah l x).day≤(ah l i).day)→fJ (fun i=>(ah l i).day) i o=o.take k++i::o.drop k:=fun h=>ahR h hk2;have hT:cw (o.take k++i::o.drop k)=(cw o).take k++(i:Int)::(cw o).drop k:=by simp[cw,List.map_take,List.map_drop]
   by_cases hk0:k=0
   ·subst hk0;have hg0:decide ((0:Int)<((0:Nat):Int))=false:=by decide
    rw[a6 (by simp)] at hsu;have R:=u8 @hg0 (u8 @bB (u8 @aN @ab))
    repeat' ((first |(with_reducible refine .guard (fun hb =>?_) (fun hb =>?_) <;>try simp only[hb])|refine J.aI (by decide +kernel) rfl fun K hK =>?_|(refine .ay [0,1,2,6,7,8,9,10,11,12,13,14,15,22,46,67,86,105] hK ?_;clear hK K)|(with_reducible refine .done (hK _ ?_);clear hK K)|refine J.of rfl ?_|(with_reducible refine aq.aH (fun h =>?_) (fun h =>?_) <;>try simp only[h])) <;>try simp only[aK,R,Nat.reduceEqDiff,reduceIte,Nat.reduceBEq])
    all_goals clear R
    refine J.oj (qM l day (gE l known) ((cw o).take 0++(i:Int)::(cw o).drop 0) i (.agg [.nils 9,.nils 1])) (J.sub ?_ (Ml rfl (by omega) (by omega) (.inr rfl))) (fun B hsub =>?_)
    ·refine aF.cK ?_ (fun m=>rfl);simp[aY,aZ]
    simp only[aG,cj];refine J.sub hsub ?_;have R:=u8 @hw (u8 @bB (u8 @aN @ab))
    repeat' ((first |(with_reducible refine .guard (fun hb =>?_) (fun hb =>?_) <;>try simp only[hb])|refine J.aI (by decide +kernel) rfl fun K hK =>?_|(refine .ay [0,1,2,6,7,8,9,10,11,12,13,14,15,22,46,67,86,105] hK ?_;clear hK K)|(with_reducible refine .done (hK _ ?_);clear hK K)|refine J.of rfl ?_|(with_reducible refine aq.aH (fun h =>?_) (fun h =>?_) <;>try simp only[h])) <;>try simp only[aK,R,Nat.reduceEqDiff,reduceIte])
    all_goals clear R
    refine ⟨i+1,by omega,by omega,?_⟩;rw[hsu,hT];refine aF.cK ?_ (fun m=>rfl);simp[aY,aZ]
   obtain ⟨k',rfl⟩:∃ k',k=k'+1:=⟨k-1,by omega⟩
   have hkl:k'<o.length:=by omega
   have hg1:decide ((0:Int)<((k'+1:Nat):Int))=true:=decide_eq_true (by omega);have hwk:IntKind.i64.wrap (((k'+1:Nat):Int)-1)=(k':Int):=by rw[dI _ (by omega) (by omega)];omega
   have hek:=fun A=>Np (A:=A) hkl;have hol:o[k']<l.length:=by have:=hp2 _ (zx6 hkl);omega
   have heo:=fun A=>jh (A:=A) hol;rcases q4:decide ((ah l i).day<(ah l o[k']).day)
   ·have q4':(ah l o[k']).day≤(ah l i).day:=by simp at q4;omega
    rw[a6 (alY hp1 hkl q4')] at hsu;have R:=u8 @hg1 (u8 @hwk (u8 @hek (u8 @heo (u8 @he (u8 @q4 (u8 @bB (u8 @aN (u8 @nT @ab))))))))
    repeat' ((first |(with_reducible refine .guard (fun hb =>?_) (fun hb =>?_) <;>try simp only[hb])|refine J.aI (by decide +kernel) rfl fun K hK =>?_|(refine .ay [0,1,2,6,7,8,9,10,11,12,13,14,15,22,46,67,86,105] hK ?_;clear hK K)|(with_reducible refine .done (hK _ ?_);clear hK K)|refine J.of rfl ?_|(with_reducible refine aq.aH (fun h =>?_) (fun h =>?_) <;>try simp only[h])) <;>try simp only[aK,R,Nat.reduceEqDiff,reduceIte,Nat.reduceBEq])
    all_goals clear R
    refine J.oj (qM l day (gE l known) ((cw o).take (k'+1)++(i:Int)::(cw o).drop (k'+1)) i (.agg [.nils 9,.nils 1])) (J.sub ?_ (Ml rfl (by omega) (by omega) (.inr rfl))) (fun B hsub =>?_)
    ·refine aF.cK ?_ (fun m=>rfl);simp[aY,aZ]
    simp only[aG,cj];refine J.sub hsub ?_;have R:=u8 @hw (u8 @bB (u8 @aN @ab))
    repeat' ((first |(with_reducible refine .guard (fun hb =>?_) (fun hb =>?_) <;>try simp only[hb])|refine J.aI (by decide +kernel) rfl fun K hK =>?_|(refine .ay [0,1,2,6,7,8,9,10,11,12,13,14,15,22,46,67,86,105] hK ?_;clear hK K)|(with_reducible refine .done (hK _ ?_);clear hK K)|refine J.of rfl ?_|(with_reducible refine aq.aH (fun h =>?_) (fun h =>?_) <;>try simp only[h])) <;>try simp only[aK,R,Nat.reduceEqDiff,reduceIte])
    all_goals clear R
    refine ⟨i+1,by omega,by omega,?_⟩;rw[hsu,hT];refine aF.cK ?_ (fun m=>rfl);simp[aY,aZ]
   ·have q4':(ah l i).day<(ah l o[k']).day:=by simpa using q4
    have R:=u8 @hg1 (u8 @hwk (u8 @hek (u8 @heo (u8 @he (u8 @q4 (u8 @bB (u8 @aN (u8 @nT @ab))))))))
    repeat' ((first |(with_reducible refine .guard (fun hb =>?_) (fun hb =>?_) <;>try simp only[hb])|refine J.aI (by decide +kernel) rfl fun K hK =>?_|(refine .ay [0,1,2,6,7,8,9,10,11,12,13,14,15,22,46,67,86,105] hK ?_;clear hK K)|(with_reducible refine .done (hK _ ?_);clear hK K)|refine J.of rfl ?_|(with_reducible refine aq.aH (fun h =>?_) (fun h =>?_) <;>try simp only[h])) <;>try simp only[aK,R,Nat.reduceEqDiff,reduceIte,Nat.reduceBEq])
    all_goals clear R
    refine ⟨k',⟨by omega,fun x hx =>?_⟩,by omega,?_⟩
    ·rw[zv3 hkl] at hx;rcases zx8.1 hx with rfl | hx
     ·exact q4'
     ·exact hk2 x hx
    ·refine aF.cK ?_ (fun m=>rfl);simp[aY,aZ]
  all_goals
   simp only[zz6,if_false] at hsu;have R:=u8 @hc (u8 @he (u8 @heS (u8 @hw (u8 @q1 (u8 @q2 (u8 @hgt (u8 @bB (u8 @aN (u8 @nT @ab)))))))))
   repeat' ((first |(with_reducible refine .guard (fun hb =>?_) (fun hb =>?_) <;>try simp only[hb])|refine J.aI (by decide +kernel) rfl fun K hK =>?_|(refine .ay [0,1,2,6,7,8,9,10,11,12,13,14,15,22,46,67,86,105] hK ?_;clear hK K)|(with_reducible refine .done (hK _ ?_);clear hK K)|refine J.of rfl ?_|(with_reducible refine aq.aH (fun h =>?_) (fun h =>?_) <;>try simp only[h])) <;>try simp only[aK,R,Nat.reduceEqDiff,reduceIte,Nat.reduceBEq])
   all_goals clear R
   refine ⟨i+1,by omega,by omega,?_⟩;rw[hsu];refine aF.cK ?_ (fun m=>rfl);simp[aY,aZ]
 ·have hc:=ga hlt;have hge:i=l.length:=by omega
  subst hge;rw[akj];have R:=u8 @hc (u8 @alF (u8 @Qg (u8 @bB (u8 @aN @ab))))
  repeat' ((first |(with_reducible refine .guard (fun hb =>?_) (fun hb =>?_) <;>try simp only[hb])|refine J.aI (by decide +kernel) rfl fun K hK =>?_|(refine .ay [0,1,2,6,7,8,9,10,11,12,13,14,15,22,46,67,86,105] hK ?_;clear hK K)|(with_reducible refine .done (hK _ ?_);clear hK K)|refine J.of rfl ?_|(with_reducible refine aq.aH (fun h =>?_) (fun h =>?_) <;>try simp only[h])) <;>try simp only[aK,R,Nat.reduceEqDiff,reduceIte,Nat.reduceBEq])
  all_goals clear R
  have hpl:=akx l day known;have hmem:∀ i∈fH l day known,i<l.length∧(ah l i).kind≠0:=fun i hi=>by
   have h1:=Kb hi;refine ⟨wi h1,?_⟩;have:=(zw4.1 h1).2;simp only[zz3,decide_eq_true_eq] at this;exact this.1
  have hol:(fH l day known).length≤60:=by rw[yK];exact zu0 (sV l day known) hl
  rw[hpl];generalize fH l day known=o at *;have htl:(cw o).length=o.length:=by simp[cw]
  refine J.sub (aF.ai1 11 9 [0] (.agg [.nils 9,.nils 1]) rfl rfl) ?_;refine J.loop (fun i:Nat=>au [(0,enc l),(6,.ptr 6 []),(8,enc (cw o)),(11,.ptr 11 []),(12,.own 912 (cw (jt l o i).2).length),(13,.int .i64 i)] [(6,.box (.agg [.nils 9,.nils 1])),(11,.box (oP (jt l o i).1)),(912,.bR 3 1 ((cw (jt l o i).2).map enc))]) (fun i=>i≤o.length) (fun i=>o.length-i) 0 (zv1 _) ?_ (fun i hi =>?_)
  ·refine aF.ou 12 912 3 1 1 rfl rfl ?_;refine aF.cq ?_ ?_ ?_ ?_ <;>simp[aY,b7,bY,bE,av,aZ,ak,I.only,I.bZ,bK,aj.only,jt,cw,oP]
   rfl
  obtain ⟨hr1,hr2,hr3,hr4⟩:=aku l o i hi;by_cases hlt:i<o.length
  ·have hc:=fT hlt;have he:=fun A=>Np (A:=A) hlt;have hw:=fc (i:=i) (by omega);obtain ⟨hjl,hjk⟩:=hmem o[i] (zx6 hlt);have he2:=fun A=>jh (A:=A) hjl;have hs:=akv (l:=l) hlt;rw[alQ] at hs;generalize jt l o i=s at *;obtain ⟨bs,vd⟩:=s;simp only at hr1 hr2 hr3 hr4 hs ⊢;have hF:=NW bs (ah l o[i]) (by omega) hr1 (fun b hb=>by have:=hr3 b hb;omega) (uh hok hjl) hjk;have happ:=fun (A:af) d rest=>kS (α:=Int) (A:=A) (d:=d) 3 1 8 912 (l:=(cw vd).length) (es:=cw vd) (ys:=[(o[i]:Int)]) (rest:=rest) rfl rfl (by simp) (by simp[maxLen,cw];omega) (by simp[cw];omega);generalize eb bs (ah l o[i])=r at hF hs;obtain ⟨bs',did⟩:=r;simp only at hF hs;cases did
   all_goals
    simp only[zz6,if_false,if_true] at hs;have R:=u8 @hc (u8 @htl (u8 @he (u8 @he2 (u8 @hw (u8 @happ (u8 @lL (u8 @Jh (u8 @iI (u8 @alD (u8 @cA (u8 @bB (u8 @aN @ab))))))))))))
    repeat' ((first |(with_reducible refine .guard (fun hb =>?_) (fun hb =>?_) <;>try simp only[hb])|refine J.aI (by decide +kernel) rfl fun K hK =>?_|refine .lead _ (hF) ?_|(refine .ay [0,1,2,6,7,8,9,10,11,12,13,14,15,22,46,67,86,105] hK ?_;clear hK K)|(with_reducible refine .done (hK _ ?_);clear hK K)|refine J.of rfl ?_|(with_reducible refine aq.aH (fun h =>?_) (fun h =>?_) <;>try simp only[h])) <;>try simp only[aK,R,Nat.reduceEqDiff,reduceIte,Nat.reduceBEq])
    all_goals clear R
    refine ⟨i+1,by omega,by omega,?_⟩;rw[hs];have ah:cw (vd++[o[i]])=cw vd++[(o[i]:Int)]:=by simp[cw]
    simp only[ah];refine aF.cq ?_ ?_ ?_ ?_ <;>simp[aY,b7,bY,bE,av,aZ,ak,I.only,I.bZ,bK,aj.only,eI,jO,oP]
  ·have hc:=ga hlt;have hge:i=o.length:=by omega
   subst hge;rw[akt] at hr4 ⊢;have hF:=Ae (cw (iM eO l o).2) (by simp[cw];omega);have hfo:=oF (k:=(cw (iM eO l o).2).length) (T:=3) (es:=cw (iM eO l o).2) 1 rfl rfl;have R:=u8 @hc (u8 @htl (u8 @hfo (u8 @Jh (u8 @iI (u8 @ajM (u8 @alE (u8 @oe (u8 @nU (u8 @cA (u8 @bB (u8 @aN @ab)))))))))))
   repeat' ((first |(with_reducible refine .guard (fun hb =>?_) (fun hb =>?_) <;>try simp only[hb])|refine J.aI (by decide +kernel) rfl fun K hK =>?_|refine .lead _ (hF) ?_|(refine .ay [0,1,2,6,7,8,9,10,11,12,13,14,15,22,46,67,86,105] hK ?_;clear hK K)|(with_reducible refine .done (hK _ ?_);clear hK K)|refine J.of rfl ?_|(with_reducible refine aq.aH (fun h =>?_) (fun h =>?_) <;>try simp only[h])) <;>try simp only[aK,R,Nat.reduceEqDiff,reduceIte,Nat.reduceBEq])
   all_goals clear R
   trace_state
end Go.Proofs.YtcldiigclhgafaaGreat
namespace Go.Proofs.YtcldiigclhgafaaGreat
open Go Go.Abs Go.ChangeShapes Go.WideShapes Go.RowKit
open Go.Abs.Enc (enc)
theorem Tryz.own:ownKnob Tryz.prog.godebug=none:=by kernel_rfl
theorem Tryz.aim:laidOutB Tryz.prog=true:=by kernel_rfl
theorem jl:ib Tryz.prog 3 Int:=ake (by kernel_rfl) (by kernel_rfl)
theorem ai7:ib Tryz.prog 66 (bL 6 Int):=akd (ahW (by kernel_rfl)) jl (by kernel_rfl) (by decide)
theorem JN:ib Tryz.prog 65 Item:=⟨by kernel_rfl,by decide,fun h=>by
 obtain ⟨a,b,hab⟩:=akg (α:=Int) (β:=Int) (u0:=3) (u1:=3) (by kernel_rfl) jl jl (by kernel_rfl) h;exact ⟨⟨a,b⟩,hab⟩⟩
theorem ai5:ib Tryz.prog 68 ar:=⟨by kernel_rfl,by decide,fun h=>by
 obtain ⟨vs,hv,hr⟩:=J7 [(65,0),(3,2),(3,3),(3,4),(3,5),(3,6),(3,7),(3,8),(66,9),(65,15)]
  [(2,fun v=>∃ a:Item,v=enc a),(1,fun v=>∃ a:Int,v=enc a),(1,fun v=>∃ a:Int,v=enc a),(1,fun v=>∃ a:Int,v=enc a),(1,fun v=>∃ a:Int,v=enc a),(1,fun v=>∃ a:Int,v=enc a),(1,fun v=>∃ a:Int,v=enc a),(1,fun v=>∃ a:Int,v=enc a),(6,fun v=>∃ a:bL 6 Int,v=enc a),(2,fun v=>∃ a:Item,v=enc a)]
  (by kernel_rfl) (by simp only[qn];exact ⟨trivial,JN.bd,trivial,jl.bd,trivial,jl.bd,trivial,jl.bd,trivial,jl.bd,trivial,jl.bd,trivial,jl.bd,trivial,jl.bd,trivial,ai7.bd,trivial,JN.bd,trivial⟩) (by kernel_rfl) h
 obtain ⟨v0,vs0,e0,h0,hv0⟩:=jC hv;obtain ⟨a0,f0⟩:∃ a:Item,v0=enc a:=h0;obtain ⟨v1,vs1,e1,h1,hv1⟩:=jC hv0;obtain ⟨a1,f1⟩:∃ a:Int,v1=enc a:=h1;obtain ⟨v2,vs2,e2,h2,hv2⟩:=jC hv1;obtain ⟨a2,f2⟩:∃ a:Int,v2=enc a:=h2;obtain ⟨v3,vs3,e3,h3,hv3⟩:=jC hv2;obtain ⟨a3,f3⟩:∃ a:Int,v3=enc a:=h3;obtain ⟨v4,vs4,e4,h4,hv4⟩:=jC hv3;obtain ⟨a4,f4⟩:∃ a:Int,v4=enc a:=h4;obtain ⟨v5,vs5,e5,h5,hv5⟩:=jC hv4;obtain ⟨a5,f5⟩:∃ a:Int,v5=enc a:=h5;obtain ⟨v6,vs6,e6,h6,hv6⟩:=jC hv5;obtain ⟨vr,f6⟩:∃ a:Int,v6=enc a:=h6;obtain ⟨v7,vs7,e7,h7,hv7⟩:=jC hv6;obtain ⟨a7,f7⟩:∃ a:Int,v7=enc a:=h7;obtain ⟨v8,vs8,e8,h8,hv8⟩:=jC hv7;obtain ⟨a8,f8⟩:∃ a:bL 6 Int,v8=enc a:=h8;obtain ⟨v9,vs9,e9,h9,hv9⟩:=jC hv8;obtain ⟨a9,f9⟩:∃ a:Item,v9=enc a:=h9;have e10:=An hv9;rw[e0,e1,e2,e3,e4,e5,e6,e7,e8,e9,e10,f0,f1,f2,f3,f4,f5,f6,f7,f8,f9] at hr;exact ⟨⟨a0,a1,a2,a3,a4,a5,vr,a7,a8,a9⟩,hr⟩⟩
theorem ai6:ib Tryz.prog 27 (List ar):=akf (by kernel_rfl) ai5 (by kernel_rfl)
theorem alg{w:World}{D:aT}{E:aW}{x y z:I}{a b c:Value}(hx:∃ cs,bM x a cs∧ai w D E x cs)(hy:∃ cs,bM y b cs∧ai w D E y cs)(hz:∃ cs,bM z c cs∧ai w D E z cs):aJ w D E [x,y,z] [a,b,c]:=by
 obtain ⟨c1,h1,h2⟩:=hx;obtain ⟨c2,h3,h4⟩:=hy;obtain ⟨c3,h5,h6⟩:=hz;simp only[aJ];exact ⟨a,[b,c],c1,rfl,h1,h2,b,[c],c2,rfl,h3,h4,c,[],c3,rfl,h5,h6,rfl⟩
end Go.Proofs.YtcldiigclhgafaaGreat
namespace Go.Proofs.YtcldiigclhgafaaGreat
open Go Go.Abs
open Go.Abs.Enc (enc)
theorem eK.aj9{aD:Bool}{ρ:List (Nat×Nat)}{k:Nat}{x:aj}{os0:List (Nat×aj)}{r c:I}(h1:∀ p,c.only p=true)(h2:aD=true→c.c8=true)(h3:r.only (av [(k,.box c)])=true)(h4:aD=true→r.c8=true):eK aD ρ [(k,x)] os0 r [(k,.box c)]:=by
 refine ⟨fun m x h =>?_,fun m m' h h' _ =>?_,fun m h =>?_,fun m h h' =>?_,h3,h4⟩
 ·simp only[ak] at h;split at h
  ·simp only[t7] at h;subst h;exact ⟨h1 _,rfl,h2⟩
  ·cases h
 ·rw[dA.1 h,dA.1 h']
 ·rw[dA.1 h];exact dA.2 rfl
 ·rw[dA.1 h] at h';have:av [(k,x)] k=true:=dA.2 rfl;rw[this] at h';cases h'
theorem ye(p:Nat→Bool)(l:List ar):(I.agg (l.map enc)).only p=true:=by simp only[I.only];exact eI p l
theorem O0(l:List ar)(i:Nat)(hi:i<l.length)(hlen:l.length≤60):aB Tryz.prog 78 [enc l,enc (i:Int)] (enc (ff l i)):=by
 have hne:l≠[]:=fun e=>by rw[e] at hi;simp at hi
 have hdl:=Dc hi;refine aB.bu Tryz.func78 RX TR VZ (zz0 rfl) (fun hwf W0 D0 E1 =>?_);simp only[Cq,L1,bl,zz4];clear hwf;refine .az (by decide +kernel) fun K hK =>?_;simp only[Im,ab,simprocAttr];refine .done (hK _ ?_);clear hK K;refine .az (by decide +kernel) fun K hK =>?_;simp only[Io,ab,simprocAttr];refine .bT false [(7,6)] [] [enc l] (CY l) rfl (N4 l (by omega)) gh.nil ⟨.inl ⟨(ky _ _).symm,bK _ _,dU _⟩,trivial⟩ ?_ ?_
 ·rintro x os' (⟨_,h | h,rfl⟩ | ⟨_,k,rfl,rfl⟩)
  ·subst h;exact eK.nil (fun _=>rfl) (fun h=>by cases h)
  ·subst h;exact eK.nil (fun _=>rfl) (fun h=>by cases h)
  ·exact eK.tY (fun p=>ye p _) (fun h=>by cases h) rfl (fun h=>by cases h) rfl (by decide)
 ·rintro x os' (⟨hn,_,_⟩ | ⟨hn,k,rfl,rfl⟩)
  ·exact absurd hn hne
  try simp only[lz,jQ,hE,zy1,zy7,ab,simprocAttr]
  rw[dI _ (by omega) (by omega)];have hp1:(i:Int)+1=((i+1:Nat):Int):=by omega
  simp only[hp1];refine .bT false [(1000000,6)] (lz 1000000 l k) [.view 1000000 [] 17 0 l.length,enc (i:Int),enc ((i+1:Nat):Int)] (Da l i) rfl (N3 l i k hi (by omega)) ⟨?_,?_⟩ ⟨.inl ⟨?_,?_,rfl⟩,.inl ⟨rfl,rfl,rfl⟩,.inl ⟨rfl,rfl,rfl⟩,trivial⟩ ?_ ?_
  ·intro n x h;simp only[lz,ak] at h;split at h
   ·rename_i hn';subst hn';simp only[t7] at h;subst h;exact ⟨by simp only[jQ,hE,ab,simprocAttr],ye _ _,rfl⟩
   ·cases h
  ·intro a b ha hb _;rw[dA.1 ha,dA.1 hb]
  ·try simp only[jQ,simprocAttr]
  ·exact dA.2 rfl
  ·rintro x os' ⟨q,rfl,rfl⟩;exact eK.aj9 (fun p=>ye p _) (fun h=>by cases h) rfl (fun h=>by cases h)
  ·rintro x os' ⟨q,rfl,rfl⟩;rw[←hdl];generalize hL:ff l i=L at hdl ⊢
   try simp only[lz,jQ,hE,zy1,zy7,ab,simprocAttr]
   refine .done (hK _ ?_);clear hK K;refine J.ret ?_;simp only[ab,simprocAttr]
   try simp only[ta (α:=ar) (sz:=17) rfl,ab,simprocAttr]
   rw[hL];simp
theorem N2(a b:List Int):aB Tryz.prog 134 [enc a,enc b] (enc (decide (a=b))):=by
 refine aB.bu Tryz.func134 QL SD UM (zz0 rfl) (fun hwf W0 D0 E1 =>?_);simp only[Bc,KN,bl,zz4];have hlen:a.length≤maxLen:=((lE a).1 hwf.1).1;simp only[maxLen] at hlen;clear hwf;by_cases hl:a.length=b.length
 case neg =>
  have hn:((a.length:Int) != (b.length:Int))=true:=by simp;omega
  have R:=u8 @hn (u8 @bB (u8 @aN @ab))
  repeat' ((first |(with_reducible refine .guard (fun hb =>?_) (fun hb =>?_) <;>try simp only[hb])|refine J.aI (by decide +kernel) rfl fun K hK =>?_|(refine .ay [0,1,4,5,10,12,13,14,24] hK ?_;clear hK K)|(with_reducible refine .done (hK _ ?_);clear hK K)|refine J.of rfl ?_|(with_reducible refine aq.aH (fun h =>?_) (fun h =>?_) <;>try simp only[h])) <;>try simp only[aK,R,simprocAttr])
  all_goals clear R
  have:¬ a=b:=fun e=>hl (by rw[e]);simp[this]
 have hn:((a.length:Int) != (b.length:Int))=false:=by simp;omega
 have R:=u8 @hn (u8 @bB (u8 @aN @ab))
 repeat' ((first |(with_reducible refine .guard (fun hb =>?_) (fun hb =>?_) <;>try simp only[hb])|refine J.aI (by decide +kernel) rfl fun K hK =>?_|(refine .ay [0,1,4,5,10,12,13,14,24] hK ?_;clear hK K)|(with_reducible refine .done (hK _ ?_);clear hK K)|refine J.of rfl ?_|(with_reducible refine aq.aH (fun h =>?_) (fun h =>?_) <;>try simp only[h])) <;>try simp only[aK,R,simprocAttr])
 all_goals clear R
 refine J.loop (fun i:Nat=>au [(0,enc a),(1,enc b),(12,.int .i64 a.length),(13,.int .i64 i)] []) (fun i=>i≤a.length∧∀ k,k<i→a[k]?=b[k]?) (fun i=>a.length-i) 0 ⟨zv1 _,fun k h=>by omega⟩ ?_ (fun i hi =>?_)
 ·refine aF.cq ?_ ?_ ?_ ?_ <;>simp[aY,b7,bY,bE,aZ,I.only,bK]
 obtain ⟨hi1,hi2⟩:=hi;by_cases hlt:i<a.length
 ·have hc:=fT hlt;have he:=fun A=>eL (A:=A) 1 hlt rfl;have hlt2:i<b.length:=by omega
  have he2:=fun A=>eL (A:=A) 1 hlt2 rfl;have hw:=fc (i:=i) (by omega);rcases hp:(a[i] != b[i])
  ·have R:=u8 @hc (u8 @he (u8 @he2 (u8 @hp (u8 @hw (u8 @kH (u8 @bB @ab))))))
   repeat' ((first |(with_reducible refine .guard (fun hb =>?_) (fun hb =>?_) <;>try simp only[hb])|refine J.aI (by decide +kernel) rfl fun K hK =>?_|(refine .ay [0,1,4,5,10,12,13,14,24] hK ?_;clear hK K)|(with_reducible refine .done (hK _ ?_);clear hK K)|refine J.of rfl ?_|(with_reducible refine aq.aH (fun h =>?_) (fun h =>?_) <;>try simp only[h])) <;>try simp only[aK,R,simprocAttr])
   all_goals clear R
   refine ⟨i+1,⟨by omega,fun k hk =>?_⟩,by omega,?_⟩
   ·by_cases e:k=i
    ·subst e;have:a[k]=b[k]:=by simpa using hp
     simp[hlt,hlt2,this]
    ·exact hi2 k (by omega)
   ·refine aF.cq ?_ ?_ ?_ ?_ <;>simp[aY,b7,bY,bE,aZ,I.only,bK]
  ·have R:=u8 @hc (u8 @he (u8 @he2 (u8 @hp (u8 @kH (u8 @bB @ab)))))
   repeat' ((first |(with_reducible refine .guard (fun hb =>?_) (fun hb =>?_) <;>try simp only[hb])|refine J.aI (by decide +kernel) rfl fun K hK =>?_|(refine .ay [0,1,4,5,10,12,13,14,24] hK ?_;clear hK K)|(with_reducible refine .done (hK _ ?_);clear hK K)|refine J.of rfl ?_|(with_reducible refine aq.aH (fun h =>?_) (fun h =>?_) <;>try simp only[h])) <;>try simp only[aK,R,simprocAttr])
   all_goals clear R
   have:¬ a=b:=fun e=>by subst e;simp at hp
   simp[this]
 ·have hc:=ga hlt;have R:=u8 @hc (u8 @bB @ab)
  repeat' ((first |(with_reducible refine .guard (fun hb =>?_) (fun hb =>?_) <;>try simp only[hb])|refine J.aI (by decide +kernel) rfl fun K hK =>?_|(refine .ay [0,1,4,5,10,12,13,14,24] hK ?_;clear hK K)|(with_reducible refine .done (hK _ ?_);clear hK K)|refine J.of rfl ?_|(with_reducible refine aq.aH (fun h =>?_) (fun h =>?_) <;>try simp only[h])) <;>try simp only[aK,R,simprocAttr])
  all_goals clear R
  have:a=b:=List.ext_getElem? fun k=>by
   by_cases hk:k<i
   ·exact hi2 k hk
   ·rw[List.getElem?_eq_none (by omega),List.getElem?_eq_none (by omega)]
  simp[this]
def sI(b:ao):bL 8 Int:=⟨[b.no,b.cd,b.cm,b.bx,b.jF,b.born,b.cu,if b.found then 1 else 0],rfl⟩
theorem Qe(a b c d e f g h:Int):(eJ [.int .i64 0,.int .i64 0,.int .i64 0,.int .i64 0,.int .i64 0,.int .i64 0,.int .i64 0,.int .i64 0] [(0,.int .i64 a),(1,.int .i64 b),(2,.int .i64 c),(3,.int .i64 d),(4,.int .i64 e),(5,.int .i64 f),(6,.int .i64 g),(7,.int .i64 h)])=some [.int .i64 a,.int .i64 b,.int .i64 c,.int .i64 d,.int .i64 e,.int .i64 f,.int .i64 g,.int .i64 h]:=by simp[eJ,I.cn,I.size]
theorem alA{A:af}{n:Nat}{w:I}{a b c d e f g h a' b' c' d' e' f' g' h':Int}{rest:List aC} : dj A (some 8) n [] w (.agg [.int .i64 a,.int .i64 b,.int .i64 c,.int .i64 d,.int .i64 e,.int .i64 f,.int .i64 g,.int .i64 h]) rest (some (.agg [.int .i64 a',.int .i64 b',.int .i64 c',.int .i64 d',.int .i64 e',.int .i64 f',.int .i64 g',.int .i64 h'])) =
  aA rest (A.aO n (.box (.agg [.int .i64 a,.int .i64 b,.int .i64 c,.int .i64 d,.int .i64 e,.int .i64 f,.int .i64 g,.int .i64 h]))):=by
 refine (ee (s:=some 8) (by rfl) (by rfl) (by rfl)).trans ?_;rw[gp]
theorem aj6{a b c d e f g h:Int} : b8 (some 8) (.agg [.int .i64 a,.int .i64 b,.int .i64 c,.int .i64 d,.int .i64 e,.int .i64 f,.int .i64 g,.int .i64 h])=true:=rfl
theorem zP(b:ao):aB Tryz.prog 133 [.ref (enc (⟨b⟩:eh))] (enc (sI b)):=by
 refine aB.bu Tryz.func133 QK SC UL (zz0 rfl) (fun hwf W0 D0 E1 =>?_);simp only[Bb,KM,bl];clear hwf;rcases hf:b.found
 all_goals
  have R:=u8 @hf (u8 @Qe (u8 @alA (u8 @aj6 ez)))
  repeat' ((first |(with_reducible refine .guard (fun hb =>?_) (fun hb =>?_) <;>try simp only[hb])|refine J.aI (by decide +kernel) rfl fun K hK =>?_|(refine .ay [0,2,3,8] hK ?_;clear hK K)|(with_reducible refine .done (hK _ ?_);clear hK K)|refine J.of rfl ?_|(with_reducible refine aq.aH (fun h =>?_) (fun h =>?_) <;>try simp only[h])) <;>try simp only[aK,R,simprocAttr])
  all_goals clear R
  simp[sI,hf];rfl
def kd:Option ao→I
 |none=>.nilp
 |some b=>.ref (enc (⟨b⟩:eh))
def pg(m:cP):Option ao→Option ao→Bool
 |some a,some b=>decide ((sI a).l=(sI b).l)&&decide ((jm m a.bA).1=(jm m b.bA).1)
 |none,none=>true
 |_,_=>false
theorem yP:m0 false (some true) (some false)=some (.bool false):=rfl
theorem OZ(m:cP)(x y:Option ao):aB Tryz.prog 77 [enc m,kd x,kd y] (enc (pg m x y)):=by
 rcases x with _ | a
 ·rcases y with _ | b
  all_goals
   simp only[kd,pg];refine aB.bu Tryz.func77 vO vQ vZ (zz0 rfl) (fun hwf W0 D0 E1 =>?_);simp only[sO,uu,bl,zz4,Nat.reduceAdd];clear hwf;have R:=u8 @yP (u8 @sZ (u8 @iJ ez))
   repeat' ((first |(with_reducible refine .guard (fun hb =>?_) (fun hb =>?_) <;>try simp only[hb])|refine J.aI (by decide +kernel) rfl fun K hK =>?_|(refine .ay [0,1,2,3,6,7,13] hK ?_;clear hK K)|(with_reducible refine .done (hK _ ?_);clear hK K)|refine J.of rfl ?_|(with_reducible refine aq.aH (fun h =>?_) (fun h =>?_) <;>try simp only[h])) <;>try simp only[aK,R,simprocAttr])
   all_goals clear R
 rcases y with _ | b
 ·simp only[kd,pg];refine aB.bu Tryz.func77 vO vQ vZ (zz0 rfl) (fun hwf W0 D0 E1 =>?_);simp only[sO,uu,bl,zz4,Nat.reduceAdd];clear hwf;have R:=u8 @yP (u8 @sZ (u8 @iJ ez))
  repeat' ((first |(with_reducible refine .guard (fun hb =>?_) (fun hb =>?_) <;>try simp only[hb])|refine J.aI (by decide +kernel) rfl fun K hK =>?_|(refine .ay [0,1,2,3,6,7,13] hK ?_;clear hK K)|(with_reducible refine .done (hK _ ?_);clear hK K)|refine J.of rfl ?_|(with_reducible refine aq.aH (fun h =>?_) (fun h =>?_) <;>try simp only[h])) <;>try simp only[aK,R,simprocAttr])
  all_goals clear R
 simp only[kd,pg];refine aB.bu Tryz.func77 vO vQ vZ (zz0 rfl) (fun hwf W0 D0 E1 =>?_);simp only[sO,uu,bl,zz4,Nat.reduceAdd];clear hwf;have ha:=sk m a;have hyB:=sk m b;have h3:=zP a;have h4:=zP b;have R:=u8 @yP (u8 @sZ (u8 @iJ ez))
 repeat' ((first |(with_reducible refine .guard (fun hb =>?_) (fun hb =>?_) <;>try simp only[hb])|refine J.aI (by decide +kernel) rfl fun K hK =>?_|refine .flat _ (h3) rfl ?_|refine .flat _ (h4) rfl ?_|refine .lead _ (ha) ?_|refine .lead _ (hyB) ?_|refine .flat _ (N2 _ _) rfl ?_|(refine .ay [0,1,2,3,6,7,13] hK ?_;clear hK K)|(with_reducible refine .done (hK _ ?_);clear hK K)|refine J.of rfl ?_|(with_reducible refine aq.aH (fun h =>?_) (fun h =>?_) <;>try simp only[h])) <;>try simp only[aK,R,zy1,simprocAttr])
 all_goals clear R
 all_goals simp_all
def uF(m:cP)(l:List ar)(no known:Int)(i:Nat):Bool := !pg m (cI (dg l 100000 known) no) (cI (dg (ff l i) 100000 known) no)
def jR(m:cP)(l:List ar)(no known:Int)(n:Nat):List Item:=((List.range n).filter (uF m l no known)).map fun i=>(ah l i).dp
theorem ak1(m:cP)(l:List ar)(no known:Int)(n:Nat):jR m l no known (n+1)=jR m l no known n++if uF m l no known n then [(ah l n).dp] else []:=by
 simp only[jR,List.range_succ,List.filter_append,zx4,zw1,zv5]
 congr 1
 split <;>rfl
theorem ak0(m:cP)(l:List ar)(no known:Int)(n:Nat):(jR m l no known n).length≤n:=by
 simp only[jR,zy3];have:=zv8 (uF m l no known) (List.range n);simpa using this
def uG(m:cP)(l:List ar)(no known:Int):List Item×Int:=if (lK m l no known).2=0 then (jR m l no known l.length,0) else ([],(lK m l no known).2)
theorem PQ{m:cP}{l:List ar}{no known:Int}(h:(lK m l no known).2=0):dE l=true:=by
 simp only[lK] at h
 repeat' split at h
 all_goals first | (exact lP (by assumption)) | (simp_all;done) | exact lP h
theorem J4(p:Nat→Bool)(x:Option ao):(kd x).only p=true:=by cases x <;>simp[kd,I.only,bK]
theorem yB{l:List ar} : dE l=true↔l.length≤60∧(∀ x∈l,fU x=true)∧l.Pairwise fun a b=>before a.dp b.dp=true:=by
 constructor
 ·intro h;refine ⟨qo h,fun x hx =>?_,List.pairwise_iff_getElem.2 fun i j hi hj hij =>?_⟩
  ·obtain ⟨i,hi,rfl⟩:=List.getElem_of_mem hx;have:=uh h hi
   rwa [←lU hi] at this
  ·have:=JU h hij hj
   rwa [←lU hi,←lU hj] at this
 ·rintro ⟨h1,h2,h3⟩;refine yA h1 fun i hi =>?_;simp only[il,zz3,Bool.or_eq_true,decide_eq_true_eq];refine ⟨by rw[←lU hi];exact h2 _ (zx6 hi),?_⟩;by_cases h0:i=0
  ·exact .inl h0
  ·right
   have:=List.pairwise_iff_getElem.1 h3 (i-1) i (by omega) hi (by omega)
   rwa [lU,lU] at this
theorem ajW{l l':List ar}(hs:l'.Sublist l)(h:dE l=true):dE l'=true:=by
 obtain ⟨h1,h2,h3⟩:=yB.1 h;exact yB.2 ⟨zu0 hs.length_le h1,fun x hx=>h2 x (hs.subset hx),h3.sublist hs⟩
theorem Xc(l:List ar)(i:Nat):(ff l i).Sublist l:=by
 have:=(zx1 i l)
 simp only[ff]
 conv=>rhs;rw[←this]
 refine List.Sublist.append_left ?_ _;rw[←List.drop_drop];exact List.drop_sublist _ _
theorem ajV{l:List ar}(hok:dE l=true)(i:Nat):dE (ff l i)=true:=ajW (Xc l i) hok
theorem OA(m:cP)(l:List ar)(no known:Int):aB Tryz.prog 18 [enc m,enc l,enc no,enc known] (.tuple [enc (uG m l no known).1,enc (uG m l no known).2]):=by
 refine aB.bu Tryz.func18 Rk Td Vm (zz0 rfl) (fun hwf W0 D0 E1 =>?_);simp only[BM,Lm,bl,zz4,Nat.reduceAdd];clear hwf;have hC:=ve m l no known;simp only[uG];have hok0:=PQ (m:=m) (l:=l) (no:=no) (known:=known);generalize lK m l no known=e at hC hok0 ⊢;obtain ⟨e1,e2⟩:=e;simp only at hC hok0 ⊢;by_cases he:e2=0
 case neg =>
  have hn:=mc he;have R:=u8 @hn (u8 @he (u8 @iJ ez))
  repeat' ((first |(with_reducible refine .guard (fun hb =>?_) (fun hb =>?_) <;>try simp only[hb])|refine J.aI (by decide +kernel) rfl fun K hK =>?_|refine .lead _ (hC) ?_|(refine .ay [0,1,2,3,4,8,9,11,12,13,14,15,25,35,36,37,38,55] hK ?_;clear hK K)|(with_reducible refine .done (hK _ ?_);clear hK K)|refine J.of rfl ?_|(with_reducible refine aq.aH (fun h =>?_) (fun h =>?_) <;>try simp only[h])) <;>try simp only[aK,R,simprocAttr])
  all_goals clear R
  all_goals rfl
 have hn:=nS he;have hok:=hok0 he;subst he;have hF:=qK l known hok;have hk:=rD (dg l 100000 known) no;have hx:gz (.i .i64) .nilp (.int .i64 no) (dc (dg l 100000 known)) ((dg l 100000 known).map fun b=>.ref (enc (⟨b⟩:eh)))=some (kd (cI (dg l 100000 known) no),(cI (dg l 100000 known) no).isSome):=by
  rw[hk];cases cI (dg l 100000 known) no <;>rfl
 have hlen:=qo hok;have R:=u8 @hn (u8 @hx (u8 @iJ ez))
 repeat' ((first |(with_reducible refine .guard (fun hb =>?_) (fun hb =>?_) <;>try simp only[hb])|refine J.aI (by decide +kernel) rfl fun K hK =>?_|refine .lead _ (hC) ?_|refine .lead _ (hF) ?_|(refine .ay [0,1,2,3,4,8,9,11,12,13,14,15,25,35,36,37,38,55] hK ?_;clear hK K)|(with_reducible refine .done (hK _ ?_);clear hK K)|refine J.of rfl ?_|(with_reducible refine aq.aH (fun h =>?_) (fun h =>?_) <;>try simp only[h])) <;>try simp only[aK,R,simprocAttr])
 all_goals clear R
 refine J.loop (fun i:Nat=>au [(1,enc l),(2,.int .i64 no),(3,.int .i64 known),(4,.ptr 4 []),(12,kd (cI (dg l 100000 known) no)),(13,.own 913 (jR m l no known i).length),(35,enc l),(36,.int .i64 l.length),(37,.int .i64 i)] [(4,.box (enc m)),(913,.bR 65 2 ((jR m l no known i).map enc))]) (fun i=>i≤l.length) (fun i=>l.length-i) 0 (zv1 _) ?_ (fun i hi =>?_)
 ·refine aF.ou 13 913 65 2 2 rfl rfl ?_;simp only[jR,List.range_zero,zv5,zx3,List.length_nil];refine aF.cq ?_ ?_ ?_ ?_ <;>simp[*,aY,b7,bY,bE,av,aZ,cZ,I.only,I.bZ,aj.only,bK,J4]
 have hRl:=ak0 m l no known i;by_cases hlt:i<l.length
 ·have hc:=fT hlt;have he:=fun A=>jh (A:=A) hlt;have hw:=fc (i:=i) (by omega);have hD:=O0 l i hlt hlen;have hokd:=ajV hok i;have hF2:=qK (ff l i) known hokd;have hk2:=rD (dg (ff l i) 100000 known) no;have hx2:gz (.i .i64) .nilp (.int .i64 no) (dc (dg (ff l i) 100000 known)) ((dg (ff l i) 100000 known).map fun b=>.ref (enc (⟨b⟩:eh)))=some (kd (cI (dg (ff l i) 100000 known) no),(cI (dg (ff l i) 100000 known) no).isSome):=by
   rw[hk2];cases cI (dg (ff l i) 100000 known) no <;>rfl
  have hS:=OZ m (cI (dg l 100000 known) no) (cI (dg (ff l i) 100000 known) no);have hsu:=ak1 m l no known i;have hp:uF m l no known i = !pg m (cI (dg l 100000 known) no) (cI (dg (ff l i) 100000 known) no):=rfl;rw[hp] at hsu;generalize pg m (cI (dg l 100000 known) no) (cI (dg (ff l i) 100000 known) no)=b at hS hsu;have happ:=fun (A:af) d rest=>kS (α:=Item) (A:=A) (d:=d) 65 2 16 913 (l:=(jR m l no known i).length) (es:=jR m l no known i) (ys:=[(ah l i).dp]) (rest:=rest) rfl rfl (by simp) (by simp[maxLen];omega) (by simp;omega);have hbs:=pL 2 (ah l i).dp rfl;have hol:(∀ aD A x,a6 aD A (kd x)=some (kd x)):=fun aD A x=>by cases x <;>simp[kd,a6,ec]
  cases b
  all_goals
   simp only[Bool.not_true,Bool.not_false,if_true,zz6,if_false,zx5] at hsu;have R:=u8 @hc (u8 @he (u8 @hw (u8 @hx2 (u8 @happ (u8 @hbs (u8 @hol (u8 @iJ ez)))))))
   repeat' ((first |(with_reducible refine .guard (fun hb =>?_) (fun hb =>?_) <;>try simp only[hb])|refine J.aI (by decide +kernel) rfl fun K hK =>?_|refine .lead _ (hD) ?_|refine .lead _ (hF2) ?_|refine .flat _ (hS) rfl ?_|(refine .ay [0,1,2,3,4,8,9,11,12,13,14,15,25,35,36,37,38,55] hK ?_;clear hK K)|(with_reducible refine .done (hK _ ?_);clear hK K)|refine J.of rfl ?_|(with_reducible refine aq.aH (fun h =>?_) (fun h =>?_) <;>try simp only[h])) <;>try simp only[aK,R,simprocAttr])
   all_goals clear R
   refine ⟨i+1,by omega,by omega,?_⟩;simp only[hsu];refine aF.cq ?_ ?_ ?_ ?_ <;>simp[*,aY,b7,bY,bE,av,aZ,cZ,I.only,I.bZ,aj.only,eI,jO,bK,J4]
 ·have hc:=ga hlt;have hie:i=l.length:=by omega
  subst hie;have hfo:oE (jR m l no known l.length).length (some (.bR 65 2 ((jR m l no known l.length).map enc)))=some (enc (jR m l no known l.length)):=oF 2 rfl rfl;have R:=u8 @hc (u8 @hfo (u8 @bB (u8 @aN @ab)))
  repeat' ((first |(with_reducible refine .guard (fun hb =>?_) (fun hb =>?_) <;>try simp only[hb])|refine J.aI (by decide +kernel) rfl fun K hK =>?_|(refine .ay [0,1,2,3,4,8,9,11,12,13,14,15,25,35,36,37,38,55] hK ?_;clear hK K)|(with_reducible refine .done (hK _ ?_);clear hK K)|refine J.of rfl ?_|(with_reducible refine aq.aH (fun h =>?_) (fun h =>?_) <;>try simp only[h])) <;>try simp only[aK,R,simprocAttr])
  all_goals clear R
theorem IK(l:List ar)(day known:Int)(no:Int):cI (kK l day known).jY no=cI (dg l day known) no:=by
 obtain ⟨k1,k2,k3⟩:=Kk qN sA l (fH l day known);exact (xI k1 k2 no).symm
theorem rO(l:List ar)(day known:Int):(dg l day known).Perm (kK l day known).jY:=(Kk qN sA l (fH l day known)).1
theorem vl(l:List ar)(no known:Int):aB Tryz.prog 92 [enc l,enc no,enc known] (enc (dY l [ea no 9999] [known])):=by
 have hF:=vj l;refine aB.bu Tryz.func92 R5 TZ V7 (zz0 rfl) (fun hwf W0 D0 E1 =>?_);simp only[Cy,L9,bl,zz4,Nat.reduceAdd];clear hwf;simp only[dY];rcases q1:dE l
 ·rw[q1,if_neg (by decide)] at hF;have R:=u8 @aN @ab
  repeat' ((first |(with_reducible refine .guard (fun hb =>?_) (fun hb =>?_) <;>try simp only[hb])|refine J.aI (by decide +kernel) rfl fun K hK =>?_|refine .flat _ (hF) rfl ?_|(refine .ay [0,1,2,6,9,12,15] hK ?_;clear hK K)|(with_reducible refine .done (hK _ ?_);clear hK K)|refine J.of rfl ?_|(with_reducible refine aq.aH (fun h =>?_) (fun h =>?_) <;>try simp only[h])) <;>try simp only[aK,R,Nat.reduceEqDiff,reduceIte,Int.reduceBNe,Nat.reduceBEq])
  all_goals clear R
 ·rw[q1,if_pos rfl] at hF;have e1:([ea no 9999].all fun n=>bP 1 (n.g 1) (n.g 0))=bP 1 9999 no:=by simp[ea,bL.g]
  have e2:([known].any fun d => !bP 0 100000 d) = !bP 0 100000 known:=by simp
  rw[e1,e2];rcases q2:bP 1 9999 no <;>rcases q3:bP 0 100000 known
  all_goals
   have R:=u8 @q2 (u8 @q3 (u8 @aN @ab))
   repeat' ((first |(with_reducible refine .guard (fun hb =>?_) (fun hb =>?_) <;>try simp only[hb])|refine J.aI (by decide +kernel) rfl fun K hK =>?_|refine .flat _ (hF) rfl ?_|refine .flat _ (kl _ _ _) rfl ?_|refine .flat _ (py _) rfl ?_|(refine .ay [0,1,2,6,9,12,15] hK ?_;clear hK K)|(with_reducible refine .done (hK _ ?_);clear hK K)|refine J.of rfl ?_|(with_reducible refine aq.aH (fun h =>?_) (fun h =>?_) <;>try simp only[h])) <;>try simp only[aK,R,Nat.reduceEqDiff,reduceIte,Int.reduceBNe,Nat.reduceBEq])
   all_goals clear R
def Qo:ao:=⟨0,0,0,0,0,0,0,false,[]⟩
def kO:I:=.agg [.int .i64 0,.int .i64 0,.int .i64 0,.int .i64 0,.int .i64 0,.int .i64 0,.int .i64 0,.bool false,.nils 6]
theorem XI:I.agg [.int .i64 0,.int .i64 0,.int .i64 0,.int .i64 0,.int .i64 0,.int .i64 0,.int .i64 0,.bool false,.nils 6]=kO:=rfl
theorem amj:(∀ (A:af) n w rest,dj A (some 9) n [] w kO rest (some kO)=aA rest (A.aO n (.box kO)))∧(∀ (A:af) n w (b:ao) rest,dj A (some 9) n [] w (enc b) rest (some kO)=aA rest (A.aO n (.box (enc b)))) ∧
  (∀ aD A,a6 aD A kO=some (enc Qo))∧b8 (some 9) kO=true∧((eJ [.int .i64 0,.int .i64 0,.int .i64 0,.int .i64 0,.int .i64 0,.int .i64 0,.int .i64 0,.bool false,.nils 6] []).map .agg=some kO)∧(kO.cn=true) :=
 ⟨fun A n w rest=>by rw[ee (s:=some 9) (v:=kO) (old:=kO) rfl rfl rfl,gp],fun A n w b rest=>pk,fun aD A=>by simp[kO,a6,bV];rfl,rfl,rfl,rfl⟩
theorem OL(a b:List Item):aB Tryz.prog 21 [enc a,enc b] (enc (decide (a=b))):=by
 refine aB.bu Tryz.func21 Rv Tp Vx (zz0 rfl) (fun hwf W0 D0 E1 =>?_);simp only[BX,Lx,bl,zz4];have hlen:a.length≤maxLen:=((lE a).1 hwf.1).1;simp only[maxLen] at hlen;clear hwf;by_cases hl:a.length=b.length
 case neg =>
  have hn:((a.length:Int) != (b.length:Int))=true:=by simp;omega
  have R:=u8 @hn (u8 @bB (u8 @aN @ab))
  repeat' ((first |(with_reducible refine .guard (fun hb =>?_) (fun hb =>?_) <;>try simp only[hb])|refine J.aI (by decide +kernel) rfl fun K hK =>?_|(refine .ay [0,1,4,5,10,14,25] hK ?_;clear hK K)|(with_reducible refine .done (hK _ ?_);clear hK K)|refine J.of rfl ?_|(with_reducible refine aq.aH (fun h =>?_) (fun h =>?_) <;>try simp only[h])) <;>try simp only[aK,R,simprocAttr])
  all_goals clear R
  have:¬ a=b:=fun e=>hl (by rw[e]);simp[this]
 have hn:((a.length:Int) != (b.length:Int))=false:=by simp;omega
 have R:=u8 @hn (u8 @bB (u8 @aN @ab))
 repeat' ((first |(with_reducible refine .guard (fun hb =>?_) (fun hb =>?_) <;>try simp only[hb])|refine J.aI (by decide +kernel) rfl fun K hK =>?_|(refine .ay [0,1,4,5,10,14,25] hK ?_;clear hK K)|(with_reducible refine .done (hK _ ?_);clear hK K)|refine J.of rfl ?_|(with_reducible refine aq.aH (fun h =>?_) (fun h =>?_) <;>try simp only[h])) <;>try simp only[aK,R,simprocAttr])
 all_goals clear R
 refine J.loop (fun i:Nat=>au [(0,enc a),(1,enc b),(5,.int .i64 i)] []) (fun i=>i≤a.length∧∀ k,k<i→a[k]?=b[k]?) (fun i=>a.length-i) 0 ⟨zv1 _,fun k h=>by omega⟩ ?_ (fun i hi =>?_)
 ·refine aF.cq ?_ ?_ ?_ ?_ <;>simp[aY,b7,bY,bE,aZ,I.only,bK]
 obtain ⟨hi1,hi2⟩:=hi;by_cases hlt:i<a.length
 ·have hc:=fT hlt;have he:=fun A=>eL (A:=A) 2 hlt rfl;have hlt2:i<b.length:=by omega
  have he2:=fun A=>eL (A:=A) 2 hlt2 rfl;have hw:=fc (i:=i) (by omega);rcases hp:decide (a[i]=b[i])
  ·have R:=u8 @hc (u8 @he (u8 @he2 (u8 @hp (u8 @kH (u8 @bB (u8 @aN @ab))))))
   repeat' ((first |(with_reducible refine .guard (fun hb =>?_) (fun hb =>?_) <;>try simp only[hb])|refine J.aI (by decide +kernel) rfl fun K hK =>?_|(refine .ay [0,1,4,5,10,14,25] hK ?_;clear hK K)|(with_reducible refine .done (hK _ ?_);clear hK K)|refine J.of rfl ?_|(with_reducible refine aq.aH (fun h =>?_) (fun h =>?_) <;>try simp only[h])) <;>try simp only[aK,R,simprocAttr])
   all_goals clear R
   have:¬ a=b:=fun e=>by subst e;simp at hp
   simp[this]
  ·have R:=u8 @hc (u8 @he (u8 @he2 (u8 @hp (u8 @hw (u8 @kH (u8 @bB (u8 @aN @ab)))))))
   repeat' ((first |(with_reducible refine .guard (fun hb =>?_) (fun hb =>?_) <;>try simp only[hb])|refine J.aI (by decide +kernel) rfl fun K hK =>?_|(refine .ay [0,1,4,5,10,14,25] hK ?_;clear hK K)|(with_reducible refine .done (hK _ ?_);clear hK K)|refine J.of rfl ?_|(with_reducible refine aq.aH (fun h =>?_) (fun h =>?_) <;>try simp only[h])) <;>try simp only[aK,R,simprocAttr])
   all_goals clear R
   refine ⟨i+1,⟨by omega,fun k hk =>?_⟩,by omega,?_⟩
   ·by_cases e:k=i
    ·subst e;have:a[k]=b[k]:=by simpa using hp
     simp[hlt,hlt2,this]
    ·exact hi2 k (by omega)
   ·refine aF.cq ?_ ?_ ?_ ?_ <;>simp[aY,b7,bY,bE,aZ,I.only,bK]
 ·have hc:=ga hlt;have R:=u8 @hc (u8 @bB (u8 @aN @ab))
  repeat' ((first |(with_reducible refine .guard (fun hb =>?_) (fun hb =>?_) <;>try simp only[hb])|refine J.aI (by decide +kernel) rfl fun K hK =>?_|(refine .ay [0,1,4,5,10,14,25] hK ?_;clear hK K)|(with_reducible refine .done (hK _ ?_);clear hK K)|refine J.of rfl ?_|(with_reducible refine aq.aH (fun h =>?_) (fun h =>?_) <;>try simp only[h])) <;>try simp only[aK,R,simprocAttr])
  all_goals clear R
  have:a=b:=List.ext_getElem? fun k=>by
   by_cases hk:k<i
   ·exact hi2 k hk
   ·rw[List.getElem?_eq_none (by omega),List.getElem?_eq_none (by omega)]
  simp[this]
def jX(a b c d e f:Int):bL 6 Int:=⟨[a,b,c,d,e,f],rfl⟩
def PM(a b c d e:Int):bL 5 Int:=⟨[a,b,c,d,e],rfl⟩
def lV(n k d kn b cm s o:Int)(r:bL 6 Int)(f:Int):ar:=⟨⟨0,n⟩,k,d,kn,b,cm,s,o,r,⟨0,f⟩⟩
def jc:List ar:=[lV 0 1 1 1 10 0 3 2 (jX 0 0 0 0 0 0) 0,lV 1 1 5 5 11 10 3 2 (jX 0 0 0 0 0 0) 0,lV 2 2 6 6 20 0 3 0 (jX 0 0 0 0 0 0) 0,lV 3 4 6 6 20 0 0 0 (jX 31 1 1 1 1 31) 0,lV 4 3 7 7 10 0 0 1 (jX 0 0 0 0 0 0) 0,
 lV 5 4 6 9 20 0 0 0 (jX 24 1 1 1 1 31) 0,lV 6 5 10 10 20 0 0 3 (jX 0 0 0 0 0 0) 0,lV 7 4 8 11 11 0 0 0 (jX 1 1 1 1 1 1) 0,lV 8 6 12 12 10 0 0 0 (jX 0 0 0 0 0 0) 0,lV 9 0 0 14 0 0 0 0 (jX 0 0 0 0 0 0) 5]
def lW:cP:=⟨PM 1 3 4 24 24,0,[⟨1,jX 0 0 0 0 0 0⟩,⟨2,jX 2 0 0 0 0 0⟩,⟨3,jX 3 0 0 0 0 2⟩]⟩
theorem O1:aB Tryz.prog 81 [] (enc jc):=by
 refine aB.bu Tryz.func81 RY TS V0 (zz0 rfl) (fun hwf W0 D0 E1 =>?_);simp only[Cr,L2,bl];clear hwf;refine .az (by decide +kernel) fun K hK =>?_;simp only[Ip,ab,simprocAttr];refine .done (hK _ ?_);clear hK K;refine .az (by decide +kernel) fun K hK =>?_;simp only[Iq,ab,simprocAttr]
 try simp only[eJ,I.cn,I.size,I.sizes,List.set_cons_zero,List.set_cons_succ,List.getElem?_cons_zero,List.getElem?_cons_succ,and_self,ab,simprocAttr]
 simp only[iB];rw[if_pos ⟨by rfl,by rfl⟩]
 try simp only[ab,simprocAttr]
 refine .done (hK _ ?_);clear hK K;refine J.ret ?_;simp only[ab,simprocAttr]
 try simp only[zw3,ab,simprocAttr]
 rfl
theorem O2:aB Tryz.prog 82 [] (enc lW):=by
 refine aB.bu Tryz.func82 RZ TT V1 (zz0 rfl) (fun hwf W0 D0 E1 =>?_);simp only[Cs,L3,bl];clear hwf;refine .az (by decide +kernel) fun K hK =>?_;simp only[Ir,ab,simprocAttr];refine .done (hK _ ?_);clear hK K;refine .az (by decide +kernel) fun K hK =>?_;simp only[Is,ab,simprocAttr]
 try simp only[eJ,I.cn,I.size,I.sizes,List.set_cons_zero,List.set_cons_succ,List.getElem?_cons_zero,List.getElem?_cons_succ,and_self,ab,simprocAttr]
 simp only[iB];rw[if_pos ⟨by rfl,by rfl⟩]
 try simp only[eJ,I.cn,I.size,I.sizes,List.set_cons_zero,List.set_cons_succ,List.getElem?_cons_zero,List.getElem?_cons_succ,and_self,ab,simprocAttr]
 rw[ee (by rfl) (by rfl) (by rfl)]
 try simp only[gp,ab,simprocAttr]
 refine .done (hK _ ?_);clear hK K;refine J.ret ?_;simp only[ab,simprocAttr];rw[if_pos (by rfl)]
 try simp only[zw3,ab,simprocAttr]
 rfl
def oN(x:Int):List Int→List Int
 | []=>[x]
 |y::l=>if x≤y then x::y::l else y::oN x l
def l6:List Int→List Int
 | []=>[]
 |x::l=>oN x (l6 l)
theorem xX(x:Int):∀ l,(oN x l).Perm (x::l)
 | []=>.refl _
 |y::l=>by
  simp only[oN];split
  ·exact .refl _
  ·exact ((xX x l).cons y).trans (.swap x y l)
theorem I5(x:Int):∀ l:List Int,l.Pairwise (· ≤ ·)→(oN x l).Pairwise (· ≤ ·)
 | [],_=>by simp[oN]
 |y::l,h=>by
  obtain ⟨h1,h2⟩:=zw9.1 h;simp only[oN];split
  ·rename_i hxy;refine zw9.2 ⟨fun z hz =>?_,h⟩;rcases zx8.1 hz with rfl | hz
   ·exact hxy
   ·have:=h1 z hz;omega
  ·refine zw9.2 ⟨fun z hz =>?_,I5 x l h2⟩;rcases zx8.1 ((xX x l).mem_iff.1 hz) with rfl | hz
   ·omega
   ·exact h1 z hz
theorem Jc:∀ l,(l6 l).Perm l
 | []=>.refl _
 |x::l=>(xX x _).trans ((Jc l).cons x)
theorem Jd:∀ l,(l6 l).Pairwise (· ≤ ·)
 | []=>.nil
 |x::l=>I5 x _ (Jd l)
theorem M0{a b:List Int}(ha:a.Pairwise (· ≤ ·))(hb:b.Pairwise (· ≤ ·))(h:a.Perm b):a=b :=
 List.Perm.eq_of_pairwise (fun x y _ _ h k=>Int.le_antisymm h k) ha hb h
theorem zx(l:List Int):(dX l).Pairwise (· ≤ ·):=by
 have hx:=List.pairwise_mergeSort (le:=fun x y:Int=>decide (x≤y)) (by intro a b c;simp;omega) (by intro a b;simp;omega) l;exact hx.imp fun {a b} h=>by simpa using h
theorem uM(l:List Int):(dX l).Perm l:=List.mergeSort_perm _ _
theorem MW(l:List Int):dX l=l6 l:=M0 (zx l) (Jd l) ((uM l).trans (Jc l).symm)
theorem XO:nG jc 10 6 7=(2,0):=by decide +kernel
theorem XP:lK lW jc 20 9=([3],0):=by decide +kernel
theorem XQ:lK lW jc 20 14=([1,2,3],0):=by decide +kernel
theorem XR:sa lW jc 11=([11],0):=by
 simp only[sa,MW];decide +kernel
theorem XS:iX jc 2 3 7 7=(1,0):=by decide +kernel
theorem XT:jB jc 12 12=([11,20],0):=by
 simp only[jB,MW];decide +kernel
theorem XU:uG lW jc 20 9=([⟨0,2⟩,⟨0,5⟩],0):=by decide +kernel
theorem X1{bs cs:List ao}(hp:bs.Perm cs)(hr:fp (cs.map (·.no)))(p:ao→Bool):dX ((bs.filter p).map (·.no))=(cs.filter p).map (·.no):=by
 refine M0 (zx _) ?_ ((uM _).trans ((hp.filter p).map _));have h2:((cs.filter p).map (·.no)).Sublist (cs.map (·.no)):=(List.filter_sublist).map _;exact (hr.sublist h2).imp fun {a b} h=>by omega
def js(p:ao→Bool)(cs:List ao)(i:Nat):List Int:=((cs.take i).filter p).map (·.no)
theorem Kf(p:ao→Bool)(cs:List ao)(i:Nat):(js p cs i).length≤i:=by
 have h:=zv8 p (cs.take i);rw[zy8] at h;simp only[js,zy3];omega
theorem Kg(p:ao→Bool){cs:List ao}{i:Nat}(h:i<cs.length):js p cs (i+1)=js p cs i++if p cs[i] then [(cs[i]).no] else []:=by
 simp only[js];rw[zy2 h,List.filter_append,zx4,zw1,zv5]
 congr 1
 split <;>rfl
structure oo where
 bx:Int
 cd:Int
 day:Int
 known:Int
instance:Enc oo where
 enc a:=.agg [.int .i64 a.bx,.int .i64 a.cd,.int .i64 a.day,.int .i64 a.known]
 sz:=4
 aS:=.ej [.one,.one,.one,.one]
 fP:=true
 done e:=by simp only[I.done,I.eP,zw3]
 size e:=by simp only[I.size,I.sizes]
 jU e:=by simp only[I.aS,I.cU]
 agg _:=rfl
theorem kz(a:oo):(enc a).dv=some [.int .i64 a.bx,.int .i64 a.cd,.int .i64 a.day,.int .i64 a.known]:=rfl
theorem kG(a b c d:Int)(v:I):(dB [.int .i64 a,.int .i64 b,.int .i64 c,.int .i64 d] 0 0 v=some v)∧(dB [.int .i64 a,.int .i64 b,.int .i64 c,.int .i64 d] 1 1 v=some v)∧(dB [.int .i64 a,.int .i64 b,.int .i64 c,.int .i64 d] 2 2 v=some v)∧(dB [.int .i64 a,.int .i64 b,.int .i64 c,.int .i64 d] 3 3 v=some v):=by
 refine ⟨?_,?_,?_,?_⟩ <;>refine me (zz0 rfl) ?_ <;>simp[I.sizes,I.size]
theorem aj0(a:oo):b8 (some 4) (enc a)=true:=by rw[fZ];rfl
theorem OQ(l:List ar)(day known:Int):aB Tryz.prog 29 [enc l,enc day,enc known] (.tuple [enc (jB l day known).1,enc (jB l day known).2]):=by
 have hL:=vj l;refine aB.bu Tryz.func29 RE Ty VG (zz0 rfl) (fun hwf W0 D0 E1 =>?_);simp only[B8,LH,bl,zz4,Nat.reduceAdd];clear hwf;rcases q2:dE l
 ·rw[q2,if_neg (by decide)] at hL;have hr:jB l day known=([],41):=by simp[jB,dY,q2]
  rw[hr];have R:=u8 @cA (u8 @aN @ab)
  repeat' ((first |(with_reducible refine .guard (fun hb =>?_) (fun hb =>?_) <;>try simp only[hb])|refine J.aI (by decide +kernel) rfl fun K hK =>?_|refine .flat _ (hL) rfl ?_|(refine .ay [0,1,2,6,7,8,9,10,13,21,30,39] hK ?_;clear hK K)|(with_reducible refine .done (hK _ ?_);clear hK K)|refine J.of rfl ?_|(with_reducible refine aq.aH (fun h =>?_) (fun h =>?_) <;>try simp only[h])) <;>try simp only[aK,R,simprocAttr])
  all_goals clear R
  all_goals rfl
 rw[q2,if_pos rfl] at hL;rcases q3:bP 0 100000 day <;>rcases q4:bP 0 100000 known
 iterate 3
  ·have hr:jB l day known=([],6):=by simp[jB,dY,q2,q3,q4]
   rw[hr];have R:=u8 @q3 (u8 @q4 (u8 @cA (u8 @aN @ab)))
   repeat' ((first |(with_reducible refine .guard (fun hb =>?_) (fun hb =>?_) <;>try simp only[hb])|refine J.aI (by decide +kernel) rfl fun K hK =>?_|refine .flat _ (hL) rfl ?_|refine .flat _ (py _) rfl ?_|(refine .ay [0,1,2,6,7,8,9,10,13,21,30,39] hK ?_;clear hK K)|(with_reducible refine .done (hK _ ?_);clear hK K)|refine J.of rfl ?_|(with_reducible refine aq.aH (fun h =>?_) (fun h =>?_) <;>try simp only[h])) <;>try simp only[aK,R,simprocAttr])
   all_goals clear R
   all_goals rfl
 have hc0:dY l [] [day,known]=0:=by simp[dY,q2,q3,q4]
 have hr:jB l day known=(((kK l day known).jY.filter fun b => !decide (0≤b.cu)).map (·.no),0):=by
  simp only[jB,hc0,if_true];rw[X1 (rO l day known) (akw l _)]
 rw[hr];have hF:=sn l known day q2;have hln:(kK l day known).jY.length≤60:=by rw[←(rO l day known).length_eq];exact (oK q2 day known).2.1
 generalize kK l day known=p at hF hln ⊢;obtain ⟨cs,vd⟩:=p;simp only at hln ⊢;have R:=u8 @q3 (u8 @q4 (u8 @oe (u8 @nU (u8 @jI (u8 @iI (u8 @cA (u8 @bB (u8 @aN @ab))))))))
 repeat' ((first |(with_reducible refine .guard (fun hb =>?_) (fun hb =>?_) <;>try simp only[hb])|refine J.aI (by decide +kernel) rfl fun K hK =>?_|refine .flat _ (hL) rfl ?_|refine .flat _ (py _) rfl ?_|refine .lead _ (hF) ?_|(refine .ay [0,1,2,6,7,8,9,10,13,21,30,39] hK ?_;clear hK K)|(with_reducible refine .done (hK _ ?_);clear hK K)|refine J.of rfl ?_|(with_reducible refine aq.aH (fun h =>?_) (fun h =>?_) <;>try simp only[h])) <;>try simp only[aK,R,simprocAttr])
 all_goals clear R
 refine J.loop (fun i:Nat=>au [(8,.ptr 8 []),(9,.own 909 (js (fun b => !decide (0≤b.cu)) cs i).length),(10,.int .i64 i)] [(8,.box (enc (⟨cs,vd⟩:lH))),(909,.bR 3 1 ((js (fun b => !decide (0≤b.cu)) cs i).map enc))]) (fun i=>i≤cs.length) (fun i=>cs.length-i) 0 (zv1 _) ?_ (fun i hi =>?_)
 ·refine aF.ou 9 909 3 1 1 rfl rfl ?_;have e:js (fun b => !decide (0≤b.cu)) cs 0=[]:=rfl;simp only[e,zx3,List.length_nil];refine aF.cq ?_ ?_ ?_ ?_ <;>simp[aY,b7,bY,bE,av,aZ,cZ,I.only,I.bZ,aj.only,bK]
 have hwl:=Kf (fun b => !decide (0≤b.cu)) cs i;by_cases hlt:i<cs.length
 ·have hc:=fT hlt;have hek:=fun A=>eL (A:=A) 9 hlt rfl;have hw:=fc (i:=i) (by omega);have hs:=Kg (fun b => !decide (0≤b.cu)) hlt;generalize js (fun b => !decide (0≤b.cu)) cs i=xs at hwl hs ⊢;have happ:=fun (A:af) d rest=>kS (α:=Int) (A:=A) (d:=d) 3 1 8 909 (l:=xs.length) (es:=xs) (ys:=[(cs[i]).no]) (rest:=rest) rfl rfl (by simp) (by simp[maxLen];omega) (by simp;omega);by_cases q5:0≤(cs[i]).cu
  ·have q6:decide ((cs[i]).cu<0)=false:=decide_eq_false (by omega);rw[decide_eq_true q5] at hs;simp only[Bool.not_true,zz6,if_false,zx5] at hs;have R:=u8 @hc (u8 @hek (u8 @hw (u8 @q6 (u8 @jI (u8 @iI (u8 @fA (u8 @cA (u8 @bB (u8 @aN @ab)))))))))
   repeat' ((first |(with_reducible refine .guard (fun hb =>?_) (fun hb =>?_) <;>try simp only[hb])|refine J.aI (by decide +kernel) rfl fun K hK =>?_|(refine .ay [0,1,2,6,7,8,9,10,13,21,30,39] hK ?_;clear hK K)|(with_reducible refine .done (hK _ ?_);clear hK K)|refine J.of rfl ?_|(with_reducible refine aq.aH (fun h =>?_) (fun h =>?_) <;>try simp only[h])) <;>try simp only[aK,R,simprocAttr])
   all_goals clear R
   refine ⟨i+1,by omega,by omega,?_⟩;simp only[hs];refine aF.cq ?_ ?_ ?_ ?_ <;>simp[aY,b7,bY,bE,av,aZ,cZ,I.only,aj.only,eI,bK]
  ·have q6:decide ((cs[i]).cu<0)=true:=decide_eq_true (by omega);rw[decide_eq_false q5] at hs;simp only[Bool.not_false,if_true] at hs;have R:=u8 @hc (u8 @hek (u8 @hw (u8 @q6 (u8 @happ (u8 @lL (u8 @jI (u8 @iI (u8 @fA (u8 @cA (u8 @bB (u8 @aN @ab)))))))))))
   repeat' ((first |(with_reducible refine .guard (fun hb =>?_) (fun hb =>?_) <;>try simp only[hb])|refine J.aI (by decide +kernel) rfl fun K hK =>?_|(refine .ay [0,1,2,6,7,8,9,10,13,21,30,39] hK ?_;clear hK K)|(with_reducible refine .done (hK _ ?_);clear hK K)|refine J.of rfl ?_|(with_reducible refine aq.aH (fun h =>?_) (fun h =>?_) <;>try simp only[h])) <;>try simp only[aK,R,simprocAttr])
   all_goals clear R
   refine ⟨i+1,by omega,by omega,?_⟩;simp only[hs];refine aF.cq ?_ ?_ ?_ ?_ <;>simp[aY,b7,bY,bE,av,aZ,cZ,I.only,I.bZ,aj.only,eI,jO,bK,fY]
 ·have hc:=ga hlt;have hge:i=cs.length:=by omega
  subst hge;have hfo:=oF (k:=(js (fun b => !decide (0≤b.cu)) cs cs.length).length) (T:=3) (es:=js (fun b => !decide (0≤b.cu)) cs cs.length) 1 rfl rfl;have he:js (fun b => !decide (0≤b.cu)) cs cs.length=(cs.filter fun b => !decide (0≤b.cu)).map (·.no):=by simp[js]
  rw[←he];have R:=u8 @hc (u8 @hfo (u8 @jI (u8 @iI (u8 @cA (u8 @bB (u8 @aN @ab))))))
  repeat' ((first |(with_reducible refine .guard (fun hb =>?_) (fun hb =>?_) <;>try simp only[hb])|refine J.aI (by decide +kernel) rfl fun K hK =>?_|(refine .ay [0,1,2,6,7,8,9,10,13,21,30,39] hK ?_;clear hK K)|(with_reducible refine .done (hK _ ?_);clear hK K)|refine J.of rfl ?_|(with_reducible refine aq.aH (fun h =>?_) (fun h =>?_) <;>try simp only[h])) <;>try simp only[aK,R,simprocAttr])
  all_goals clear R
theorem T9{l:List ar}{ns:List kp}{a b:Int} : dY l ns [a,b]=if dY l ns [a]=0 then dY l ns [b] else dY l ns [a]:=by
 simp only[dY,List.any_cons,List.any_nil,Bool.or_false];cases dE l <;>cases ns.all (fun n=>bP 1 (n.g 1) (n.g 0)) <;>cases bP 0 100000 a <;>cases bP 0 100000 b <;>rfl
theorem OR(l:List ar)(no:Int)(a:oo):aB Tryz.prog 30 [enc l,enc no,enc a] (.tuple [enc (nG l no a.day a.known).1,enc (nG l no a.day a.known).2]):=by
 have hC1:=vl l no a.day;have hC2:=vl l no a.known;refine aB.bu Tryz.func30 RF Tz VH (zz0 rfl) (fun hwf W0 D0 E1 =>?_);simp only[B9,LI,bl,zz4,Nat.reduceAdd];clear hwf;simp only[nG,T9];generalize hc1:dY l [ea no 9999] [a.day]=e1 at hC1 ⊢;generalize hc2:dY l [ea no 9999] [a.known]=e2 at hC2 ⊢;by_cases h1:e1=0
 case neg =>
  have hn:=mc h1;have hn2:(e1==0)=false:=by simp[h1]
  have R:=u8 @hn (u8 @hn2 (u8 @h1 (u8 @kz (u8 @kG (u8 @aN @ab)))))
  repeat' ((first |(with_reducible refine .guard (fun hb =>?_) (fun hb =>?_) <;>try simp only[hb])|refine J.aI (by decide +kernel) rfl fun K hK =>?_|refine .flat _ (hC1) rfl ?_|(refine .ay [0,1,2,5,6,7,8,9,10,17,24,37,44] hK ?_;clear hK K)|(with_reducible refine .done (hK _ ?_);clear hK K)|refine J.of rfl ?_|(with_reducible refine aq.aH (fun h =>?_) (fun h =>?_) <;>try simp only[h])) <;>try simp only[aK,R,simprocAttr])
  all_goals clear R
 subst h1;have z1:((0:Int)==0)=true:=rfl;by_cases h2:e2=0
 case neg =>
  have hn:=mc h2;have R:=u8 @z1 (u8 @hn (u8 @h2 (u8 @kz (u8 @kG (u8 @aN @ab)))))
  repeat' ((first |(with_reducible refine .guard (fun hb =>?_) (fun hb =>?_) <;>try simp only[hb])|refine J.aI (by decide +kernel) rfl fun K hK =>?_|refine .flat _ (hC1) rfl ?_|refine .flat _ (hC2) rfl ?_|(refine .ay [0,1,2,5,6,7,8,9,10,17,24,37,44] hK ?_;clear hK K)|(with_reducible refine .done (hK _ ?_);clear hK K)|refine J.of rfl ?_|(with_reducible refine aq.aH (fun h =>?_) (fun h =>?_) <;>try simp only[h])) <;>try simp only[aK,R,simprocAttr])
  all_goals clear R
 subst h2;have z2:((0:Int) != 0)=false:=rfl;have hok:=lP hc1;have hF:=sn l a.known a.day hok;have hg:=IK l a.day a.known no;rw[←hg];generalize kK l a.day a.known=p at hF hg ⊢;have hI:=mC p.jY no;rcases mQ p.jY no with ⟨g1,e1⟩ | ⟨k,hk,g1,g2,e1⟩
 ·rw[e1] at hI;rw[g1];have hg2:decide ((-1:Int)<0)=true:=rfl;have R:=u8 @z1 (u8 @z2 (u8 @hg2 (u8 @kz (u8 @kG (u8 @oe (u8 @nU (u8 @jI (u8 @iI (u8 @cA (u8 @aN @ab))))))))))
  repeat' ((first |(with_reducible refine .guard (fun hb =>?_) (fun hb =>?_) <;>try simp only[hb])|refine J.aI (by decide +kernel) rfl fun K hK =>?_|refine .flat _ (hC1) rfl ?_|refine .flat _ (hC2) rfl ?_|refine .lead _ (hF) ?_|refine .flat _ (hI) rfl ?_|(refine .ay [0,1,2,5,6,7,8,9,10,17,24,37,44] hK ?_;clear hK K)|(with_reducible refine .done (hK _ ?_);clear hK K)|refine J.of rfl ?_|(with_reducible refine aq.aH (fun h =>?_) (fun h =>?_) <;>try simp only[h])) <;>try simp only[aK,R,decide_true,simprocAttr])
  all_goals clear R
 ·rw[e1] at hI;rw[g1];have hg3:decide ((k:Int)<0)=false:=by simp
  have hek:=fun A=>eL (A:=A) 9 hk rfl;by_cases q:0≤(p.jY[k]).cu
  ·skip
   have R:=u8 @z1 (u8 @z2 (u8 @hg3 (u8 @hek (u8 @q (u8 @kz (u8 @kG (u8 @fA (u8 @oe (u8 @nU (u8 @jI (u8 @iI (u8 @cA (u8 @aN @ab)))))))))))))
   repeat' ((first |(with_reducible refine .guard (fun hb =>?_) (fun hb =>?_) <;>try simp only[hb])|refine J.aI (by decide +kernel) rfl fun K hK =>?_|refine .flat _ (hC1) rfl ?_|refine .flat _ (hC2) rfl ?_|refine .lead _ (hF) ?_|refine .flat _ (hI) rfl ?_|(refine .ay [0,1,2,5,6,7,8,9,10,17,24,37,44] hK ?_;clear hK K)|(with_reducible refine .done (hK _ ?_);clear hK K)|refine J.of rfl ?_|(with_reducible refine aq.aH (fun h =>?_) (fun h =>?_) <;>try simp only[h])) <;>try simp only[aK,R,decide_true,simprocAttr])
   all_goals clear R
  ·skip
   have R:=u8 @z1 (u8 @z2 (u8 @hg3 (u8 @hek (u8 @q (u8 @kz (u8 @kG (u8 @fA (u8 @oe (u8 @nU (u8 @jI (u8 @iI (u8 @cA (u8 @aN @ab)))))))))))))
   repeat' ((first |(with_reducible refine .guard (fun hb =>?_) (fun hb =>?_) <;>try simp only[hb])|refine J.aI (by decide +kernel) rfl fun K hK =>?_|refine .flat _ (hC1) rfl ?_|refine .flat _ (hC2) rfl ?_|refine .lead _ (hF) ?_|refine .flat _ (hI) rfl ?_|(refine .ay [0,1,2,5,6,7,8,9,10,17,24,37,44] hK ?_;clear hK K)|(with_reducible refine .done (hK _ ?_);clear hK K)|refine J.of rfl ?_|(with_reducible refine aq.aH (fun h =>?_) (fun h =>?_) <;>try simp only[h])) <;>try simp only[aK,R,decide_false,simprocAttr])
   all_goals clear R
def kX(p:ao→Bool)(cs:List ao)(i:Nat):Nat:=((cs.take i).filter p).length
theorem Uq(p:ao→Bool){cs:List ao}{i:Nat}(h:i<cs.length):kX p cs (i+1)=kX p cs i+if p cs[i] then 1 else 0:=by
 simp only[kX];rw[zy2 h,List.filter_append,zz7,zw1,zv5];split <;>rfl
theorem Up(p:ao→Bool)(cs:List ao)(i:Nat):kX p cs i≤i:=by
 have h:=zv8 p (cs.take i);rw[zy8] at h;simp only[kX];omega
def iY(o s:Int)(b:ao):Bool := !decide (0≤b.cu)&&(b.bx==o&&b.cd==s)
theorem OS(l:List ar)(a:oo):aB Tryz.prog 31 [enc l,enc a] (.tuple [enc (iX l a.bx a.cd a.day a.known).1,enc (iX l a.bx a.cd a.day a.known).2]):=by
 have hL:=vj l;refine aB.bu Tryz.func31 RG TA VI (zz0 rfl) (fun hwf W0 D0 E1 =>?_);simp only[Ca,LJ,bl,zz4];clear hwf;have hck:dY l [ea a.bx 99,ea a.cd 9] [a.day,a.known]=if dE l then (if bP 1 99 a.bx&&bP 1 9 a.cd then (if bP 0 100000 a.day&&bP 0 100000 a.known then 0 else 6) else 1) else 41:=by
  have e1:(ea a.bx 99).g 0=a.bx:=rfl;have e2:(ea a.bx 99).g 1=99:=rfl;have e3:(ea a.cd 9).g 0=a.cd:=rfl;have e4:(ea a.cd 9).g 1=9:=rfl;simp only[dY,List.all_cons,List.all_nil,e1,e2,e3,e4,List.any_cons,List.any_nil,Bool.or_false,Bool.and_true];cases dE l <;>cases bP 1 99 a.bx <;>cases bP 1 9 a.cd <;>cases bP 0 100000 a.day <;>cases bP 0 100000 a.known <;>rfl
 rcases q2:dE l
 ·rw[q2,if_neg (by decide)] at hL;have hr:iX l a.bx a.cd a.day a.known=(0,41):=by simp[iX,hck,q2]
  rw[hr];have R:=u8 @cA (u8 @aN @ab)
  repeat' ((first |(with_reducible refine .guard (fun hb =>?_) (fun hb =>?_) <;>try simp only[hb])|refine J.aI (by decide +kernel) rfl fun K hK =>?_|refine .flat _ (hL) rfl ?_|(refine .ay [0,1,3,4,5,6,7,8,9,12,22,32,43,67] hK ?_;clear hK K)|(with_reducible refine .done (hK _ ?_);clear hK K)|refine J.of rfl ?_|(with_reducible refine aq.aH (fun h =>?_) (fun h =>?_) <;>try simp only[h])) <;>try simp only[aK,R,simprocAttr])
  all_goals clear R
 rw[q2,if_pos rfl] at hL;have hO:(bP 1 99 a.bx&&bP 1 9 a.cd)=false∨(bP 1 99 a.bx=true∧bP 1 9 a.cd=true):=by
  cases bP 1 99 a.bx <;>cases bP 1 9 a.cd <;>simp
 rcases hO with hO | ⟨o1,o2⟩
 ·have hr:iX l a.bx a.cd a.day a.known=(0,1):=by simp[iX,hck,q2,hO]
  rw[hr];rcases o1:bP 1 99 a.bx
  ·have R:=u8 @o1 (u8 @kz (u8 @kG (u8 @cA (u8 @aN @ab))))
   repeat' ((first |(with_reducible refine .guard (fun hb =>?_) (fun hb =>?_) <;>try simp only[hb])|refine J.aI (by decide +kernel) rfl fun K hK =>?_|refine .flat _ (hL) rfl ?_|refine .flat _ (kl _ _ _) rfl ?_|(refine .ay [0,1,3,4,5,6,7,8,9,12,22,32,43,67] hK ?_;clear hK K)|(with_reducible refine .done (hK _ ?_);clear hK K)|refine J.of rfl ?_|(with_reducible refine aq.aH (fun h =>?_) (fun h =>?_) <;>try simp only[h])) <;>try simp only[aK,R,simprocAttr])
   all_goals clear R
  ·rw[o1,Bool.true_and] at hO;have R:=u8 @o1 (u8 @hO (u8 @kz (u8 @kG (u8 @cA (u8 @aN @ab)))))
   repeat' ((first |(with_reducible refine .guard (fun hb =>?_) (fun hb =>?_) <;>try simp only[hb])|refine J.aI (by decide +kernel) rfl fun K hK =>?_|refine .flat _ (hL) rfl ?_|refine .flat _ (kl _ _ _) rfl ?_|(refine .ay [0,1,3,4,5,6,7,8,9,12,22,32,43,67] hK ?_;clear hK K)|(with_reducible refine .done (hK _ ?_);clear hK K)|refine J.of rfl ?_|(with_reducible refine aq.aH (fun h =>?_) (fun h =>?_) <;>try simp only[h])) <;>try simp only[aK,R,simprocAttr])
   all_goals clear R
 have hD:(bP 0 100000 a.day&&bP 0 100000 a.known)=false∨(bP 0 100000 a.day=true∧bP 0 100000 a.known=true):=by
  cases bP 0 100000 a.day <;>cases bP 0 100000 a.known <;>simp
 rcases hD with hD | ⟨d1,d2⟩
 ·have hr:iX l a.bx a.cd a.day a.known=(0,6):=by simp[iX,hck,q2,o1,o2,hD]
  rw[hr];rcases d1:bP 0 100000 a.day
  ·have R:=u8 @o1 (u8 @o2 (u8 @d1 (u8 @kz (u8 @kG (u8 @cA (u8 @aN @ab))))))
   repeat' ((first |(with_reducible refine .guard (fun hb =>?_) (fun hb =>?_) <;>try simp only[hb])|refine J.aI (by decide +kernel) rfl fun K hK =>?_|refine .flat _ (hL) rfl ?_|refine .flat _ (kl _ _ _) rfl ?_|refine .flat _ (py _) rfl ?_|(refine .ay [0,1,3,4,5,6,7,8,9,12,22,32,43,67] hK ?_;clear hK K)|(with_reducible refine .done (hK _ ?_);clear hK K)|refine J.of rfl ?_|(with_reducible refine aq.aH (fun h =>?_) (fun h =>?_) <;>try simp only[h])) <;>try simp only[aK,R,simprocAttr])
   all_goals clear R
  ·rw[d1,Bool.true_and] at hD;have R:=u8 @o1 (u8 @o2 (u8 @d1 (u8 @hD (u8 @kz (u8 @kG (u8 @cA (u8 @aN @ab)))))))
   repeat' ((first |(with_reducible refine .guard (fun hb =>?_) (fun hb =>?_) <;>try simp only[hb])|refine J.aI (by decide +kernel) rfl fun K hK =>?_|refine .flat _ (hL) rfl ?_|refine .flat _ (kl _ _ _) rfl ?_|refine .flat _ (py _) rfl ?_|(refine .ay [0,1,3,4,5,6,7,8,9,12,22,32,43,67] hK ?_;clear hK K)|(with_reducible refine .done (hK _ ?_);clear hK K)|refine J.of rfl ?_|(with_reducible refine aq.aH (fun h =>?_) (fun h =>?_) <;>try simp only[h])) <;>try simp only[aK,R,simprocAttr])
   all_goals clear R
 have hF:=sn l a.known a.day q2;have hln:(kK l a.day a.known).jY.length≤60:=by rw[←(rO l a.day a.known).length_eq];exact (oK q2 a.day a.known).2.1
 have hr:iX l a.bx a.cd a.day a.known=((((kK l a.day a.known).jY.filter (iY a.bx a.cd)).length:Int),0):=by
  have:=((rO l a.day a.known).filter (iY a.bx a.cd)).length_eq;simp only[iX,hck,q2,o1,o2,d1,d2,zw3,if_true];rw[←this];rfl
 rw[hr];generalize kK l a.day a.known=p at hF hln ⊢;obtain ⟨cs,vd⟩:=p;simp only at hln ⊢;have R:=u8 @o1 (u8 @o2 (u8 @d1 (u8 @d2 (u8 @kz (u8 @kG (u8 @oe (u8 @nU (u8 @jI (u8 @iI (u8 @cA (u8 @bB (u8 @aN @ab))))))))))))
 repeat' ((first |(with_reducible refine .guard (fun hb =>?_) (fun hb =>?_) <;>try simp only[hb])|refine J.aI (by decide +kernel) rfl fun K hK =>?_|refine .flat _ (hL) rfl ?_|refine .flat _ (kl _ _ _) rfl ?_|refine .flat _ (py _) rfl ?_|refine .lead _ (hF) ?_|(refine .ay [0,1,3,4,5,6,7,8,9,12,22,32,43,67] hK ?_;clear hK K)|(with_reducible refine .done (hK _ ?_);clear hK K)|refine J.of rfl ?_|(with_reducible refine aq.aH (fun h =>?_) (fun h =>?_) <;>try simp only[h])) <;>try simp only[aK,R,simprocAttr])
 all_goals clear R
 refine J.loop (fun i:Nat=>au [(3,.ptr 3 []),(6,.ptr 6 []),(7,.int .i64 (kX (iY a.bx a.cd) cs i)),(8,.int .i64 i)] [(3,.box (enc a)),(6,.box (enc (⟨cs,vd⟩:lH)))]) (fun i=>i≤cs.length) (fun i=>cs.length-i) 0 (zv1 _) ?_ (fun i hi =>?_)
 ·have e:kX (iY a.bx a.cd) cs 0=0:=rfl;rw[e];refine aF.cq ?_ ?_ ?_ ?_ <;>simp[aY,b7,bY,bE,av,aZ,cZ,I.only,aj.only,bK]
 have hwl:=Up (iY a.bx a.cd) cs i;by_cases hlt:i<cs.length
 ·have hc:=fT hlt;have hek:=fun A=>eL (A:=A) 9 hlt rfl;have hw:=fc (i:=i) (by omega);have hs:=Uq (iY a.bx a.cd) hlt;have hwc:=fc (i:=kX (iY a.bx a.cd) cs i) (by omega);generalize kX (iY a.bx a.cd) cs i=n at hwl hs hwc ⊢;generalize cs[i]=b at hek hs;have hdd:decide (b.cu<0) = !decide (0≤b.cu):=by
   by_cases h:0≤b.cu
   ·rw[decide_eq_true h,decide_eq_false (by omega)];rfl
   ·rw[decide_eq_false h,decide_eq_true (by omega)];rfl
  have hcq:((decide (b.cu<0)=false)∧iY a.bx a.cd b=false)∨((decide (b.cu<0)=true∧(b.bx==a.bx)=false)∧iY a.bx a.cd b=false)∨((decide (b.cu<0)=true∧(b.bx==a.bx)=true∧(b.cd==a.cd)=false)∧iY a.bx a.cd b=false)∨((decide (b.cu<0)=true∧(b.bx==a.bx)=true∧(b.cd==a.cd)=true)∧iY a.bx a.cd b=true):=by
   rw[hdd];simp only[iY];cases decide (0≤b.cu) <;>cases (b.bx==a.bx) <;>cases (b.cd==a.cd) <;>simp
  rcases hcq with ⟨Q,q⟩ | ⟨Q,q⟩ | ⟨Q,q⟩ | ⟨Q,q⟩
  all_goals
   rw[q] at hs;simp only[zz6,if_false,if_true,Nat.add_zero] at hs;have R:=u8 @hc (u8 @hek (u8 @hw (u8 @hwc (u8 @Q (u8 @XI (u8 @amj (u8 @kz (u8 @kG (u8 @jI (u8 @iI (u8 @fA (u8 @cA (u8 @bB (u8 @aN @ab))))))))))))))
   repeat' ((first |(with_reducible refine .guard (fun hb =>?_) (fun hb =>?_) <;>try simp only[hb])|refine J.aI (by decide +kernel) rfl fun K hK =>?_|(refine .ay [0,1,3,4,5,6,7,8,9,12,22,32,43,67] hK ?_;clear hK K)|(with_reducible refine .done (hK _ ?_);clear hK K)|refine J.of rfl ?_|(with_reducible refine aq.aH (fun h =>?_) (fun h =>?_) <;>try simp only[h])) <;>try simp only[aK,R,simprocAttr])
   all_goals clear R
   refine ⟨i+1,by omega,by omega,?_⟩;rw[hs];refine aF.cq ?_ ?_ ?_ ?_ <;>simp[aY,b7,bY,bE,av,aZ,cZ,I.only,aj.only,bK]
 ·have hc:=ga hlt;have hge:i=cs.length:=by omega
  subst hge;have he:kX (iY a.bx a.cd) cs cs.length=(cs.filter (iY a.bx a.cd)).length:=by simp[kX]
  rw[he];have R:=u8 @hc (u8 @jI (u8 @iI (u8 @cA (u8 @bB (u8 @aN @ab)))))
  repeat' ((first |(with_reducible refine .guard (fun hb =>?_) (fun hb =>?_) <;>try simp only[hb])|refine J.aI (by decide +kernel) rfl fun K hK =>?_|(refine .ay [0,1,3,4,5,6,7,8,9,12,22,32,43,67] hK ?_;clear hK K)|(with_reducible refine .done (hK _ ?_);clear hK K)|refine J.of rfl ?_|(with_reducible refine aq.aH (fun h =>?_) (fun h =>?_) <;>try simp only[h])) <;>try simp only[aK,R,simprocAttr])
  all_goals clear R
theorem Qf(b:Int):eJ [.int .i64 0,.int .i64 0] [(1,.int .i64 b)]=some [.int .i64 0,.int .i64 b]:=by simp[eJ,I.cn,I.size]
theorem Qm(a b c d:Int):iB 2 (some [.agg [.int .i64 a,.int .i64 b],.agg [.int .i64 c,.int .i64 d]])=some (enc ([⟨a,b⟩,⟨c,d⟩]:List Item)):=nw (ys:=([⟨a,b⟩,⟨c,d⟩]:List Item)) 2 rfl
theorem Ql(a b c:Int):iB 1 (some [.int .i64 a,.int .i64 b,.int .i64 c])=some (enc [a,b,c]):=nw (ys:=[a,b,c]) 1 rfl
theorem alG{A:af}{n:Nat}{b:I}(m:cP)(x y z:I){rest:List aC}(h:I.aS (.agg [x,y,z])=Enc.aS cP):dj A (some 7) n [] b (enc m) rest (some (.agg [x,y,z]))=aA rest (A.aO n (.box (enc m))):=by
 refine (ee (s:=some 7) (dU _) (by rw[fZ];rfl) ((eQ m).trans h.symm)).trans ?_;rw[gp]
theorem OP:aB Tryz.prog 22 [] (enc true):=by
 have h1:=z7 jc 10 6 7;have h2:=ve lW jc 20 9;have h3:=ve lW jc 20 14;have h4:=Oe lW jc 11;have h5:=z8 jc 2 3 7 7;have h6:=z6 jc 12 12;have h7:=OA lW jc 20 9;rw[XO] at h1;rw[XP] at h2;rw[XQ] at h3;rw[XR] at h4;rw[XS] at h5;rw[XT] at h6;rw[XU] at h7;simp only at h1 h2 h3 h4 h5 h6 h7;have h8:=fun a b=>vh a b;refine aB.bu Tryz.func22 RA Tu VC (zz0 rfl) (fun hwf W0 D0 E1 =>?_);simp only[B4,LC,bl];clear hwf;have hst:=fun (A:af) (rest:List aC)=>alG (A:=A) (n:=2) (b:=.agg [.agg [.int .i64 0,.int .i64 0,.int .i64 0,.int .i64 0,.int .i64 0],.int .i64 0,.nils 7]) lW (.agg [.int .i64 0,.int .i64 0,.int .i64 0,.int .i64 0,.int .i64 0]) (.int .i64 0) (.nils 7) (rest:=rest) rfl;have q1:((2:Int)==2)=true:=rfl;have q2:((1:Int)==1)=true:=rfl;have q3:((0:Int)==0)=true:=rfl;have R:=u8 @hst (u8 @q1 (u8 @q2 (u8 @q3 (u8 @iJ (u8 @Qf (u8 @Qm (u8 @lL (u8 @qT (u8 @Ql (u8 @aN @ab))))))))))
 repeat' ((first |(with_reducible refine .guard (fun hb =>?_) (fun hb =>?_) <;>try simp only[hb])|refine J.aI (by decide +kernel) rfl fun K hK =>?_|refine .lead _ (O1) ?_|refine .lead _ (O2) ?_|refine .flat _ (h1) rfl ?_|refine .lead _ (h2) ?_|refine .lead _ (h3) ?_|refine .lead _ (h4) ?_|refine .flat _ (h5) rfl ?_|refine .lead _ (h6) ?_|refine .lead _ (h7) ?_|refine .flat _ (vh _ _) rfl ?_|refine .flat _ (OL _ _) rfl ?_|(refine .ay [0,1,2,3,4,5,6,7,8,9,10,11,12,13,14,15,16,17] hK ?_;clear hK K)|(with_reducible refine .done (hK _ ?_);clear hK K)|refine J.of rfl ?_|(with_reducible refine aq.aH (fun h =>?_) (fun h =>?_) <;>try simp only[h])) <;>try simp only[aK,R,decide_true,simprocAttr])
 all_goals clear R
 all_goals trace_state
def jg(x:ar)(o:List ar):List ar:=(o.takeWhile fun a=>decide (a.day≤x.day))++x::o.dropWhile fun a=>decide (a.day≤x.day)
def MX(l:List ar):List ar:=l.foldl (fun o x=>jg x o) []
theorem ahQ(l:List ar)(i:Nat)(o:List Nat):(fJ (fun i=>(ah l i).day) i o).map (ah l)=jg (ah l i) (o.map (ah l)):=by
 simp only[fJ,jg,zx4,zz9,List.takeWhile_map,List.dropWhile_map];rfl
theorem aki(l:List ar)(o:List Nat):(qu (fun i=>(ah l i).day) o).map (ah l)=MX (o.map (ah l)):=by
 have:∀ (o a:List Nat),(o.foldl (fun o i=>fJ (fun i=>(ah l i).day) i o) a).map (ah l)=(o.map (ah l)).foldl (fun o x=>jg x o) (a.map (ah l)):=by
  intro o
  induction o with
  |nil=>intro a;rfl
  |cons i o ih=>intro a;rw[List.foldl_cons,ih,ahQ];rfl
 exact this o []
theorem IY(x:ar):∀ o:List ar,o.Pairwise (fun a b=>a.day≤b.day)→(jg x o).Pairwise (fun a b=>a.day≤b.day)
 | [],_=>by simp[jg]
 |a::o,h=>by
  obtain ⟨h1,h2⟩:=zw9.1 h;by_cases ha:a.day≤x.day
  ·have e:jg x (a::o)=a::jg x o:=by simp[jg,ha]
   rw[e];refine zw9.2 ⟨fun b hb =>?_,IY x o h2⟩;have hb2:b∈(o.takeWhile fun a=>decide (a.day≤x.day))++x::o.dropWhile fun a=>decide (a.day≤x.day):=hb;rcases zy6.1 hb2 with h3 | h3
   ·exact h1 b ((List.takeWhile_sublist _).subset h3)
   ·rcases zx8.1 h3 with rfl | h3
    ·exact ha
    ·exact h1 b ((List.dropWhile_sublist _).subset h3)
  ·have e:jg x (a::o)=x::a::o:=by simp[jg,ha]
   rw[e];refine zw9.2 ⟨fun b hb =>?_,h⟩;rcases zx8.1 hb with rfl | hb
   ·omega
   ·have:=h1 b hb;omega
theorem DS:∀ (B o:List ar),o.Pairwise (fun a b=>a.day≤b.day)→(B.foldl (fun o y=>jg y o) o).Pairwise (fun a b=>a.day≤b.day)
 | [],_,h=>h
 |y::B,o,h=>DS B _ (IY y o h)
def uJ(add:List ao→ao→List ao)(bs:List ao)(es:List ar):List ao:=es.foldl (fun bs x=>(cX add bs x).getD bs) bs
theorem Kl(add:List ao→ao→List ao)(l:List ar):∀ (o:List Nat) (s:List ao×List Nat),(o.foldl (gG add l) s).1=uJ add s.1 (o.map (ah l))
 | [],_=>rfl
 |i::o,s=>by
  rw[List.foldl_cons,Kl add l o];simp only[uJ,zz9,List.foldl_cons,gG];cases cX add s.1 (ah l i) <;>rfl
theorem ahM(l:List ar)(day known:Int):dg l day known=uJ eE [] (MX ((iZ l day known).map (ah l))):=by
 rw[←aki];exact Kl eE l (fH l day known) ([],[])
theorem Nq{b c:ao}{y:ar}(h:dG b y=some c):c.no=b.no:=by
 simp only[dG] at h
 (repeat' split at h) <;>first | (cases h;done) | (cases h;rfl)
theorem al4(b:ao)(y:ar):((dG b y).getD b).no=b.no:=by
 cases h:dG b y with
 |none=>rfl
 |some c=>exact Nq h
theorem PK(add:List ao→ao→List ao){bs:List ao}(ae:(bs.map (·.no)).Nodup){y:ar}(hk:¬(y.kind=1∨y.kind=2)) :
  (cX add bs y).getD bs=bs.map fun c=>if c.no=y.cG then (dG c y).getD c else c:=by
 simp only[cX,if_neg hk];cases hg:cI bs y.cG with
 |none =>
  have hn:=p6.1 hg;simp only[Option.getD_none]
  symm
  rw[List.map_congr_left (g:=id) fun c hc =>?_,List.map_id];rw[if_neg fun e=>hn (zx2.2 ⟨c,hc,e⟩)];rfl
 |some b =>
  obtain ⟨hb,hbn⟩:=rh hg;have huniq:∀ c∈bs,c.no=y.cG→c=b:=fun c hc e=>by
   have:=tu ae hc;rw[e,hg] at this;exact (Option.some.inj this).symm
  cases ht:dG b y with
  |none =>
   simp only[Option.map_none,Option.getD_none,ht]
   symm
   rw[List.map_congr_left (g:=id) fun c hc =>?_,List.map_id];by_cases e:c.no=y.cG
   ·rw[if_pos e,huniq c hc e,ht];rfl
   ·rw[if_neg e];rfl
  |some d =>
   have hdn:d.no=y.cG:=(Nq ht).trans hbn;simp only[ht,zy5,Option.getD_some,mw,hdn];refine List.map_congr_left fun c hc =>?_;by_cases e:c.no=y.cG
   ·rw[if_pos e,if_pos e,huniq c hc e,ht];rfl
   ·rw[if_neg e,if_neg e]
theorem al5(b:ao)(y:ar):((dG b y).getD b).cd=b.cd:=by
 simp only[dG]
 (repeat' split) <;>rfl
theorem al3(b:ao)(y:ar):((dG b y).getD b).cu=if y.kind=3∨y.kind=4∨y.kind=5 then b.cu else if b.cu≥0 then b.cu else y.day:=by
 simp only[dG]
 (repeat' split) <;>first | rfl | (exfalso;omega)
inductive fD (bs:List ao) (no:Int):Int→Prop
 |self:fD bs no no
 |lO {b:ao} : b∈bs→fD bs no b.cm→fD bs no b.no
theorem fD.trans{bs:List ao}{a b c:Int}(h1:fD bs a b)(h2:fD bs b c):fD bs a c:=by
 induction h2 with
 |self=>exact h1
 |lO hb _ ih=>exact .lO hb ih
theorem fD.iF{bs:List ao}{a b:Int}(h:fD bs a b)(ha:a∈bs.map (·.no)):b∈bs.map (·.no):=by
 cases h with
 |self=>exact ha
 |lO hb _=>exact zx2.2 ⟨_,hb,rfl⟩
theorem fD.yN{bs cs:List ao}(hp:bs.Perm cs){a b:Int}(h:fD bs a b):fD cs a b:=by
 induction h with
 |self=>exact .self
 |lO hb _ ih=>exact .lO (hp.mem_iff.1 hb) ih
noncomputable def wc(bs:List ao)(no y:Int):Bool:=@decide (fD bs no y) (Classical.propDecidable _)
theorem we{bs:List ao}{no y:Int} : wc bs no y=true↔fD bs no y:=by simp[wc]
noncomputable def l9(bs:List ao)(no:Int):List Int:=dX ((bs.filter fun b=>wc bs no b.no).map (·.no))
noncomputable def oR(l:List ar)(no known:Int):List Int×Int:=if dY l [ea no 9999] [known]=0 then (match cI (dg l 100000 known) no with
 |none=>([],42)
 |some _=>(l9 (dg l 100000 known) no,0)) else ([],dY l [ea no 9999] [known])
theorem aix{bs:List ao}{no y:Int} : y∈l9 bs no↔y∈bs.map (·.no)∧fD bs no y:=by
 simp only[l9];rw[(uM _).mem_iff,zx2];constructor
 ·rintro ⟨b,hb,rfl⟩;obtain ⟨h1,h2⟩:=zw4.1 hb;exact ⟨zx2.2 ⟨b,h1,rfl⟩,we.1 h2⟩
 ·rintro ⟨h1,h2⟩;obtain ⟨b,hb,rfl⟩:=zx2.1 h1;exact ⟨b,zw4.2 ⟨hb,we.2 h2⟩,rfl⟩
def dJ(bs:List ao)(i:Nat):ao:=bs.getD i default
theorem qS{bs:List ao}{i:Nat}(h:i<bs.length):bs[i]=dJ bs i:=by simp[dJ,zz2,h]
theorem vF{bs:List ao}{i:Nat}(h:i<bs.length):dJ bs i∈bs:=by rw[←qS h];exact zx6 h
theorem sJ{bs:List ao}{b:ao}(h:b∈bs):∃ i,i<bs.length∧dJ bs i=b:=by
 obtain ⟨i,hi,rfl⟩:=List.getElem_of_mem h;exact ⟨i,hi,(qS hi).symm⟩
def W9(d b:ao):Prop:=d.no=b.cm∧d.cd=b.cd∧d.born≤b.born∧¬(0≤d.cu∧d.cu<b.born)
structure iS (bs:List ao) (t:Int):Prop where
 lq:(bs.map (·.no)).Nodup
 cm:∀ j,j<bs.length→(dJ bs j).cm=0∨∃ i,i<j∧W9 (dJ bs i) (dJ bs j)
 no:∀ b∈bs,1≤b.no∧b.no≤9999∧b.born≤t
theorem iS.mono{bs:List ao}{t t':Int}(h:iS bs t)(ht:t≤t'):iS bs t':=⟨h.lq,h.cm,fun b hb=>by have:=h.no b hb;omega⟩
theorem ajP{x:ar}(h:fU x=true)(hk:x.kind=1∨x.kind=2):1≤x.cG∧x.cG≤9999∧0≤x.cm∧(x.kind=2→x.cm=0):=by
 simp only[fU,zz3,decide_eq_true_eq] at h;obtain ⟨h1,h2,-⟩:=h;simp only[j7,if_neg (show ¬ x.kind=0 by omega),zz3,bP,decide_eq_true_eq] at h1;have ae:x.cm=(kU x).cm:=congrArg ar.cm h2;simp only[kU] at ae;rcases hk with hk | hk
 ·rw[if_pos hk] at h1;simp only[zz3,decide_eq_true_eq] at h1;exact ⟨by omega,by omega,by omega,fun h=>by omega⟩
 ·rw[if_neg (by omega)] at ae;exact ⟨by omega,by omega,by omega,fun _=>ae⟩
theorem aiv{bs:List ao}{t:Int}(h:iS bs t){x:ar}(hx:fU x=true)(h0:x.kind≠0)(ht:t≤x.day):iS ((cX eE bs x).getD bs) x.day:=by
 by_cases hk:x.kind=1∨x.kind=2
 ·obtain ⟨k1,k2,k3,k4⟩:=ajP hx hk;simp only[cX,if_pos hk];split
  ·rename_i hc;obtain ⟨hg,hdm⟩:=hc;have hlen:∀ i,i<bs.length→dJ (bs++[eH x]) i=dJ bs i:=fun i hi=>by
    simp only[dJ,zz2,zx0 hi]
   refine ⟨?_,fun j hj =>?_,fun b hb =>?_⟩
   ·have:=vA (add:=eE) (bs:=bs) (bs':=eE bs (eH x)) (x:=x) qN h.lq (by simp only[cX,if_pos hk,hg,hdm,and_self,if_true]);exact this
   ·simp only[Option.getD_some,eE,zz7,List.length_singleton] at hj ⊢;by_cases hj2:j<bs.length
    ·rw[hlen j hj2];rcases h.cm j hj2 with h1 | ⟨i,hi,h1⟩
     ·exact .inl h1
     ·exact .inr ⟨i,hi,by rw[hlen i (by omega)];exact h1⟩
    ·have hj3:j=bs.length:=by omega
     have hl:dJ (bs++[eH x]) j=eH x:=by subst hj3;simp[dJ]
     rw[hl];by_cases hz:x.cm=0
     ·exact .inl hz
     ·right
      have:¬ x.cm≤0:=by omega
      simp only[fr,decide_eq_false this,Bool.false_or] at hdm;cases hgd:cI bs x.cm with
      |none=>rw[hgd] at hdm;cases hdm
      |some d =>
       rw[hgd] at hdm;obtain ⟨hdm1,hdn⟩:=rh hgd;obtain ⟨i,hi,rfl⟩:=sJ hdm1;simp only[zz3,Bool.not_eq_true',Bool.and_eq_false_iff,decide_eq_true_eq,decide_eq_false_iff_not] at hdm;refine ⟨i,by omega,?_⟩;rw[hlen i hi];have:=(h.no _ hdm1).2.2;refine ⟨hdn,hdm.1,by simp only[eH];omega,by simp only[eH];omega⟩
   ·simp only[Option.getD_some,eE] at hb;rcases zy6.1 hb with hb | hb
    ·have:=h.no b hb;omega
    ·simp only[zv7] at hb;subst hb;exact ⟨k1,k2,Int.le_refl _⟩
  ·exact h.mono ht
 ·rw[PK eE h.lq hk];have hf:∀ b:ao,(if b.no=x.cG then (dG b x).getD b else b).no=b.no∧(if b.no=x.cG then (dG b x).getD b else b).cd=b.cd∧(if b.no=x.cG then (dG b x).getD b else b).cm=b.cm∧(if b.no=x.cG then (dG b x).getD b else b).born=b.born ∧
    ((if b.no=x.cG then (dG b x).getD b else b).cu=b.cu∨(if b.no=x.cG then (dG b x).getD b else b).cu=x.day):=fun b=>by
   split
   ·refine ⟨al4 b x,al5 b x,?_,?_,?_⟩
    ·simp only[dG];(repeat' split) <;>rfl
    ·simp only[dG];(repeat' split) <;>rfl
    ·rw[al3]
     (repeat' split) <;>first | exact .inl rfl | exact .inr rfl
   ·exact ⟨rfl,rfl,rfl,rfl,.inl rfl⟩
  generalize hF:(fun c:ao=>if c.no=x.cG then (dG c x).getD c else c)=f;have hf2:∀ b,(f b).no=b.no∧(f b).cd=b.cd∧(f b).cm=b.cm∧(f b).born=b.born∧((f b).cu=b.cu∨(f b).cu=x.day):=fun b=>by rw[←hF];exact hf b
  clear hf hF;have hb:∀ i,i<bs.length→dJ (bs.map f) i=f (dJ bs i):=fun i hi=>by
   simp[dJ,zz2,hi]
  refine ⟨?_,fun j hj =>?_,fun b hb =>?_⟩
  ·have e:(bs.map f).map (·.no)=bs.map (·.no):=by
    rw[List.map_map];exact List.map_congr_left fun b _=>(hf2 b).1
   rw[e];exact h.lq
  ·rw[zy3] at hj;rw[hb j hj,(hf2 _).2.2.1];rcases h.cm j hj with h1 | ⟨i,hi,h1,h2,h3,h4⟩
   ·exact .inl h1
   ·refine .inr ⟨i,hi,?_⟩;rw[hb i (by omega)];obtain ⟨a1,a2,a3,a4,a5⟩:=hf2 (dJ bs i);obtain ⟨b1,b2,b3,b4,b5⟩:=hf2 (dJ bs j);have:=(h.no _ (vF hj)).2.2;refine ⟨by rw[a1,b3,h1],by rw[a2,b2,h2],by rw[a4,b4];exact h3,?_⟩;rw[b4];rcases a5 with a5 | a5 <;>rw[a5]
    ·exact h4
    ·omega
  ·obtain ⟨b',hb',rfl⟩:=zx2.1 hb;obtain ⟨a1,a2,a3,a4,a5⟩:=hf2 b';have:=h.no b' hb';rw[a1,a4];omega
theorem Jt:∀ (es:List ar) {bs:List ao} {t:Int},iS bs t→(∀ e∈es,fU e=true∧e.kind≠0∧t≤e.day)→es.Pairwise (fun a b=>a.day≤b.day)→∃ t',iS (uJ eE bs es) t'
 | [],_,t,h,_,_=>⟨t,h⟩
 |e::es,_,t,h,h1,h2=>by
  obtain ⟨k1,k2,k3⟩:=h1 e List.mem_cons_self;obtain ⟨p1,p2⟩:=zw9.1 h2;exact Jt es (aiv h k1 k2 k3) (fun e' he=>⟨(h1 e' (List.mem_cons_of_mem _ he)).1,(h1 e' (List.mem_cons_of_mem _ he)).2.1,p1 e' he⟩) p2
theorem ahP{x y:ar}{o:List ar} : y∈jg x o↔y=x∨y∈o:=by
 have e:y∈o↔y∈o.takeWhile (fun a=>decide (a.day≤x.day))∨y∈o.dropWhile (fun a=>decide (a.day≤x.day)):=by rw[←zy6,List.takeWhile_append_dropWhile]
 simp only[jg,zy6,zx8,e];constructor <;>rintro (h | h | h) <;>simp[h]
theorem DR{y:ar} : ∀ (l o:List ar),y∈l.foldl (fun o x=>jg x o) o↔y∈l∨y∈o
 | [],o=>by simp
 |x::l,o=>by
  rw[List.foldl_cons,DR l,ahP,zx8];constructor
  ·rintro (h | h | h) <;>simp[h]
  ·rintro ((h | h) | h) <;>simp[h]
theorem ahL{l:List ar}(hok:dE l=true)(day known:Int):∃ t,iS (dg l day known) t:=by
 rw[ahM];refine Jt _ (t:=0) ⟨List.nodup_nil,fun j hj=>absurd hj (Nat.not_lt_zero _),fun b hb=>by cases hb⟩ (fun e he =>?_) (DS _ _ List.Pairwise.nil);have he:=((DR _ _).1 he).resolve_right (by simp);obtain ⟨i,hi,rfl⟩:=zx2.1 he;simp only[iZ,zw4,zz3,decide_eq_true_eq,gF,zw7] at hi;have hil:i<l.length:=hi.1.1;have hoe:=(yB.1 hok).2.1 (ah l i) (by rw[←lU hil];exact zx6 hil);refine ⟨hoe,hi.2.1,?_⟩;simp only[fU,zz3,bP,decide_eq_true_eq] at hoe;omega
theorem iS.one{bs:List ao}{t:Int}(h:iS bs t){i j:Nat}(hi:i<bs.length)(hj:j<bs.length)(e:(dJ bs i).no=(dJ bs j).no):i=j:=by
 have hp:=List.pairwise_iff_getElem.1 h.lq;have key:∀ i j,i<j→j<bs.length→(dJ bs i).no≠(dJ bs j).no:=fun i j hij hj=>by
  have:=hp i j (by simp;omega) (by simpa using hj) hij;rw[List.getElem_map,List.getElem_map,qS hj,qS (show i<bs.length by omega)] at this;exact this
 rcases Nat.lt_trichotomy i j with hl | hl | hl
 ·exact absurd e (key i j hl hj)
 ·exact hl
 ·exact absurd e.symm (key j i hl hi)
theorem iS.wb{bs:List ao}{t:Int}(h:iS bs t){i:Nat}(hi:i<bs.length){y:Int}(ae:fD bs (dJ bs i).no y):∃ j,j<bs.length∧(dJ bs j).no=y∧i≤j∧(dJ bs j).cd=(dJ bs i).cd∧(dJ bs i).born≤(dJ bs j).born:=by
 induction ae with
 |self=>exact ⟨i,hi,rfl,zz8 _,rfl,Int.le_refl _⟩
 | @lO b hb _ ih =>
  obtain ⟨j,hj,e,h1,h2,h3⟩:=ih;obtain ⟨k,hk,rfl⟩:=sJ hb;rcases h.cm k hk with h4 | ⟨d,ae,h5,h6,h7,-⟩
  ·have:=(h.no _ (vF hj)).1;rw[e,h4] at this;omega
  ·have hdj:d=j:=h.one (by omega) hj (by rw[h5,e]);subst hdj;exact ⟨k,hk,rfl,by omega,by rw[←h6,h2],by omega⟩
theorem iS.Xb{bs:List ao}{t:Int}(h:iS bs t){i:Nat}(hi:i<bs.length)(h0:(dJ bs i).cm≠0):¬ fD bs (dJ bs i).no (dJ bs i).cm:=fun ae=>by
 obtain ⟨j,hj,e,h1,-⟩:=h.wb hi ae;rcases h.cm i hi with h2 | ⟨d,ae,h5,-⟩
 ·exact h0 h2
 ·have:d=j:=h.one (by omega) hj (by rw[h5,e]);omega
def nk(bs:List ao)(S T:List Int)(no:Int):Prop:=(∀ x∈S,x∈T)∧no∈T∧(∀ x∈T,x∈S∨fD bs no x)∧∀ x∈T,x∈S∨∀ i,i<bs.length→(dJ bs i).cm=x→(dJ bs i).no∈T
def km(bs:List ao)(S T:List Int)(no:Int)(ay:List Nat):Prop:=(∀ x∈S,x∈T)∧no∈T∧(∀ x∈T,x∈S∨fD bs no x)∧(∀ x∈T,x∈S∨x=no∨∀ i,i<bs.length→(dJ bs i).cm=x→(dJ bs i).no∈T)∧∀ i∈ay,(dJ bs i).cm=no→(dJ bs i).no∈T
theorem nk.self{bs:List ao}{S:List Int}{no:Int}(h:no∈S):nk bs S S no:=⟨fun _ h=>h,h,fun _ h=>.inl h,fun _ h=>.inl h⟩
theorem km.zero(bs:List ao)(S:List Int)(no:Int):km bs S (S++[no]) no [] :=
 ⟨fun x h=>by simp[h],by simp,fun x h=>by
  rcases zy6.1 h with h | h
  ·exact .inl h
  ·rw[zv7.1 h];exact .inr .self,fun x h=>by
  rcases zy6.1 h with h | h
  ·exact .inl h
  ·exact .inr (.inl (zv7.1 h)),by simp⟩
theorem km.skip{bs:List ao}{S T:List Int}{no:Int}{ay:List Nat}(h:km bs S T no ay){i:Nat}(ae:(dJ bs i).cm≠no):km bs S T no (ay++[i]) :=
 ⟨h.1,h.2.1,h.2.2.1,h.2.2.2.1,fun j hj hj2=>by
  rcases zy6.1 hj with hj | hj
  ·exact h.2.2.2.2 j hj hj2
  ·rw[zv7.1 hj] at hj2;exact absurd hj2 ae⟩
theorem km.step{bs:List ao}{S T U:List Int}{no:Int}{ay:List Nat}(h:km bs S T no ay){i:Nat}(hi:i<bs.length)(ae:(dJ bs i).cm=no)(hf:nk bs T U (dJ bs i).no):km bs S U no (ay++[i]):=by
 obtain ⟨h1,h2,h3,h4,h5⟩:=h;obtain ⟨f1,f2,f3,f4⟩:=hf;refine ⟨fun x hx=>f1 x (h1 x hx),f1 _ h2,fun x hx =>?_,fun x hx =>?_,fun j hj hj2 =>?_⟩
 ·rcases f3 x hx with h | h
  ·exact h3 x h
  ·exact .inr (fD.trans (.lO (vF hi) (by rw[ae];exact .self)) h)
 ·rcases f4 x hx with h | h
  ·rcases h4 x h with h | h | h
   ·exact .inl h
   ·exact .inr (.inl h)
   ·exact .inr (.inr fun j hj hj2=>f1 _ (h j hj hj2))
  ·exact .inr (.inr h)
 ·rcases zy6.1 hj with hj | hj
  ·exact f1 _ (h5 j hj hj2)
  ·rw[zv7.1 hj];exact f2
theorem km.done{bs:List ao}{S T:List Int}{no:Int}{ay:List Nat}(h:km bs S T no ay)(hp:ay.Perm (List.range bs.length)):nk bs S T no:=by
 obtain ⟨h1,h2,h3,h4,h5⟩:=h;refine ⟨h1,h2,h3,fun x hx =>?_⟩;rcases h4 x hx with h | h | h
 ·exact .inl h
 ·exact .inr fun i hi ae=>h5 i (hp.mem_iff.2 (zw7.2 hi)) (ae.trans h)
 ·exact .inr h
theorem nk.wb{bs:List ao}{T:List Int}{no:Int}(h:nk bs [] T no)(y:Int):y∈T↔fD bs no y:=by
 obtain ⟨h1,h2,h3,h4⟩:=h;constructor
 ·intro hy;exact (h3 y hy).resolve_left (by simp)
 ·intro hy
  induction hy with
  |self=>exact h2
  |lO hb _ ih =>
   obtain ⟨i,hi,rfl⟩:=sJ hb;exact (h4 _ ih).resolve_left (by simp) i hi rfl
def rem(bs:List ao)(S:List Int):Nat:=bs.countP fun b=>decide (b.no∉S)
theorem y5{bs:List ao}{S T:List Int}(h:∀ x∈S,x∈T):rem bs T≤rem bs S:=by
 refine List.countP_mono_left fun b _ hb =>?_;simp only[decide_eq_true_eq] at hb ⊢;exact fun h2=>hb (h _ h2)
theorem akT{bs:List ao}{S:List Int}{no:Int}(h1:no∈bs.map (·.no))(h2:no∉S):rem bs (S++[no])<rem bs S:=by
 obtain ⟨b,hb,rfl⟩:=zx2.1 h1;obtain ⟨C,D,rfl⟩:=List.append_of_mem hb;have k1:rem C (S++[b.no])≤rem C S:=y5 fun x hx=>by simp[hx]
 have k2:rem D (S++[b.no])≤rem D S:=y5 fun x hx=>by simp[hx]
 have k3:decide (b.no∉S++[b.no])=false:=by simp
 have k4:decide (b.no∉S)=true:=by simp[h2]
 simp only[rem,List.countP_append,List.countP_cons,k3,k4] at k1 k2 ⊢;simp only[zz6,if_false,if_true];omega
def eW(bs:List ao)(S:List Int):List (Nat×aj):=[(1000000,.box (.mref 1000003)),(1000001,.box (fu bs)),(1000002,.box (.func 95 [.ptr 1000000 [],.ptr 1000001 [],.ptr 1000002 []])),(1000003,.cC (S.map enc) (List.replicate S.length (.bool true)))]
def rf(bs:List ao)(S:List Int)(no:Int):cV:=fun r os'=>r=jq []∧∃ T,os'=eW bs T∧nk bs S T no
theorem Ym{bs:List ao}{S:List Int} : ∀ m,av (eW bs S) m=true→1000000≤m:=fun m hm=>by
 simp only[eW,av,ak] at hm
 (repeat' split at hm) <;>first | omega | (simp at hm;done)
theorem ij{bs:List ao}{S:List Int}{m:Nat} : av (eW bs S) m=decide (1000000≤m∧m≤1000003):=by
 simp only[eW,av,ak]
 (repeat' split) <;>simp <;>omega
theorem oH{bs:List ao}{S T:List Int}{n:Nat}{x:aj}(h:ak (eW bs T) n=some x):x.only (av (eW bs S))=true∧x.eR=true:=by
 simp only[eW,ak] at h
 (repeat' split at h) <;>first
  |(cases h;done)
  |(cases h;simp[aj.only,I.only,I.bZ,ij,aj.eR,iE,eI,rJ])
theorem Yn{bs:List ao}{S:List Int}{os0:List (Nat×aj)}(h:∀ n,av (eW bs S) n=true→ak os0 n=ak (eW bs S) n):gh [] (eW bs S) os0:=by
 refine ⟨fun m x hx=>⟨?_,oH hx⟩,fun m m' _ _ e=>e⟩;rw[show bD [] m=m from rfl,h m (by simp[av,hx])];simp only[eW,ak] at hx ⊢
 (repeat' split at hx) <;>first
  |(cases hx;done)
  |(cases hx;simp_all[aj.aQ,I.aQ,I.cR,bD,hE,uD,m5 _ (fu bs) (iE.1 bs)])
theorem Mv{ts:List (Nat×I)}{os os':List (Nat×aj)}{bs:List ao}{T:List Int}{post:cV}(e:os'=eW bs T)(ho:∀ n,av os' n=true→ak os n=ak os' n)(hp:post (jq []) os'):kR [] post (au ts os):=by
 subst e;refine ⟨eW bs T,[],fun n x hx=>⟨?_,oH hx⟩,trivial,hp⟩
 show ak os n=some x
 rw[ho n (by simp[av,hx])];exact hx
theorem air{n i:Nat}{ay left:List Nat}(hC:(ay++left).Perm (List.range n))(hi:i∈left):(left.filter (· != i)).length<left.length∧((ay++[i])++left.filter (· != i)).Perm (List.range n):=by
 refine ⟨?_,?_⟩
 ·rcases Nat.lt_or_ge (left.filter (· != i)).length left.length with h | h
  ·exact h
  ·have:=List.filter_eq_self.1 (List.Sublist.eq_of_length_le List.filter_sublist h) i hi;simp at this
 have hnd:left.Nodup:=(List.nodup_append.1 (hC.nodup_iff.2 List.nodup_range)).2.1;have h1:left.Perm (i::left.filter (· != i)):=by
  have h2:(left.filter (· == i)).length=1:=by
   have:=List.nodup_iff_count.1 hnd i;have h3:=List.count_pos_iff.2 hi;have h4:left.count i=(left.filter (· == i)).length:=by rw[List.count,List.countP_eq_length_filter]
   omega
  have h5:left.filter (· == i)=[i]:=by
   obtain ⟨a,ha⟩:=List.length_eq_one_iff.1 h2;have:a∈left.filter (· == i):=by rw[ha];simp
   have:=(zw4.1 this).2;simp at this;rw[ha,this]
  have h6:=(List.filter_append_perm (· == i) left).symm;rw[h5] at h6;exact h6
 refine List.Perm.trans ?_ hC;rw[zz5];exact (h1.symm).append_left ay
def vq(bs:List ao)(no:Int)(s:List Int×List Nat×List Nat×Option Nat):af :=
 au [(0,.int .i64 no),(1,.ptr 1000000 []),(2,.ptr 1000001 []),(3,.ptr 1000002 []),(16,.dx 16)] ((16,.it (dc bs) (bs.map fun b=>.ref (enc (⟨b⟩:eh))) s.2.2.1 s.2.2.2)::eW bs s.1)
theorem Ad(bs:List ao)(S:List Int)(no:Int)(hno:no∈bs.map (·.no))(ih:∀ T no',rem bs T<rem bs S→no'∈bs.map (·.no)→cH Tryz.prog 95 [enc no',.ptr 1000000 [],.ptr 1000001 [],.ptr 1000002 []] (eW bs T) (rf bs T no')) :
  cH Tryz.prog 95 [enc no,.ptr 1000000 [],.ptr 1000001 [],.ptr 1000002 []] (eW bs S) (rf bs S no):=by
 refine cH.bu Tryz.func95 R8 T4 Wa (zz0 rfl) (zz0 rfl) Ym (fun hwf W0 D0 E1 =>?_);simp only[CB,Mc,bl,zz4,Nat.reduceAdd];clear hwf;have hlk:=x9 pU no S;rw[fY] at hlk;by_cases hS:no∈S
 ·have ae:decide (no∈S)=true:=decide_eq_true hS;simp only[eW];have R:=u8 @hlk (u8 @ae (u8 @fM (u8 @cA (u8 @dT (u8 @aN @ab)))))
  repeat' ((first |(with_reducible refine .guard (fun hb =>?_) (fun hb =>?_) <;>try simp only[hb])|refine J.aI (by decide +kernel) rfl fun K hK =>?_|(refine .ay [0,1,2,3,5,6,9,16,18,28] hK ?_;clear hK K)|(with_reducible refine .done (hK _ ?_);clear hK K)|refine J.of rfl ?_|(with_reducible refine aq.aH (fun h =>?_) (fun h =>?_) <;>try simp only[h])) <;>try simp only[aK,R,simprocAttr])
  all_goals clear R
  exact Mv rfl (fun n hn=>rfl) ⟨rfl,S,rfl,nk.self hS⟩
 have ae:decide (no∈S)=false:=decide_eq_false hS;have hup:=JI pU no S;rw[fY] at hup;have hadd:lJ S no=S++[no]:=by simp[lJ,hS]
 rw[hadd] at hup;have hrem:=akT hno hS;have hF0:=km.zero bs S no;simp only[eW];have R:=u8 @hlk (u8 @ae (u8 @hup (u8 @fM (u8 @cA (u8 @iE (u8 @dT (u8 @aN @ab)))))))
 repeat' ((first |(with_reducible refine .guard (fun hb =>?_) (fun hb =>?_) <;>try simp only[hb])|refine J.aI (by decide +kernel) rfl fun K hK =>?_|(refine .ay [0,1,2,3,5,6,9,16,18,28] hK ?_;clear hK K)|(with_reducible refine .done (hK _ ?_);clear hK K)|refine J.of rfl ?_|(with_reducible refine aq.aH (fun h =>?_) (fun h =>?_) <;>try simp only[h])) <;>try simp only[aK,R,simprocAttr])
 all_goals clear R
 refine J.loop (vq bs no) (fun s=>km bs S s.1 no s.2.1∧(s.2.1++s.2.2.1).Perm (List.range bs.length)) (fun s=>s.2.2.1.length) (S++[no],[],List.range bs.length,none) ⟨hF0,by simp⟩ ?_ ?_
 ·simp only[vq,eW];refine aF.cK ?_ (fun n =>?_)
  ·simp[aY,aZ]
  ·simp only[cZ,oS,dc,zy3]
   (repeat' split) <;>simp_all
 rintro ⟨T,ay,left,cur⟩ ⟨hA,hC⟩;simp only at hA hC;have hT1:=hA.1;simp only[vq,eW];by_cases hl:left=[]
 ·subst hl;have hF:=hA.done (by simpa using hC);refine .az (by decide +kernel) fun K hK =>?_;simp only[xD,ab,simprocAttr]
  try simp only[dT,JM,ab,simprocAttr]
  refine .done (hK _ ?_);clear hK K;refine J.seq ?_;refine J.bX ?_;simp only[aq,ab,simprocAttr];refine ⟨fun h =>?_,fun h =>?_⟩
  case refine_1=>cases h
  refine J.exit ?_;try simp only[aG,cj,simprocAttr]
  rw[lx];exact Mv rfl (fun n hn=>by
   rw[ij] at hn;simp only[decide_eq_true_eq] at hn;simp only[eW,ak];rw[if_neg (by omega)]) ⟨rfl,T,rfl,hF⟩
 ·refine .az (by decide +kernel) fun K hK =>?_;simp only[xD,ab,simprocAttr]
  try simp only[dT,ab,simprocAttr]
  refine bh.iH hl fun i hi =>?_;have hib:i<bs.length:=zw7.1 (hC.mem_iff.1 (by simp[hi]));refine ⟨enc (bs[i]).no,.ref (enc (⟨bs[i]⟩:eh)),by simp[dc,hib],by simp[hib],?_⟩;obtain ⟨hm,hC2⟩:=air hC hi;have hent:nC (dc bs) (bs.map fun b=>.ref (enc (⟨b⟩:eh))) (some i)=some (.tuple [.int .i64 (bs[i]).no,.ref (enc (⟨bs[i]⟩:eh))]):=by
   simp[nC,dc,hib,fY]
  have hbi:=qS hib;have hmem:(bs[i]).no∈bs.map (·.no):=zx2.2 ⟨_,zx6 hib,rfl⟩
  try simp only[ab,simprocAttr]
  refine .done (hK _ ?_);clear hK K;refine J.seq ?_;refine J.bX ?_;simp only[aq,ab,simprocAttr];refine ⟨fun h =>?_,fun h =>?_⟩
  case refine_2=>cases h
  refine J.skip ?_;try simp only[aG,simprocAttr]
  refine J.block ?_;rcases q:((bs[i]).cm==no)
  ·have hq:(dJ bs i).cm≠no:=by rw[←hbi];simpa using q
   have R:=u8 @hent (u8 @q (u8 @fM (u8 @cA (u8 @iE (u8 @dT (u8 @aN @ab))))))
   repeat' ((first |(with_reducible refine .guard (fun hb =>?_) (fun hb =>?_) <;>try simp only[hb])|refine J.aI (by decide +kernel) rfl fun K hK =>?_|(refine .ay [0,1,2,3,5,6,9,16,18,28] hK ?_;clear hK K)|(with_reducible refine .done (hK _ ?_);clear hK K)|refine J.of rfl ?_|(with_reducible refine aq.aH (fun h =>?_) (fun h =>?_) <;>try simp only[h])) <;>try simp only[aK,R,simprocAttr])
   all_goals clear R
   refine ⟨(T,ay++[i],left.filter (· != i),some i),⟨hA.skip hq,hC2⟩,hm,?_⟩;simp only[];refine aF.cK ?_ (fun n =>?_)
   ·simp[aY,aZ]
   ·simp only[cZ,oS];(repeat' split) <;>simp_all
  ·have hq:(dJ bs i).cm=no:=by rw[←hbi];simpa using q
   have hU:=ih T (bs[i]).no (Nat.lt_of_le_of_lt (y5 (S:=S++[no]) fun x hx=>(zy6.1 hx).elim (hA.1 x) fun h=>by rw[zv7.1 h];exact hA.2.1) hrem) hmem;have R:=u8 @hent (u8 @q (u8 @fM (u8 @cA (u8 @iE (u8 @dT (u8 @aN @ab))))))
   repeat' ((first |(with_reducible refine .guard (fun hb =>?_) (fun hb =>?_) <;>try simp only[hb])|refine J.aI (by decide +kernel) rfl fun K hK =>?_|(refine .ay [0,1,2,3,5,6,9,16,18,28] hK ?_;clear hK K)|(with_reducible refine .done (hK _ ?_);clear hK K)|refine J.of rfl ?_|(with_reducible refine aq.aH (fun h =>?_) (fun h =>?_) <;>try simp only[h])) <;>try simp only[aK,R,simprocAttr])
   all_goals clear R
   simp only[zy1,zy7];refine .bT false [] (eW bs T) [enc (bs[i]).no,.ptr 1000000 [],.ptr 1000001 [],.ptr 1000002 []] (rf bs T (bs[i]).no) rfl hU (Yn fun n hn=>by
    rw[ij,decide_eq_true_eq] at hn;simp only[eW,ak];rw[if_neg (by omega),if_neg (by omega)]) ⟨.inl ⟨rfl,rfl,rfl⟩,.inl ⟨rfl,by simp[I.only,ij],rfl⟩,.inl ⟨rfl,by simp[I.only,ij],rfl⟩,.inl ⟨rfl,by simp[I.only,ij],rfl⟩,trivial⟩ ?_ ?_
   ·rintro r os' ⟨rfl,U,rfl,-⟩;exact ⟨fun m x hx=>⟨(oH (S:=U) hx).1,(oH (S:=U) hx).2,fun h=>by cases h⟩,fun m m' _ _ e=>e,fun m hm=>by rw[ij] at hm ⊢;exact hm,fun m h1 h2=>(by rw[ij] at h1 h2;rw[h1] at h2;cases h2),rfl,fun h=>by cases h⟩
   rintro r os' ⟨rfl,U,rfl,hf⟩;have hA2:=hA.step hib hq (by rw[←hbi];exact hf);have hrh:=fun ρ=>m5 ρ (fu bs) (iE.1 bs)
   try simp only[dL,eW,zz9,zx3,aj.aQ,I.aQ,I.cR,bD,hE,uD,hrh,zy1,zy7,jq,ab,simprocAttr]
   refine .done (hK _ ?_);clear hK K;have R:=u8 @fM (u8 @cA (u8 @dT (u8 @aN @ab)))
   repeat' ((first |(with_reducible refine .guard (fun hb =>?_) (fun hb =>?_) <;>try simp only[hb])|refine J.aI (by decide +kernel) rfl fun K hK =>?_|(refine .ay [0,1,2,3,5,6,9,16,18,28] hK ?_;clear hK K)|(with_reducible refine .done (hK _ ?_);clear hK K)|refine J.of rfl ?_|(with_reducible refine aq.aH (fun h =>?_) (fun h =>?_) <;>try simp only[h])) <;>try simp only[aK,R,simprocAttr])
   all_goals clear R
   refine ⟨(U,ay++[i],left.filter (· != i),some i),⟨hA2,hC2⟩,hm,?_⟩;simp only[];refine aF.cK ?_ (fun n =>?_)
   ·simp[aY,aZ]
   ·simp only[cZ,oS];(repeat' split) <;>simp_all
theorem Ac(bs:List ao):∀ (k:Nat) (S:List Int) (no:Int),rem bs S≤k→no∈bs.map (·.no)→cH Tryz.prog 95 [enc no,.ptr 1000000 [],.ptr 1000001 [],.ptr 1000002 []] (eW bs S) (rf bs S no)
 |0,S,no,hk,hno=>Ad bs S no hno fun T no' h _=>absurd h (by omega)
 |k+1,S,no,hk,hno=>Ad bs S no hno fun T no' h hn'=>Ac bs k T no' (by omega) hn'
theorem O6(S:List Int)(b:ao):aB Tryz.prog 96 [.ref (enc (⟨b⟩:eh)),.ref (.cM (S.map enc) (List.replicate S.length (.bool true)))] (enc (decide (b.no∈S))):=by
 have hlk:=x9 pU b.no S;rw[fY] at hlk;refine aB.bu Tryz.func96 R9 T5 Wb (zz0 rfl) (fun hwf W0 D0 E1 =>?_);simp only[CC,Md,bl,zz4];clear hwf;have R:=u8 @hlk ez
 repeat' ((first |(with_reducible refine .guard (fun hb =>?_) (fun hb =>?_) <;>try simp only[hb])|refine J.aI (by decide +kernel) rfl fun K hK =>?_|(refine .ay [0,1,3] hK ?_;clear hK K)|(with_reducible refine .done (hK _ ?_);clear hK K)|refine J.of rfl ?_|(with_reducible refine aq.aH (fun h =>?_) (fun h =>?_) <;>try simp only[h])) <;>try simp only[aK,R,simprocAttr])
 all_goals clear R
theorem Un(n:Nat):I.bU (List.replicate n (.bool true))=true:=by
 induction n with
 |zero=>rfl
 |succ n ih=>simp only[List.replicate_succ,I.bU,I.bj,ih,zw3]
theorem JC(A:af)(k:Nat):∀ n,fy (df A (k+1)) (List.replicate n (.bool true))=some (List.replicate n (.bool true))
 |0=>rfl
 |n+1=>by
  have h:df A (k+1) (.bool true)=some (.bool true):=by simp[df,I.bj]
  simp only[List.replicate_succ,fy,h,JC A k n]
theorem Yg{A:af}{S:List Int}(h10:A.o 10=some (.box (.mref 32)))(h32:A.o 32=some (.cC (S.map enc) (List.replicate S.length (.bool true)))):a6 true A (.ptr 10 [])=some (.ref (.cM (S.map enc) (List.replicate S.length (.bool true)))):=by
 have h5:df A 9 (.mref 32)=some (.cM (S.map enc) (List.replicate S.length (.bool true))):=by
  rw[df];simp only[I.bj,zz6,if_false,h32];rw[if_pos (iW _),JC];rfl
 simp only[a6,cD,h10,if_true,mG,I.bj,zz6,if_false,h5];rfl
def rY:List (Nat×Nat):=[(1000000,10),(1000001,9),(1000002,11),(1000003,32)]
theorem Mw{a b:Nat}(ha:1000000≤a∧a≤1000003)(hb:1000000≤b∧b≤1000003)(h:bD rY a=bD rY b):a=b:=by
 rcases (by omega:a=1000000∨a=1000001∨a=1000002∨a=1000003) with rfl | rfl | rfl | rfl <;>rcases (by omega:b=1000000∨b=1000001∨b=1000002∨b=1000003) with rfl | rfl | rfl | rfl <;>first | rfl | (exact absurd h (by decide))
theorem M2 :
  (∀ (bs:List ao) (A:af) n b rest,dj A none n [] b (fu bs) rest (some .nilp)=aA rest (A.aO n (.box (fu bs))))∧(∀ (A:af) n b m rest,dj A none n [] b (.mref m) rest (some (.raw (.map none)))=aA rest (A.aO n (.box (.mref m)))) ∧
  (∀ (A:af) n b f xs rest,dj A none n [] b (.func f xs) rest (some .dh)=aA rest (A.aO n (.box (.func f xs)))) :=
 ⟨fun bs A n b rest=>by rw[ee (s:=none) (v:=fu bs) (old:=.nilp) rfl rfl rfl,gp],fun A n b m rest=>by rw[ee (s:=none) (v:=.mref m) (old:=.raw (.map none)) rfl rfl rfl,gp],fun A n b f xs rest=>by rw[ee (s:=none) (v:=.func f xs) (old:=.dh) rfl rfl rfl,gp]⟩
theorem OT(l:List ar)(no known:Int):aB Tryz.prog 32 [enc l,enc no,enc known] (.tuple [enc (oR l no known).1,enc (oR l no known).2]):=by
 have hC:=px l [ea no 9999] [known];refine aB.bu Tryz.func32 RH TB VJ (zz0 rfl) (fun hwf W0 D0 E1 =>?_);simp only[Cb,LK,bl,zz4,Nat.reduceAdd];clear hwf;simp only[oR];generalize hc:dY l [ea no 9999] [known]=e at hC ⊢;by_cases he:e=0
 case neg =>
  have hn:=mc he;have R:=u8 @hn (u8 @he (u8 @lL ez))
  repeat' ((first |(with_reducible refine .guard (fun hb =>?_) (fun hb =>?_) <;>try simp only[hb])|refine J.aI (by decide +kernel) rfl fun K hK =>?_|refine .flat _ (hC) rfl ?_|(refine .ay [0,1,2,6,7,8,9,10,11,20,31] hK ?_;clear hK K)|(with_reducible refine .done (hK _ ?_);clear hK K)|refine J.of rfl ?_|(with_reducible refine aq.aH (fun h =>?_) (fun h =>?_) <;>try simp only[h])) <;>try simp only[aK,R,simprocAttr])
  all_goals clear R
  all_goals rfl
 have hn:=nS he;subst he;have hok:=lP hc;have hF:=qK l known hok;obtain ⟨hnd,hbl,-⟩:=oK hok 100000 known;have hlk:=rD (dg l 100000 known) no;generalize dg l 100000 known=bs at hF hnd hbl hlk ⊢;cases hg:cI bs no with
 |none =>
  rw[hg] at hlk;have R:=u8 @hn (u8 @hlk (u8 @lL (u8 @M2 (u8 @kH ez))))
  repeat' ((first |(with_reducible refine .guard (fun hb =>?_) (fun hb =>?_) <;>try simp only[hb])|refine J.aI (by decide +kernel) rfl fun K hK =>?_|refine .flat _ (hC) rfl ?_|refine .lead _ (hF) ?_|(refine .ay [0,1,2,6,7,8,9,10,11,20,31] hK ?_;clear hK K)|(with_reducible refine .done (hK _ ?_);clear hK K)|refine J.of rfl ?_|(with_reducible refine aq.aH (fun h =>?_) (fun h =>?_) <;>try simp only[h])) <;>try simp only[aK,R,simprocAttr])
  all_goals clear R
  all_goals rfl
 |some b =>
  rw[hg] at hlk;have hall:([I.ptr 10 [],I.ptr 9 [],I.ptr 11 []].all fun y=>y.cn)=true:=rfl;have R:=u8 @hn (u8 @hlk (u8 @lL (u8 @M2 (u8 @hall (u8 @kH ez)))))
  repeat' ((first |(with_reducible refine .guard (fun hb =>?_) (fun hb =>?_) <;>try simp only[hb])|refine J.aI (by decide +kernel) rfl fun K hK =>?_|refine .flat _ (hC) rfl ?_|refine .lead _ (hF) ?_|(refine .ay [0,1,2,6,7,8,9,10,11,20,31] hK ?_;clear hK K)|(with_reducible refine .done (hK _ ?_);clear hK K)|refine J.of rfl ?_|(with_reducible refine aq.aH (fun h =>?_) (fun h =>?_) <;>try simp only[h])) <;>try simp only[aK,R,zy1,simprocAttr])
  all_goals clear R
  have hmem:no∈bs.map (·.no):=by
   obtain ⟨h1,h2⟩:=rh hg;exact zx2.2 ⟨b,h1,h2⟩
  refine .bT false rY (eW bs []) [enc no,.ptr 1000000 [],.ptr 1000001 [],.ptr 1000002 []] (rf bs [] no) rfl (Ac bs _ [] no (zz8 _) hmem) ⟨fun m x hx=>⟨?_,oH hx⟩,fun a c ha hc h=>Mw (by simpa[ij] using ha) (by simpa[ij] using hc) h⟩ ⟨.inl ⟨rfl,rfl,rfl⟩,.inl ⟨rfl,by simp[I.only,ij],rfl⟩,.inl ⟨rfl,by simp[I.only,ij],rfl⟩,.inl ⟨rfl,by simp[I.only,ij],rfl⟩,trivial⟩ ?_ ?_
  ·simp only[eW,ak] at hx
   (repeat' split at hx) <;>first
    |(cases hx;done)
    |(cases hx;subst_vars;simp[rY,ak,aj.aQ,I.aQ,I.cR,bD,m5 _ (fu bs) (iE.1 bs)])
  ·rintro r os' ⟨rfl,T,rfl,-⟩;exact ⟨fun m x hx=>⟨(oH (S:=T) hx).1,(oH (S:=T) hx).2,fun h=>by cases h⟩,fun a c ha hc h=>Mw (by simpa[ij] using ha) (by simpa[ij] using hc) h,fun m hm=>by rw[ij] at hm ⊢;exact hm,fun m h1 h2=>(by rw[ij] at h1 h2;rw[h1] at h2;cases h2),rfl,fun h=>by cases h⟩
  rintro r os' ⟨rfl,T,rfl,hf⟩;have hline:dX ((bs.filter fun b=>decide (b.no∈T)).map (·.no))=l9 bs no:=by
   simp only[l9]
   congr 2
   refine List.filter_congr fun b _ =>?_;rw[Bool.eq_iff_iff,decide_eq_true_eq,we];exact hf.wb b.no
  have hF72:=sm bs hbl 96 [.ref (.cM (T.map enc) (List.replicate T.length (.bool true)))] (by simp only[I.eP,I.done,I.bj,iW,Un,zw3]) (fun b=>decide (b.no∈T)) (fun b _=>O6 T b);rw[hline] at hF72;have hrh:=fun ρ=>m5 ρ (fu bs) (iE.1 bs)
  try simp only[dL,eW,zz9,zx3,aj.aQ,I.aQ,I.cR,rY,bD,hE,uD,hrh,zy1,zy7,jq,ab,simprocAttr]
  refine .done (hK _ ?_);clear hK K;have hall2:([I.ptr 10 []].all fun y=>y.cn)=true:=rfl;have R:=u8 @hall2 ez
  repeat' ((first |(with_reducible refine .guard (fun hb =>?_) (fun hb =>?_) <;>try simp only[hb])|refine J.aI (by decide +kernel) rfl fun K hK =>?_|(refine .ay [0,1,2,6,7,8,9,10,11,20,31] hK ?_;clear hK K)|(with_reducible refine .done (hK _ ?_);clear hK K)|refine J.of rfl ?_|(with_reducible refine aq.aH (fun h =>?_) (fun h =>?_) <;>try simp only[h])) <;>try simp only[aK,R,simprocAttr])
  all_goals clear R
  refine .gN [9,10,11,32] (enc (l9 bs no)) rfl hF72 ?_ ?_ ?_
  ·simp only[fR,zw1,zv5,List.contains_cons,List.contains_nil,Nat.reduceBEq,Bool.or_false,Bool.or_true,if_true];simp only[bV,iE];rw[a6,bV,Yg rfl rfl];rfl
  ·simp[cJ,bE]
  ·try simp only[fF,cJ,zw1,zv5,List.contains_cons,Nat.reduceBEq,Bool.or_true,Bool.true_or,BEq.rfl,zz9,zx3,ez,ab,simprocAttr]
   have R:=ez
   repeat' ((first |(with_reducible refine .guard (fun hb =>?_) (fun hb =>?_) <;>try simp only[hb])|refine J.aI (by decide +kernel) rfl fun K hK =>?_|(refine .ay [0,1,2,6,7,8,9,10,11,20,31] hK ?_;clear hK K)|(with_reducible refine .done (hK _ ?_);clear hK K)|refine J.of rfl ?_|(with_reducible refine aq.aH (fun h =>?_) (fun h =>?_) <;>try simp only[h])) <;>try simp only[aK,R,simprocAttr])
   all_goals clear R
theorem IZ{α:Type}(f:α→Int)(a x:α)(m:List α):eX f (a::m) x=if f a≤f x then a::eX f m x else x::a::m:=by
 by_cases h:f a≤f x <;>simp[eX,h]
theorem xW{α:Type}{f:α→Int}{x y:α} : ∀ {l:List α},y∈eX f l x↔y=x∨y∈l
 | []=>by simp[eX]
 |a::l=>by
  rw[IZ];split
  ·simp only[zx8,xW (l:=l)];constructor <;>(rintro (h | h | h) <;>simp[h])
  ·simp only[zx8]
theorem I3{x:Int} : ∀ {l:List Int},fp l→x∉l→fp (eX id l x)
 | [],_,_=>by simp[eX,fp]
 |a::l,h,hx=>by
  simp only[fp,zw9] at h;simp only[zx8,not_or] at hx;rw[IZ];split
  ·rename_i hle;simp only[id] at hle;refine zw9.2 ⟨fun y hy =>?_,I3 h.2 hx.2⟩;rcases xW.1 hy with rfl | hy
   ·omega
   ·exact h.1 y hy
  ·rename_i hle;simp only[id] at hle;refine zw9.2 ⟨fun y hy =>?_,zw9.2 h⟩;rcases zx8.1 hy with rfl | hy
   ·omega
   ·have:=h.1 y hy;omega
theorem Pm{l:List Int}{x:Int}(h:fp l):fp (iT l x):=by
 simp only[iT];split
 ·exact h
 ·rename_i hx;exact I3 h hx
theorem Pl{l:List Int}{x y:Int} : y∈iT l x↔y=x∨y∈l:=by
 simp only[iT];split
 ·rename_i hx;constructor
  ·exact .inr
  ·rintro (rfl | h)
   ·exact hx
   ·exact h
 ·exact xW
theorem DW:∀ (l o:List Int),fp o→fp (l.foldl iT o)
 | [],_,h=>h
 |_::l,_,h=>DW l _ (Pm h)
theorem DV{y:Int} : ∀ (l o:List Int),y∈l.foldl iT o↔y∈o∨y∈l
 | [],o=>by simp
 |x::l,o=>by
  rw[List.foldl_cons,DV l,Pl,zx8];constructor
  ·rintro ((h | h) | h) <;>simp[h]
  ·rintro (h | h | h) <;>simp[h]
theorem alx(l:List Int):fp (ir l):=DW l [] .nil
theorem alw{l:List Int}{y:Int} : y∈ir l↔y∈l:=by simp[ir,DV]
def pQ(bs:List ao)(x:Int):List Int:=(bs.filter fun b=>b.cm==x).map (·.no)
theorem sQ{bs:List ao}{x y:Int} : y∈pQ bs x↔∃ b∈bs,b.cm=x∧b.no=y:=by
 simp only[pQ,zx2,zw4,beq_iff_eq];constructor
 ·rintro ⟨b,⟨h1,h2⟩,h3⟩;exact ⟨b,h1,h2,h3⟩
 ·rintro ⟨b,h1,h2,h3⟩;exact ⟨b,⟨h1,h2⟩,h3⟩
def ic(bs:List ao)(no:Int):Nat→List Int
 |0=>[no]
 |k+1=>ic bs no k++if k<(ic bs no k).length then pQ bs ((ic bs no k).getD k 0) else []
structure u6 (bs:List ao) (no:Int) (k:Nat) (O:List Int):Prop where
 lq:O.Nodup
 bC:∀ y∈O,fD bs no y∧y∈bs.map (·.no)
 ae:no∈O
 yu:∀ y∈O,y=no∨∃ j,j<k∧j<O.length∧∃ b∈bs,b.no=y∧b.cm=O.getD j 0
 cl:∀ j,j<k→j<O.length→∀ b∈bs,b.cm=O.getD j 0→b.no∈O
theorem aiX{bs:List ao}(hn:(bs.map (·.no)).Nodup){b c:ao}(hb:b∈bs)(hc:c∈bs)(e:b.no=c.no):b=c:=by
 have h1:=tu hn hb;have h2:=tu hn hc;rw[e,h2] at h1;exact (Option.some.inj h1).symm
theorem ri{O X:List Int}{j:Nat}(h:j<O.length):(O++X).getD j 0=O.getD j 0:=by
 simp[zz2,zx0 h]
theorem ahd{O:List Int}{j:Nat}(h:j<O.length):O.getD j 0∈O:=by
 have:O.getD j 0=O[j]:=by simp[zz2,h]
 rw[this];exact zx6 h
theorem ahc{O:List Int}(hn:O.Nodup){i j:Nat}(hi:i<O.length)(hj:j<O.length)(e:O.getD i 0=O.getD j 0):i=j:=by
 have h1:O.getD i 0=O[i]:=by simp[zz2,hi]
 have h2:O.getD j 0=O[j]:=by simp[zz2,hj]
 rw[h1,h2] at e;have hp:=List.pairwise_iff_getElem.1 hn;rcases Nat.lt_trichotomy i j with h | h | h
 ·exact absurd e (hp i j hi hj h)
 ·exact h
 ·exact absurd e.symm (hp j i hj hi h)
theorem AG{bs:List ao}(hn:(bs.map (·.no)).Nodup){no:Int}(hno:no∈bs.map (·.no))(hac:∀ b∈bs,b.no=no→¬ fD bs no b.cm):∀ k,u6 bs no k (ic bs no k)
 |0=>⟨List.nodup_cons.2 ⟨by simp,List.nodup_nil⟩,fun y hy=>by rw[zv7.1 hy];exact ⟨.self,hno⟩,List.mem_singleton_self _,fun y hy=>.inl (zv7.1 hy),fun j hj=>absurd hj (Nat.not_lt_zero _)⟩
 |k+1=>by
  have ih:=AG hn hno hac k;simp only[ic];by_cases hk:k<(ic bs no k).length
  case neg =>
   rw[if_neg hk,zx5];exact ⟨ih.lq,ih.bC,ih.ae,fun y hy=>(ih.yu y hy).imp id fun ⟨j,h1,h2,h3⟩=>⟨j,by omega,h2,h3⟩,fun j hj hjl=>ih.cl j (by omega) hjl⟩
  rw[if_pos hk];generalize ic bs no k=O at ih hk;have hx:=ahd hk;refine ⟨List.nodup_append.2 ⟨ih.lq,?_,?_⟩,fun y hy =>?_,List.mem_append_left _ ih.ae,fun y hy =>?_,fun j hj hjl b hb ae =>?_⟩
  ·exact hn.sublist (List.filter_sublist.map _)
  ·intro y hy z hz e;subst e;obtain ⟨b,hb,ae,rfl⟩:=sQ.1 hz;rcases ih.yu _ hy with h | ⟨j,h1,h2,c,hc,e1,e2⟩
   ·exact hac b hb h (by rw[ae];exact (ih.bC _ hx).1)
   ·have:=aiX hn hc hb e1;subst this;rw[ae] at e2;have:=ahc ih.lq hk h2 e2;omega
  ·rcases zy6.1 hy with hy | hy
   ·exact ih.bC y hy
   ·obtain ⟨b,hb,ae,rfl⟩:=sQ.1 hy;exact ⟨.lO hb (by rw[ae];exact (ih.bC _ hx).1),zx2.2 ⟨b,hb,rfl⟩⟩
  ·rcases zy6.1 hy with hy | hy
   ·refine (ih.yu y hy).imp id fun ⟨j,h1,h2,c,hc,e1,e2⟩=>⟨j,by omega,by rw[zz7];omega,c,hc,e1,?_⟩
    rw[ri h2];exact e2
   ·obtain ⟨b,hb,ae,rfl⟩:=sQ.1 hy;exact .inr ⟨k,by omega,by rw[zz7];omega,b,hb,rfl,by rw[ri hk];exact ae⟩
  ·by_cases hjk:j=k
   ·subst hjk;rw[ri hk] at ae;exact List.mem_append_right _ (sQ.2 ⟨b,hb,ae,rfl⟩)
   ·by_cases hjo:j<O.length
    ·rw[ri hjo] at ae;exact List.mem_append_left _ (ih.cl j (by omega) hjo b hb ae)
    ·omega
theorem JJ:∀ {l m:List Int},l.Nodup→(∀ x∈l,x∈m)→l.length≤m.length
 | [],_,_,_=>zv1 _
 |x::l,m,hn,h=>by
  obtain ⟨h1,h2⟩:=List.nodup_cons.1 hn;have hx:=h x List.mem_cons_self;have:=JJ (m:=m.erase x) h2 fun y hy=>(List.mem_erase_of_ne (fun e=>h1 (by rw[←e];exact hy))).2 (h y (List.mem_cons_of_mem _ hy));rw[List.length_erase_of_mem hx] at this;have hp:0<m.length:=List.length_pos_of_mem hx;rw[zv9];omega
theorem AF{bs:List ao}{no:Int}{k:Nat}{O:List Int}(h:u6 bs no k O)(hk:O.length≤k)(y:Int):y∈O↔fD bs no y:=by
 refine ⟨fun hy=>(h.bC y hy).1,fun hy =>?_⟩
 induction hy with
 |self=>exact h.ae
 | @lO b hb _ ih =>
  obtain ⟨j,hj,e⟩:=List.getElem_of_mem ih;exact h.cl j (by omega) hj b hb (by rw[←e];simp[zz2,hj])
theorem alv{bs cs:List ao}(hp:bs.Perm cs)(hn:(cs.map (·.no)).Nodup){no:Int}{k:Nat}{O:List Int}(h:u6 cs no k O)(hk:O.length≤k):ir O=l9 bs no:=by
 have h1:(l9 bs no).Nodup:=by
  simp only[l9];refine (uM _).nodup_iff.2 (List.Nodup.sublist (List.filter_sublist.map _) ?_);exact (hp.map (·.no)).nodup_iff.2 hn
 have h2:fp (l9 bs no):=((zx _).and h1).imp fun {a b} h=>by have:=h.1;have:=h.2;omega
 refine MB (alx O) h2 fun y =>?_;rw[alw,AF h hk,aix];constructor
 ·intro ae;exact ⟨(hp.map (·.no)).mem_iff.2 (h.bC y ((AF h hk y).2 ae)).2,ae.yN hp.symm⟩
 ·rintro ⟨-,ae⟩;exact ae.yN hp
def j0(bs:List ao)(x:Int)(i:Nat):List Int:=js (fun b=>b.cm==x) bs i
theorem ahY{A:af}{xs:List Int}{n k:Nat}(h:A.o n=some (.bR 3 1 (xs.map enc)))(hk:k<xs.length):ik A 1 (k:Int) (.own n xs.length)=some (.ref (.int .i64 (xs.getD k 0))):=by
 simp only[ik,h,zy3];rw[if_pos (by simp;omega)];simp[zz2,hk,fY]
theorem ait{A:af}{xs:List Int}{n:Nat}(h:A.o n=some (.bR 3 1 (xs.map enc))):j9 A (.own n xs.length)=some (.int .i64 xs.length):=by
 simp only[j9,h,zy3,if_true]
theorem aiw{bs cs:List ao}{t:Int}(h:iS bs t)(hp:bs.Perm cs){no:Int}(hno:no∈bs.map (·.no)):∀ b∈cs,b.no=no→¬ fD cs no b.cm:=fun b hb e ae=>by
 have hbb:=hp.mem_iff.2 hb;obtain ⟨i,hi,rfl⟩:=sJ hbb;subst e;have hd2:=ae.yN hp.symm;by_cases h0:(dJ bs i).cm=0
 ·obtain ⟨c,hc,e⟩:=zx2.1 (hd2.iF hno);have:=(h.no c hc).1;rw[e,h0] at this;omega
 ·exact h.Xb hi h0 hd2
theorem OU(l:List ar)(no known:Int):aB Tryz.prog 33 [enc l,enc no,enc known] (.tuple [enc (oR l no known).1,enc (oR l no known).2]):=by
 have hC:=vl l no known;refine aB.bu Tryz.func33 RI TC VK (zz0 rfl) (fun hwf W0 D0 E1 =>?_);simp only[Cc,LL,bl,zz4,Nat.reduceAdd];clear hwf;simp only[oR];generalize hc:dY l [ea no 9999] [known]=e at hC ⊢;by_cases he:e=0
 case neg =>
  have hn:=mc he;have R:=u8 @hn (u8 @he (u8 @aN @ab))
  repeat' ((first |(with_reducible refine .guard (fun hb =>?_) (fun hb =>?_) <;>try simp only[hb])|refine J.aI (by decide +kernel) rfl fun K hK =>?_|refine .flat _ (hC) rfl ?_|(refine .ay [0,1,2,6,7,8,9,10,11,12,18,27,33,40,53] hK ?_;clear hK K)|(with_reducible refine .done (hK _ ?_);clear hK K)|refine J.of rfl ?_|(with_reducible refine aq.aH (fun h =>?_) (fun h =>?_) <;>try simp only[h])) <;>try simp only[aK,R,simprocAttr])
  all_goals clear R
  all_goals rfl
 have hn:=nS he;subst he;have hok:=lP hc;have hF:=sn l known 100000 hok;have hg:=IK l 100000 known no;have hp:=rO l 100000 known;obtain ⟨t,hL⟩:=ahL hok 100000 known;have hbl:=(oK hok 100000 known).2.1;rw[←hg];generalize kK l 100000 known=p at hF hg hp ⊢;generalize dg l 100000 known=bs at hL hbl hp ⊢;have hI:=mC p.jY no;rcases mQ p.jY no with ⟨g1,e1⟩ | ⟨k0,hk0,g1,g2,e1⟩
 ·rw[e1] at hI;rw[g1];have hg2:decide ((-1:Int)<0)=true:=rfl;have R:=u8 @hn (u8 @hg2 (u8 @oe (u8 @nU (u8 @jI (u8 @iI (u8 @cA (u8 @aN @ab)))))))
  repeat' ((first |(with_reducible refine .guard (fun hb =>?_) (fun hb =>?_) <;>try simp only[hb])|refine J.aI (by decide +kernel) rfl fun K hK =>?_|refine .flat _ (hC) rfl ?_|refine .lead _ (hF) ?_|refine .flat _ (hI) rfl ?_|(refine .ay [0,1,2,6,7,8,9,10,11,12,18,27,33,40,53] hK ?_;clear hK K)|(with_reducible refine .done (hK _ ?_);clear hK K)|refine J.of rfl ?_|(with_reducible refine aq.aH (fun h =>?_) (fun h =>?_) <;>try simp only[h])) <;>try simp only[aK,R,decide_true,simprocAttr])
  all_goals clear R
  all_goals rfl
 rw[e1] at hI;rw[g1];have hg3:decide ((k0:Int)<0)=false:=by simp
 obtain ⟨cs,vd⟩:=p;simp only at hp hk0 g1 g2 ⊢;have hnd:(cs.map (·.no)).Nodup:=(hp.map (·.no)).nodup_iff.1 hL.lq;have hcl:cs.length≤60:=by rw[←hp.length_eq];exact hbl
 have hnoc:no∈cs.map (·.no):=zx2.2 ⟨_,zx6 hk0,g2⟩;have hnob:no∈bs.map (·.no):=(hp.map (·.no)).mem_iff.2 hnoc;have hB:=AG hnd hnoc (aiw hL hp hnob);have hlen:∀ k,(ic cs no k).length≤60:=fun k=>by
  have:=JJ (hB k).lq fun y hy=>((hB k).bC y hy).2;rw[zy3] at this;omega
 clear g1 g2 e1 hg;have R:=u8 @hn (u8 @hg3 (u8 @oe (u8 @nU (u8 @jI (u8 @iI (u8 @cA (u8 @bB (u8 @aN @ab))))))))
 repeat' ((first |(with_reducible refine .guard (fun hb =>?_) (fun hb =>?_) <;>try simp only[hb])|refine J.aiA (n:=910) (x:=.int .i64 no) (x':=.int .i64 no) rfl (by simp[bV,a6]) rfl rfl (by decide) ?_|refine J.aI (by decide +kernel) rfl fun K hK =>?_|refine .flat _ (hC) rfl ?_|refine .lead _ (hF) ?_|refine .flat _ (hI) rfl ?_|(refine .ay [0,1,2,6,7,8,9,10,11,12,18,27,33,40,53] hK ?_;clear hK K)|(with_reducible refine .done (hK _ ?_);clear hK K)|refine J.of rfl ?_|(with_reducible refine aq.aH (fun h =>?_) (fun h =>?_) <;>try simp only[h])) <;>try simp only[aK,R,simprocAttr])
 all_goals clear R
 refine J.loop (fun k:Nat=>au [(9,.ptr 9 []),(10,.own 910 (ic cs no k).length),(11,.int .i64 k)] [(9,.box (enc (⟨cs,vd⟩:lH))),(910,.bR 3 1 ((ic cs no k).map enc))]) (fun k=>k≤(ic cs no k).length∧k≤60) (fun k=>60-k) 0 ⟨zv1 _,zv1 _⟩ ?_ (fun k hk =>?_)
 ·have e:ic cs no 0=[no]:=rfl;rw[e];simp only[zz9,zx3,fY,zv9,List.length_nil,zz4];refine aF.cq ?_ ?_ ?_ ?_ <;>simp[aY,b7,bY,bE,av,aZ,cZ,I.only,I.bZ,aj.only,bK]
 have hBk:=hB k;have hlk:=hlen k;have hlk2:=hlen (k+1);have hsu:ic cs no (k+1)=ic cs no k++if k<(ic cs no k).length then pQ cs ((ic cs no k).getD k 0) else []:=rfl
 generalize ic cs no k=O at hk hBk hlk hsu ⊢;obtain ⟨hk1,hk2⟩:=hk;have hle:=fun (A:af) (h:A.o 910=some (.bR 3 1 (O.map enc)))=>ait h;by_cases hlt:k<O.length
 case neg =>
  have hc1:=ga hlt;have hfo:=oF (k:=O.length) (T:=3) (es:=O) 1 rfl rfl;have hS:=Ae O (by omega);rw[alv hp hnd hBk (by omega)] at hS;have R:=u8 @hc1 (u8 @hle (u8 @hfo (u8 @bB (u8 @cA (u8 @aN @ab)))))
  repeat' ((first |(with_reducible refine .guard (fun hb =>?_) (fun hb =>?_) <;>try simp only[hb])|refine J.aI (by decide +kernel) rfl fun K hK =>?_|refine .lead _ (hS) ?_|(refine .ay [0,1,2,6,7,8,9,10,11,12,18,27,33,40,53] hK ?_;clear hK K)|(with_reducible refine .done (hK _ ?_);clear hK K)|refine J.of rfl ?_|(with_reducible refine aq.aH (fun h =>?_) (fun h =>?_) <;>try simp only[h])) <;>try simp only[aK,R,simprocAttr])
  all_goals clear R
 rw[if_pos hlt] at hsu;have hc1:=fT hlt;have hw:=fc (i:=k) (by omega);obtain ⟨x,hx⟩:∃ x,x=O.getD k 0:=⟨_,rfl⟩
 rw[←hx] at hsu;have R:=u8 @hc1 (u8 @hle (u8 @bB (u8 @cA (u8 @aN @ab))))
 repeat' ((first |(with_reducible refine .guard (fun hb =>?_) (fun hb =>?_) <;>try simp only[hb])|refine J.aI (by decide +kernel) rfl fun K hK =>?_|(refine .ay [0,1,2,6,7,8,9,10,11,12,18,27,33,40,53] hK ?_;clear hK K)|(with_reducible refine .done (hK _ ?_);clear hK K)|refine J.of rfl ?_|(with_reducible refine aq.aH (fun h =>?_) (fun h =>?_) <;>try simp only[h])) <;>try simp only[aK,R,simprocAttr])
 all_goals clear R
 refine J.loop (fun i:Nat=>au [(9,.ptr 9 []),(10,.own 910 (O++j0 cs x i).length),(11,.int .i64 k),(12,.int .i64 i)] [(9,.box (enc (⟨cs,vd⟩:lH))),(910,.bR 3 1 ((O++j0 cs x i).map enc))]) (fun i=>i≤cs.length) (fun i=>cs.length-i) 0 (zv1 _) ?_ (fun i hi =>?_)
 ·have e:j0 cs x 0=[]:=rfl;rw[e,zx5];refine aF.cq ?_ ?_ ?_ ?_ <;>simp[aY,b7,bY,bE,av,aZ,cZ,I.only,aj.only,eI,bK]
 by_cases hli:i<cs.length
 ·have hc2:=fT hli;have hek:=fun A=>eL (A:=A) 9 hli rfl;have hwi:=fc (i:=i) (by omega);have hs:=Kg (fun b=>b.cm==x) hli;have hs2:O++j0 cs x (i+1)=(O++j0 cs x i)++if (cs[i]).cm==x then [(cs[i]).no] else []:=by
   simp only[j0,hs,zz5]
  have hxl:(O++j0 cs x i).length≤120:=by
   have:=Kf (fun b=>b.cm==x) cs i;rw[zz7,j0];omega
  have hxk:(O++j0 cs x i).getD k 0=x:=by rw[ri hlt,hx]
  have hkl:k<(O++j0 cs x i).length:=by rw[zz7];omega
  generalize O++j0 cs x i=xs at hs2 hxl hxk hkl ⊢;have hie:=fun (A:af) (h:A.o 910=some (.bR 3 1 (xs.map enc)))=>ahY h hkl;rw[hxk] at hie;have happ:=fun (A:af) d rest=>kS (α:=Int) (A:=A) (d:=d) 3 1 8 910 (l:=xs.length) (es:=xs) (ys:=[(cs[i]).no]) (rest:=rest) rfl rfl (by simp) (by simp[maxLen];omega) (by simp;omega);rcases q:((cs[i]).cm==x)
  all_goals
   rw[q] at hs2;simp only[zz6,if_false,if_true,zx5] at hs2;have R:=u8 @hc2 (u8 @hek (u8 @hwi (u8 @hie (u8 @q (u8 @happ (u8 @lL (u8 @jI (u8 @iI (u8 @fA (u8 @cA (u8 @bB (u8 @aN @ab))))))))))))
   repeat' ((first |(with_reducible refine .guard (fun hb =>?_) (fun hb =>?_) <;>try simp only[hb])|refine J.aI (by decide +kernel) rfl fun K hK =>?_|(refine .ay [0,1,2,6,7,8,9,10,11,12,18,27,33,40,53] hK ?_;clear hK K)|(with_reducible refine .done (hK _ ?_);clear hK K)|refine J.of rfl ?_|(with_reducible refine aq.aH (fun h =>?_) (fun h =>?_) <;>try simp only[h])) <;>try simp only[aK,R,simprocAttr])
   all_goals clear R
   refine ⟨i+1,by omega,by omega,?_⟩;rw[hs2];refine aF.cq ?_ ?_ ?_ ?_ <;>simp[aY,b7,bY,bE,av,aZ,cZ,I.only,I.bZ,aj.only,eI,jO,bK,fY]
 have hc2:=ga hli;have hge:i=cs.length:=by omega
 subst hge;have hch:j0 cs x cs.length=pQ cs x:=by simp[j0,js,pQ]
 rw[hch,←hsu];have R:=u8 @hc2 (u8 @hw (u8 @jI (u8 @iI (u8 @cA (u8 @bB (u8 @aN @ab))))))
 repeat' ((first |(with_reducible refine .guard (fun hb =>?_) (fun hb =>?_) <;>try simp only[hb])|refine J.aI (by decide +kernel) rfl fun K hK =>?_|(refine .ay [0,1,2,6,7,8,9,10,11,12,18,27,33,40,53] hK ?_;clear hK K)|(with_reducible refine .done (hK _ ?_);clear hK K)|refine J.of rfl ?_|(with_reducible refine aq.aH (fun h =>?_) (fun h =>?_) <;>try simp only[h])) <;>try simp only[aK,R,simprocAttr])
 all_goals clear R
 refine ⟨k+1,⟨?_,by omega⟩,by omega,?_⟩
 ·rw[hsu,zz7];omega
 ·refine aF.cq ?_ ?_ ?_ ?_ <;>simp[aY,b7,bY,bE,av,aZ,cZ,I.only,aj.only,eI,bK]
theorem OV(l:List ar)(no:Int)(a:oo):aB Tryz.prog 5 [enc l,enc no,enc a] (enc true):=by
 have h1:=z6 l a.day a.known;have h2:=OQ l a.day a.known;have h3:=z7 l no a.day a.known;have h4:=OR l no a;have h5:=z8 l a.bx a.cd a.day a.known;have h6:=OS l a;have h7:=OT l no a.known;have h8:=OU l no a.known;generalize jB l a.day a.known=u1 at h1 h2;generalize nG l no a.day a.known=u2 at h3 h4;generalize iX l a.bx a.cd a.day a.known=u3 at h5 h6;generalize oR l no a.known=u4 at h7 h8;refine aB.bu Tryz.func5 RJ TD VL (zz0 rfl) (fun hwf W0 D0 E1 =>?_);simp only[jZ,LM,bl,zz4,Nat.reduceAdd];clear hwf;have q1:∀ e:Int,(e==e)=true:=fun e=>by simp
 have R:=u8 @q1 (u8 @kz (u8 @kG (u8 @aj0 ez)))
 repeat' ((first |(with_reducible refine .guard (fun hb =>?_) (fun hb =>?_) <;>try simp only[hb])|refine J.aI (by decide +kernel) rfl fun K hK =>?_|refine .lead _ (h1) ?_|refine .lead _ (h2) ?_|refine .lead _ (h3) ?_|refine .lead _ (h4) ?_|refine .lead _ (h5) ?_|refine .lead _ (h6) ?_|refine .lead _ (h7) ?_|refine .lead _ (h8) ?_|refine .flat _ (vh _ _) rfl ?_|refine .flat _ (OP) rfl ?_|(refine .ay [0,1,2,5,6,7,8,9,10,11,12,13,14,15,16,17,18,19,20,21,22] hK ?_;clear hK K)|(with_reducible refine .done (hK _ ?_);clear hK K)|refine J.of rfl ?_|(with_reducible refine aq.aH (fun h =>?_) (fun h =>?_) <;>try simp only[h])) <;>try simp only[aK,R,eq_self,decide_true,simprocAttr])
 all_goals clear R
end Go.Proofs.YtcldiigclhgafaaGreat
