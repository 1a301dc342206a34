/-
  A part of the proof that the law MarchLooks returns true for every input; three tables of Go's library start as the text lays them (the card ties them); conditions: none beyond the statement's own. (part 6 of 7)
-/
import Derived.Test.YthbdbocionnfgaaGreatDoorNde
set_option linter.unusedSimpArgs false
set_option linter.unusedVariables false
set_option maxHeartbeats 16000000
set_option maxRecDepth 100000
namespace Go.Proofs.YthbdbocionnfgaaGreatDoor
open Go Go.Abs
open Go.Abs.Enc (enc)
def kW(p:aU→Bool)(l:List aU):Int:=match l.findIdx? p with
 |some i=>i
 |none=>-1
theorem x9(l:List aU)(caps:List I)(hcaps:I.fZ caps=true)(p:aU→Bool)(ao:l.length≤1000)(hf:∀ x∈l,aZ Tryz.prog 92 (enc x::caps) (enc (p x))):aZ Tryz.prog 118 [enc l,.func 92 caps] (enc (kW p l)):=by
 refine aZ.b5 Tryz.func118 IH JO K0 (u8 rfl) (fun hwf W0 bG E1 =>?_);simp only[ze,DS,bI,zz1];clear hwf;have hcl:I.ca caps=true:=qm caps hcaps;have hfc:∀ aL A,bY aL A caps=some caps:=fun aL A=>o9 aL A caps hcaps;have hon:∀ q,I.cv q caps=true:=fun q=>l4 q caps hcl;have R:=y6 @hfc aC
 repeat' ((first |refine ae.aE (by decide +kernel) rfl fun K hK =>?_|(refine .av [0,1,4,5,7,8,9,16] hK ?_;clear hK K)|(with_reducible refine .done (hK _ ?_);clear hK K)|refine ae.of rfl ?_|(with_reducible refine ay.aD (fun h =>?_) (fun h =>?_) <;>try simp only[h])) <;>try simp only[aF,R,simprocAttr])
 all_goals clear R
 refine ae.loop (fun i:Nat=>au [(0,enc l),(1,.func 92 caps),(7,.int .i64 l.length),(8,.int .i64 i)] []) (fun i=>i≤l.length∧∀ k,k<i→∀ h:k<l.length,p l[k]=false) (fun i=>l.length-i) 0 ⟨zw2 _,fun k h=>by omega⟩ ?_ (fun i hi =>?_)
 ·refine bw.dh ?_ ?_ ?_ ?_ <;>simp[*,cz,c6,cJ,cF,cu,I.only,cA]
 obtain ⟨hi1,hi2⟩:=hi;by_cases hlt:i<l.length
 ·have hlc:=ga hlt;have he:=fun A=>eM (A:=A) 4 hlt rfl;have hw:=fJ (i:=i) (by omega);have hP:=hf _ (List.getElem_mem hlt);rcases q:p l[i]
  ·rw[q] at hP;have R:=y6 @hlc (y6 @he (y6 @hw (y6 @hfc aC)))
   repeat' ((first |refine ae.aE (by decide +kernel) rfl fun K hK =>?_|refine .flat _ (hP) rfl ?_|(refine .av [0,1,4,5,7,8,9,16] hK ?_;clear hK K)|(with_reducible refine .done (hK _ ?_);clear hK K)|refine ae.of rfl ?_|(with_reducible refine ay.aD (fun h =>?_) (fun h =>?_) <;>try simp only[h])) <;>try simp only[aF,R,zz5,simprocAttr])
   all_goals clear R
   refine ⟨i+1,⟨by omega,fun k hk h =>?_⟩,by omega,?_⟩
   ·by_cases e:k=i
    ·subst e;exact q
    ·exact hi2 k (by omega) h
   ·refine bw.dh ?_ ?_ ?_ ?_ <;>simp[*,cz,c6,cJ,cF,cu,I.only,cA]
  ·rw[q] at hP;have hm:kW p l=(i:Int):=by
    have:l.findIdx? p=some i:=List.findIdx?_eq_some_iff_getElem.2 ⟨hlt,q,fun j hj=>by simp[hi2 j hj (by omega)]⟩;simp only[kW,this]
   rw[hm];have R:=y6 @hlc (y6 @he (y6 @hfc aC))
   repeat' ((first |refine ae.aE (by decide +kernel) rfl fun K hK =>?_|refine .flat _ (hP) rfl ?_|(refine .av [0,1,4,5,7,8,9,16] hK ?_;clear hK K)|(with_reducible refine .done (hK _ ?_);clear hK K)|refine ae.of rfl ?_|(with_reducible refine ay.aD (fun h =>?_) (fun h =>?_) <;>try simp only[h])) <;>try simp only[aF,R,zz5,simprocAttr])
   all_goals clear R
 ·have hlc:=gp hlt;have hm:kW p l=-1:=by
   have:l.findIdx? p=none:=List.findIdx?_eq_none_iff.2 fun x hx=>by
    obtain ⟨k,hk,rfl⟩:=List.mem_iff_getElem.1 hx;exact hi2 k (by omega) hk
   simp only[kW,this]
  rw[hm];have R:=y6 @hlc aC
  repeat' ((first |refine ae.aE (by decide +kernel) rfl fun K hK =>?_|(refine .av [0,1,4,5,7,8,9,16] hK ?_;clear hK K)|(with_reducible refine .done (hK _ ?_);clear hK K)|refine ae.of rfl ?_|(with_reducible refine ay.aD (fun h =>?_) (fun h =>?_) <;>try simp only[h])) <;>try simp only[aF,R,simprocAttr])
  all_goals clear R
theorem He(x:aU)(b:Int):aZ Tryz.prog 92 [enc x,.ref (enc b)] (enc (x.aH != b)):=by
 refine aZ.b5 Tryz.func92 Jw KA LX (u8 rfl) (fun hwf W0 bG E1 =>?_);simp only[Aa,EU,bI,zz1];clear hwf;have R:=aC
 repeat' ((first |refine ae.aE (by decide +kernel) rfl fun K hK =>?_|(refine .av [0,1,2,3] hK ?_;clear hK K)|(with_reducible refine .done (hK _ ?_);clear hK K)|refine ae.of rfl ?_|(with_reducible refine ay.aD (fun h =>?_) (fun h =>?_) <;>try simp only[h])) <;>try simp only[aF,R,simprocAttr])
 all_goals clear R
theorem Hd(caps:List I)(hcaps:I.fZ caps=true):aZ Tryz.prog 91 [enc ([]:List aU),.func 92 caps] (enc ([]:List aU)):=by
 refine aZ.b5 Tryz.func91 Ax AP AX (u8 rfl) (fun hwf W0 bG E1 =>?_);simp only[vd,xr,bI,zz1];clear hwf;have hfc:∀ aL A,bY aL A caps=some caps:=fun aL A=>o9 aL A caps hcaps;have hF:=x9 ([]:List aU) caps hcaps (fun _=>true) (by simp) (fun x h=>by cases h);have J:kW (fun _=>true) []=-1:=rfl;rw[J] at hF;have q1:((-1:Int)==-1)=true:=rfl;have R:=y6 @q1 (y6 @hfc aC)
 repeat' ((first |refine ae.aE (by decide +kernel) rfl fun K hK =>?_|refine .flat _ (hF) rfl ?_|(refine .av [0,1,4,5,6,7,12,19,29] hK ?_;clear hK K)|(with_reducible refine .done (hK _ ?_);clear hK K)|refine ae.of rfl ?_|(with_reducible refine ay.aD (fun h =>?_) (fun h =>?_) <;>try simp only[h])) <;>try simp only[aF,R,simprocAttr])
 all_goals clear R
def jH(k:Nat)(ws:List aU):List (Nat×aq):=[(k,.box (.agg (ws.map enc)))]
theorem tk(p:Nat→Bool)(l:List aU):(I.agg (l.map enc)).only p=true:=by simp only[I.only];exact fR p l
theorem ZS{ws:List aU} : ∀ m,aw (jH 1000000 ws) m=true→1000000≤m:=fun m hm=>by rw[gJ.1 hm];exact zz4 _
theorem Cm{n i:Nat}(h:i<n)(fs:List I):lU 1000000 [] 4 0 n 4 (i:Int) (some fs)=some (.ptr 1000000 [i]):=by
 have:=Cn (m:=1000000) (sz:=4) (lo:=0) (l:=n) (i:=i) (fs:=fs) h
 rwa [zz1] at this
theorem aaf{A:ai}{n i:Nat}{xs:List aU}(h:i<xs.length)(v u:aU){rest:List aI} : dk A (some 4) n [i] (.agg (xs.map enc)) (enc v) rest (some (enc u))=aB rest (A.aT n (.box (.agg ((xs.set i v).map enc)))):=by
 rw[dK (eg v) (by rw[e7];rfl) ((eC v).trans (eC u).symm)];have U:(xs.map (enc (α:=aU)))[i]?=some (enc (xs[i])):=by simp[h]
 simp only[I.ep,U,List.map_set]
def A1(xs:List aU)(p:aU→Bool)(N:Nat):cC:=fun r os'=>∃ us:List aU,r=.view 1000000 [] 4 0 (xs.filter fun x => !p x).length∧os'=jH 1000000 us∧us.take (xs.filter fun x => !p x).length=(xs.filter fun x => !p x)∧us.length=N
theorem Hc(xs q:List aU)(hn:xs.length≤200)(hq:0<(xs++q).length)(caps:List I)(hcaps:I.fZ caps=true)(p:aU→Bool)(hf:∀ x∈xs,aZ Tryz.prog 92 (enc x::caps) (enc (p x))) :
  cP Tryz.prog 91 [.view 1000000 [] 4 0 xs.length,.func 92 caps] (jH 1000000 (xs++q)) (A1 xs p (xs++q).length):=by
 refine cP.b5 Tryz.func91 Ax AP AX (u8 rfl) (u8 rfl) ZS (fun hwf W0 bG E1 =>?_);simp only[vd,xr,bI,zz1];clear hwf;have hcl:I.ca caps=true:=qm caps hcaps;have hfc:∀ aL A,bY aL A caps=some caps:=fun aL A=>o9 aL A caps hcaps;have hon:∀ q,I.cv q caps=true:=fun q=>l4 q caps hcl;have hF:=x9 xs caps hcaps p (by omega) hf;have hfp:kj 4 0 xs.length (some ((xs++q).map enc))=some (enc xs):=by rw[qu (α:=aU) (sz:=4) rfl,List.take_left]
 simp only[jH];cases hfi:xs.findIdx? p with
 |none =>
  have hi:kW p xs=-1:=by simp[kW,hfi]
  rw[hi] at hF;rw[List.findIdx?_eq_none_iff] at hfi;have hk:(xs.filter fun x => !p x)=xs:=by
   rw[List.filter_eq_self];intro x hx;simp[hfi x hx]
  have q1:((-1:Int)==-1)=true:=rfl;have R:=y6 @q1 (y6 @hfp (y6 @hfc (y6 @oT (y6 @hl aC))))
  repeat' ((first |refine ae.aE (by decide +kernel) rfl fun K hK =>?_|refine .flat _ (hF) rfl ?_|(refine .av [0,1,4,5,6,7,12,19,29] hK ?_;clear hK K)|(with_reducible refine .done (hK _ ?_);clear hK K)|refine ae.of rfl ?_|(with_reducible refine ay.aD (fun h =>?_) (fun h =>?_) <;>try simp only[h])) <;>try simp only[aF,R,simprocAttr])
  all_goals clear R
  rw[mg];exact ⟨jH 1000000 (xs++q),[.view 1000000 [] 4 0 xs.length],wh rfl (fun p=>tk p _),⟨⟨_,rfl,.inl ⟨rfl,rfl,rfl⟩⟩,trivial⟩,xs++q,by rw[hk];rfl,rfl,by rw[hk,List.take_left],rfl⟩
 |some i0 =>
  obtain ⟨q1,q2,q3⟩:=List.findIdx?_eq_some_iff_getElem.1 hfi;have hi:kW p xs=(i0:Int):=by simp[kW,hfi]
  rw[hi] at hF;have hstart:xs.take i0=(xs.take (i0+1)).filter fun x => !p x:=by
   rw[zy0 q1,List.filter_append,zw0,q2];simp only[Bool.not_true,zz2,if_false,List.filter_nil,zv2]
   symm
   rw[List.filter_eq_self];intro x hx;obtain ⟨j,hj,rfl⟩:=List.mem_take_iff_getElem.1 hx;have:=q3 j (by omega);simpa using this
  have n1:((i0:Int)==-1)=false:=beq_eq_false_iff_ne.2 (by omega);have hwi:=fJ (i:=i0) (by omega);have R:=y6 @n1 (y6 @hwi (y6 @hfp (y6 @hfc (y6 @oT (y6 @hl aC)))))
  repeat' ((first |refine ae.aE (by decide +kernel) rfl fun K hK =>?_|refine .flat _ (hF) rfl ?_|(refine .av [0,1,4,5,6,7,12,19,29] hK ?_;clear hK K)|(with_reducible refine .done (hK _ ?_);clear hK K)|refine ae.of rfl ?_|(with_reducible refine ay.aD (fun h =>?_) (fun h =>?_) <;>try simp only[h])) <;>try simp only[aF,R,simprocAttr])
  all_goals clear R
  refine ae.loop (fun s:List aU×Nat×Nat=>au [(0,.view 1000000 [] 4 0 xs.length),(1,.func 92 caps),(5,.int .i64 s.2.1),(6,.int .i64 s.2.2)] (jH 1000000 s.1)) (fun s=>s.1.length=(xs++q).length∧s.2.1<s.2.2∧s.2.2≤xs.length∧s.1.take s.2.1=(xs.take s.2.2).filter (fun x => !p x)∧s.1.drop s.2.2=(xs++q).drop s.2.2) (fun s=>xs.length-s.2.2) (xs++q,i0,i0+1) ⟨rfl,by simp only;omega,by simp only;omega,?_,rfl⟩ ?_ ?_
  ·simp only;rw[List.take_append_of_le_length (by omega)];exact hstart
  ·simp only[jH];refine bw.dh ?_ ?_ ?_ ?_ <;>simp[*,cz,c6,cJ,cF,aw,cu,dE,I.only,aq.only,fR,nZ]
  rintro ⟨ws,i,j⟩ ⟨c1,c2,c3,mF,oQ⟩;simp only at c1 c2 c3 mF oQ ⊢;simp only[jH];have hlen:(xs++q).length=xs.length+q.length:=zz7;by_cases hlt:j<xs.length
  ·have hc:=ga hlt;have hwj:=fJ (i:=j) (by omega);have hwi2:=fJ (i:=i) (by omega);have v1:=Cm (n:=xs.length) (i:=j) hlt;have v2:=Cm (n:=xs.length) (i:=i) (by omega);have l1:=yL (xs:=ws) (i:=j) fh (by omega);have l2:=yL (xs:=ws) (i:=i) fh (by omega);have hwj2:ws.getD j fh=xs[j]:=by
    have J:(ws.drop j)[0]?=((xs++q).drop j)[0]?:=by rw[oQ]
    simp only[List.getElem?_drop,Nat.add_zero] at J;rw[zz0,J,zy4 hlt,zy3 hlt];rfl
   rw[hwj2] at l1;have hP:=hf _ (List.getElem_mem hlt);have ht:(xs.take (j+1)).filter (fun x => !p x)=(xs.take j).filter (fun x => !p x)++if (!p xs[j]) then [xs[j]] else []:=by
    rw[zy0 hlt,List.filter_append,zw0,List.filter_nil]
   have s1:=fun (A:ai) v u rest=>aaf (A:=A) (n:=1000000) (xs:=ws) (i:=i) (rest:=rest) (by omega) v u;generalize xs[j]=y at l1 hP ht;rcases hp:p y
   ·rw[hp] at hP ht;simp only[Bool.not_false,if_true] at ht;have R:=y6 @hc (y6 @hwj (y6 @hwi2 (y6 @v1 (y6 @v2 (y6 @l1 (y6 @l2 (y6 @s1 (y6 @hfc (y6 @tY (y6 @oT (y6 @hl aC)))))))))))
    repeat' ((first |refine ae.aE (by decide +kernel) rfl fun K hK =>?_|refine .flat _ (hP) rfl ?_|(refine .av [0,1,4,5,6,7,12,19,29] hK ?_;clear hK K)|(with_reducible refine .done (hK _ ?_);clear hK K)|refine ae.of rfl ?_|(with_reducible refine ay.aD (fun h =>?_) (fun h =>?_) <;>try simp only[h])) <;>try simp only[aF,R,zz5,simprocAttr])
    all_goals clear R
    refine ⟨(ws.set i y,i+1,j+1),⟨by simp[c1],by simp only;omega,by simp only;omega,?_,?_⟩,by simp only;omega,?_⟩
    ·simp only;rw[ht,←mF,zy0 (by simp;omega),List.take_set_of_le (zz4 _)];simp
    ·simp only;rw[List.drop_set_of_lt (by omega)];have:(ws.drop j).drop 1=((xs++q).drop j).drop 1:=by rw[oQ]
     simpa[List.drop_drop] using this
    ·simp only[];generalize ws.set i y=us;refine bw.dh ?_ ?_ ?_ ?_ <;>simp[*,cz,c6,cJ,cF,aw,cu,dE,I.only,aq.only,fR]
   ·rw[hp] at hP ht;simp only[Bool.not_true,zz2,if_false,zv2] at ht;have R:=y6 @hc (y6 @hwj (y6 @v1 (y6 @l1 (y6 @hfc (y6 @tY (y6 @oT (y6 @hl aC)))))))
    repeat' ((first |refine ae.aE (by decide +kernel) rfl fun K hK =>?_|refine .flat _ (hP) rfl ?_|(refine .av [0,1,4,5,6,7,12,19,29] hK ?_;clear hK K)|(with_reducible refine .done (hK _ ?_);clear hK K)|refine ae.of rfl ?_|(with_reducible refine ay.aD (fun h =>?_) (fun h =>?_) <;>try simp only[h])) <;>try simp only[aF,R,zz5,simprocAttr])
    all_goals clear R
    refine ⟨(ws,i,j+1),⟨c1,by simp only;omega,by simp only;omega,?_,?_⟩,by simp only;omega,?_⟩
    ·simp only;rw[ht];exact mF
    ·simp only;have:(ws.drop j).drop 1=((xs++q).drop j).drop 1:=by rw[oQ]
     simpa[List.drop_drop] using this
    ·simp only[];refine bw.dh ?_ ?_ ?_ ?_ <;>simp[*,cz,c6,cJ,cF,aw,cu,dE,I.only,aq.only,fR]
  ·have hj:j=xs.length:=by omega
   subst hj;have hc:=gp hlt;rw[zv0] at mF;have hlk:(xs.filter fun x => !p x).length=i:=by rw[←mF,zx3];omega
   have hsl2:=Z9 (n:=1000000) (p:=[]) (sz:=4) (k:=xs.length) (total:=ws.length) (i:=i) (by omega) (by omega) (by omega);have hsl3:=fun us:List aU=>fun (hu:us.length=ws.length)=>Z8 (n:=1000000) (p:=[]) (sz:=4) (k:=xs.length) (total:=us.length) (i:=i) (by omega) (by omega);have hml2:∀ us:List aU,(us.map (enc (α:=aU))).length=us.length:=fun us=>by simp
   have hclr:=fun (A:ai) rest ho=>KO (A:=A) (rest:=rest) (esz:=4) (α:=aU) fh (n:=1000000) (lo:=i) (k:=xs.length-i) (xs:=ws) ho (by omega);obtain ⟨us,hus⟩:∃ us,us=ws.take i++(List.replicate (xs.length-i) fh++ws.drop (i+(xs.length-i))):=⟨_,rfl⟩
   have hul:us.length=ws.length:=by
    rw[hus];simp only[zz7,zx3,List.length_replicate,List.length_drop];omega
   have hut:us.take i=xs.filter fun x => !p x:=by
    rw[hus,List.take_append_of_le_length (by rw[zx3];omega),List.take_take,Nat.min_self,mF]
   have hsl3:=hsl3 us hul;simp only[←hus] at hclr;refine ae.seq (ae.seq ?_);refine .j0 (by decide +kernel) fun K hK =>?_;simp only[BU,bq,simprocAttr]
   try simp only[hc,hl,bq,simprocAttr]
   refine .done (hK _ ?_);clear hK K;try simp only[dY]
   refine ae.iG ?_;simp only[ay,bq,simprocAttr];refine ⟨fun h =>?_,fun h =>?_⟩
   ·cases h
   refine ae.exit ?_;try simp only[dY,jc,simprocAttr]
   refine .fI (by decide +kernel) fun K hK =>?_;simp only[BS,bq,simprocAttr]
   try simp only[hml2,hsl2,Option.map_none,oW,hl,bq,simprocAttr]
   rw[hclr _ _ rfl]
   try simp only[bq,simprocAttr]
   refine .done (hK _ ?_);clear hK K;refine .fI (by decide +kernel) fun K hK =>?_;simp only[BT,bq,simprocAttr]
   try simp only[hml2,hsl3,Option.map_none,hl,bq,simprocAttr]
   refine .done (hK _ ?_);clear hK K;refine ae.ret ?_;simp only[mg];exact ⟨jH 1000000 us,[.view 1000000 [] 4 0 i],wh rfl (fun p=>tk p _),⟨⟨_,rfl,.inl ⟨rfl,rfl,rfl⟩⟩,trivial⟩,us,by rw[hlk];rfl,rfl,by rw[hlk];exact hut,by omega⟩
theorem aat(l:List aU)(b:Int):(l.filter fun x => !(x.aH != b))=l.filter fun x=>x.aH==b:=by
 congr 1;funext x;simp[bne]
theorem GI(p:bA)(b:Int):aZ Tryz.prog 50 [enc p,enc b] (.tuple [enc (jo p b).1,enc (jo p b).2]):=by
 refine aZ.b5 Tryz.func50 I6 Ka Lv (u8 rfl) (fun hwf W0 bG E1 =>?_);simp only[zD,Et,bI,zz1];clear hwf;have hF1:=sa p;rw[KE] at hF1;have hB:=oI b;have hv:∀ k n,(I.int k n).bS=true:=fun _ _=>rfl;by_cases hc:ez p=0
 rotate_left
 ·have J:ez p=91:=by simp only[ez] at hc ⊢;split <;>simp_all
  rw[J] at hF1;rw[show jo p b=([],91) by simp only[jo,h4,if_neg hc];rfl];have R:=y6 @hv (y6 @cg (y6 @bm aC))
  repeat' ((first |refine ae.aE (by decide +kernel) rfl fun K hK =>?_|refine .flat _ (hF1) rfl ?_|(refine .av [0,1,2,3,4,5,6,10,14] hK ?_;clear hK K)|(with_reducible refine .done (hK _ ?_);clear hK K)|refine ae.of rfl ?_|(with_reducible refine ay.aD (fun h =>?_) (fun h =>?_) <;>try simp only[h])) <;>try simp only[aF,R,simprocAttr])
  all_goals clear R
  all_goals rfl
 rw[hc] at hF1;rcases q1:cT 1 9999 b
 ·rw[q1] at hB;rw[show jo p b=([],1) by simp only[jo,h4,if_pos hc,q1];rfl];have R:=y6 @hv (y6 @cg (y6 @bm aC))
  repeat' ((first |refine ae.aE (by decide +kernel) rfl fun K hK =>?_|refine .flat _ (hF1) rfl ?_|refine .flat _ (hB) rfl ?_|(refine .av [0,1,2,3,4,5,6,10,14] hK ?_;clear hK K)|(with_reducible refine .done (hK _ ?_);clear hK K)|refine ae.of rfl ?_|(with_reducible refine ay.aD (fun h =>?_) (fun h =>?_) <;>try simp only[h])) <;>try simp only[aF,R,simprocAttr])
  all_goals clear R
  all_goals rfl
 rw[q1] at hB;rw[show jo p b=(p.j.filter fun x=>x.aH==b,0) by simp only[jo,h4,if_pos hc,q1];rfl];have ao:=(nC hc).2.1;have hall:([I.ptr 3 []].all fun y=>y.bS)=true:=rfl;have hfe:∀ A,bY false A [enc p.j]=some [enc p.j]:=fun A=>by simp only[bY,kR]
 have af:I.fZ [.ref (enc b)]=true:=by simp[I.fZ,I.done,kd]
 have R:=y6 @hall (y6 @hv (y6 @cg (y6 @bm aC)))
 repeat' ((first |refine ae.aE (by decide +kernel) rfl fun K hK =>?_|refine .flat _ (hF1) rfl ?_|refine .flat _ (hB) rfl ?_|refine aQ.AQ (by omega) rfl (hfe _) rfl (fun v os' hcj =>?_)|(refine .av [0,1,2,3,4,5,6,10,14] hK ?_;clear hK K)|(with_reducible refine .done (hK _ ?_);clear hK K)|refine ae.of rfl ?_|(with_reducible refine ay.aD (fun h =>?_) (fun h =>?_) <;>try simp only[h])) <;>try simp only[aF,R,zz5,simprocAttr])
 all_goals clear R
 have hF3:aZ Tryz.prog 91 [enc ([]:List aU),.func 92 [.ref (enc b)]] (enc ([]:List aU)):=Hd [.ref (enc b)] af;rcases hcj with ⟨hz,hv2,rfl⟩ | ⟨hne,m,rfl,rfl⟩
 ·rw[hz];have hfin:∀ aL A,bj aL A (.nils 4)=some (enc ([]:List aU))∧bj aL A (.c0 4)=some (enc ([]:List aU)):=fun aL A=>⟨by simp only[bj];rfl,by simp only[bj];rfl⟩
  rcases hv2 with rfl | rfl
  ·have R:=y6 @hall (y6 @hv (y6 @cg (y6 @bm aC)))
   repeat' ((first |refine ae.aE (by decide +kernel) rfl fun K hK =>?_|(refine .av [0,1,2,3,4,5,6,10,14] hK ?_;clear hK K)|(with_reducible refine .done (hK _ ?_);clear hK K)|refine ae.of rfl ?_|(with_reducible refine ay.aD (fun h =>?_) (fun h =>?_) <;>try simp only[h])) <;>try simp only[aF,R,zz5,zv3,simprocAttr])
   all_goals clear R
   refine .jh [3] (enc ([]:List aU)) rfl hF3 ?_ ?_ ?_
   ·try simp only[kY,zw0,List.filter_nil,List.contains_cons,Nat.reduceBEq,Bool.true_or,BEq.rfl,hfin,bq,simprocAttr]
   ·simp[ec,cF,aq.only,cA]
   ·try simp only[kh,ec,zw0,List.filter_nil,List.contains_cons,Nat.reduceBEq,Bool.true_or,BEq.rfl,zz3,zx4,bq,simprocAttr]
    have R:=y6 @hv (y6 @cg (y6 @bm aC))
    repeat' ((first |refine ae.aE (by decide +kernel) rfl fun K hK =>?_|(refine .av [0,1,2,3,4,5,6,10,14] hK ?_;clear hK K)|(with_reducible refine .done (hK _ ?_);clear hK K)|refine ae.of rfl ?_|(with_reducible refine ay.aD (fun h =>?_) (fun h =>?_) <;>try simp only[h])) <;>try simp only[aF,R,simprocAttr])
    all_goals clear R
    rw[hz];rfl
  ·have R:=y6 @hall (y6 @hv (y6 @cg (y6 @bm aC)))
   repeat' ((first |refine ae.aE (by decide +kernel) rfl fun K hK =>?_|(refine .av [0,1,2,3,4,5,6,10,14] hK ?_;clear hK K)|(with_reducible refine .done (hK _ ?_);clear hK K)|refine ae.of rfl ?_|(with_reducible refine ay.aD (fun h =>?_) (fun h =>?_) <;>try simp only[h])) <;>try simp only[aF,R,zz5,zv3,simprocAttr])
   all_goals clear R
   refine .jh [3] (enc ([]:List aU)) rfl hF3 ?_ ?_ ?_
   ·try simp only[kY,zw0,List.filter_nil,List.contains_cons,Nat.reduceBEq,Bool.true_or,BEq.rfl,hfin,bq,simprocAttr]
   ·simp[ec,cF,aq.only,cA]
   ·try simp only[kh,ec,zw0,List.filter_nil,List.contains_cons,Nat.reduceBEq,Bool.true_or,BEq.rfl,zz3,zx4,bq,simprocAttr]
    have R:=y6 @hv (y6 @cg (y6 @bm aC))
    repeat' ((first |refine ae.aE (by decide +kernel) rfl fun K hK =>?_|(refine .av [0,1,2,3,4,5,6,10,14] hK ?_;clear hK K)|(with_reducible refine .done (hK _ ?_);clear hK K)|refine ae.of rfl ?_|(with_reducible refine ay.aD (fun h =>?_) (fun h =>?_) <;>try simp only[h])) <;>try simp only[aF,R,simprocAttr])
    all_goals clear R
    rw[hz];rfl
 ·have R:=y6 @hall (y6 @hv (y6 @cg (y6 @bm aC)))
  repeat' ((first |refine ae.aE (by decide +kernel) rfl fun K hK =>?_|(refine .av [0,1,2,3,4,5,6,10,14] hK ?_;clear hK K)|(with_reducible refine .done (hK _ ?_);clear hK K)|refine ae.of rfl ?_|(with_reducible refine ay.aD (fun h =>?_) (fun h =>?_) <;>try simp only[h])) <;>try simp only[aF,R,zz5,zv3,simprocAttr])
  all_goals clear R
  have hne2:0<(p.j++List.replicate m fh).length:=by
   have:=List.length_pos_iff.2 hne;rw[zz7];omega
  refine .bP true [(1000000,7)] (jH 1000000 (p.j++List.replicate m fh)) [.view 1000000 [] 4 0 p.j.length,.func 92 [.ref (enc b)]] (A1 p.j (fun x=>x.aH != b) (p.j++List.replicate m fh).length) rfl
   (Hc p.j (List.replicate m fh) ao hne2 [.ref (enc b)] af (fun x=>x.aH != b) (fun x _=>He x b)) ⟨?_,?_⟩ ⟨.inl ⟨?_,?_,rfl⟩,.inr ?_,trivial⟩ ?_ ?_
  ·intro n x h;simp only[jH,aj] at h;split at h
   ·rename_i hn';subst hn';simp only[v6] at h;subst h;exact ⟨by simp only[oq,xy,pP,bq,simprocAttr],tk _ _,rfl⟩
   ·cases h
  ·intro a b ha hb _;rw[gJ.1 ha,gJ.1 hb]
  ·try simp only[xy,simprocAttr]
  ·exact gJ.2 rfl
  ·try simp only[ig,jH,oq,bH,ec,zw0,List.filter_nil,zz3,zx4,List.contains_cons,List.contains_nil,Nat.reduceBEq,Bool.or_false,BEq.rfl,bq,simprocAttr]
  ·rintro x os' ⟨us,rfl,rfl,u1,u2⟩;exact fW.one (fun p=>tk p _) (fun _=>by simp only[I.dI];exact XA us) (gJ.2 rfl) (fun _=>rfl)
  ·rintro x os' ⟨us,rfl,rfl,u1,u2⟩
   try simp only[jH,oq,xy,pP,zz5,zv3,bq,simprocAttr]
   have u1':us.take (p.j.filter fun x => !(x.aH != b)).length=p.j.filter fun x => !(x.aH != b):=u1;have hfv:kj 4 0 (p.j.filter fun x => !(x.aH != b)).length (some (us.map enc))=some (enc (p.j.filter fun x=>x.aH==b)):=by
    rw[qu (α:=aU) (sz:=4) rfl,u1',aat]
   have R:=y6 @hfv (y6 @cg (y6 @bm aC))
   repeat' ((first |refine ae.aE (by decide +kernel) rfl fun K hK =>?_|(refine .av [0,1,2,3,4,5,6,10,14] hK ?_;clear hK K)|(with_reducible refine .done (hK _ ?_);clear hK K)|refine ae.of rfl ?_|(with_reducible refine ay.aD (fun h =>?_) (fun h =>?_) <;>try simp only[h])) <;>try simp only[aF,R,simprocAttr])
   all_goals clear R
theorem G6(p:bA)(a:r5):aZ Tryz.prog 8 [enc p,enc a] (enc true):=by
 refine aZ.b5 Tryz.func8 Jp Kt LP (u8 rfl) (fun hwf W0 bG E1 =>?_);simp only[zW,EN,bI,zz1];clear hwf;have hc:∀ a:Int,(a==a)=true:=fun a=>beq_self_eq_true a;have h6:=Gw;have hH:=GC p;rw[Xd] at hH;have hR:=yh p;rw[ZQ] at hR;have hI:∀ l:List Int,aZ Tryz.prog 41 [enc l,enc l] (enc true):=fun l=>by
  have:=yg l l
  rwa [decide_eq_true rfl] at this
 have hJ:∀ l:List cZ,aZ Tryz.prog 42 [enc l,enc l] (enc true):=fun l=>by
  have:=GB l l
  rwa [decide_eq_true rfl] at this
 have aA:∀ l:List aU,aZ Tryz.prog 52 [enc l,enc l] (enc true):=fun l=>by
  have:=yi l l
  rwa [decide_eq_true rfl] at this
 have R:=y6 @hc (y6 @aau (y6 @cg (y6 @bm aC)))
 repeat' ((first |(with_reducible refine .guard (fun hb =>?_) (fun hb =>?_) <;>try simp only[hb])|refine ae.aE (by decide +kernel) rfl fun K hK =>?_|refine .lead _ (hH) ?_|refine .lead _ (GD p) ?_|refine .lead _ (hR) ?_|refine .lead _ (GF p) ?_|refine .flat _ (GG p a.to a.no) rfl ?_|refine .flat _ (GH p a.to a.no) rfl ?_|refine .lead _ (GI p a.aH) ?_|refine .lead _ (GJ p a.aH) ?_|refine .flat _ (hI _) rfl ?_|refine .flat _ (hJ _) rfl ?_|refine .flat _ (aA _) rfl ?_|refine .flat _ (h6) rfl ?_|(refine .av [0,1,2,3,4,5,6,7,8,9,10,11,12,13,14,15,16,17,18,19,20] hK ?_;clear hK K)|(with_reducible refine .done (hK _ ?_);clear hK K)|refine ae.of rfl ?_|(with_reducible refine ay.aD (fun h =>?_) (fun h =>?_) <;>try simp only[h])) <;>try simp only[aF,R,simprocAttr])
 all_goals clear R
end Go.Proofs.YthbdbocionnfgaaGreatDoor
