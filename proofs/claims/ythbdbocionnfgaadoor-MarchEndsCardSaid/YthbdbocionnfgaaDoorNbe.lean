/-
  A part of the proof that the law MarchEnds returns true for every input; three tables of Go's library start as the text lays them (the card ties them); conditions: none beyond the statement's own. (part 5 of 7)
-/
import Derived.Shelf.Strconv.Itoa3
import Derived.Lib.ItoaLen
import Derived.Test.YthbdbocionnfgaaDoorRows
import Derived.Test.YthbdbocionnfgaaDoorCards
import Derived.Test.YthbdbocionnfgaaDoorTie
import Derived.LaidMore
import Derived.MakeChecks
import Derived.Lib.LaidTab
import Derived.Lib.LaidU8
import Derived.Test.YthbdbocionnfgaaDoorNbd
set_option linter.unusedSimpArgs false
set_option linter.unusedVariables false
set_option maxHeartbeats 16000000
set_option maxRecDepth 100000
namespace Go.Proofs.YthbdbocionnfgaaDoor
open Go Go.Abs
open Go.Abs.Enc (enc)
def mF(s:az):List dG:=(bY s.bx).map fun n=>s.aH (n.toNat-1)
def iB(p:aJ):List dG×Int:=match cP p with
 |none=>([],91)
 |some s=>(mF s,0)
theorem J9{s:az}{n:Int}(h:n∈s.bx):∃ j,s.at n=some j∧n=(j:Int)+1∧j∈s.aK:=by
 obtain ⟨j,hj,rfl⟩:=zy7.1 h;have hs:(s.at ((j:Int)+1)).isSome=true:=by
  simp only[az.at,List.find?_isSome];exact ⟨j,hj,by simp⟩
 obtain ⟨k,hk⟩:=zx4.1 hs;obtain ⟨U,ab⟩:=iQ hk;exact ⟨k,hk,ab,U⟩
theorem zZ{l:List Int}{n:Int} : n∈bY l↔n∈l:=by simp[bY]
theorem HU(l:List Int):(bY l).length=l.length:=by simp[bY]
theorem zK:∀ {l:List aQ} {s s':az},gn s l=some s'→s'.aK.length≤s.aK.length+l.length
 | [],s,s',h=>by cases h;simp
 |x::l,s,s',h=>by
  simp only[gn] at h;cases hx:eb s x with
  |none=>rw[hx] at h;cases h
  |some s2 =>
   rw[hx] at h;have U:=zK h;have he:∀ b,(s.aK.erase b).length≤s.aK.length:=fun b=>List.length_erase_le;have ab:s2.aK.length≤s.aK.length+1:=by
    simp only[eb] at hx;split at hx
    ·simp only[eE] at hx
     (repeat' split at hx) <;>first
      |(cases hx;done)
      |(cases hx;exact zv9 (he _) (Nat.le_succ _))
      |(cases hx;exact Nat.le_succ _)
      |(cases hx;simp)
    ·cases hx
   simp only[zw8];omega
theorem zg{p:aJ}{s:az}(h:cP p=some s):s.aK.length≤200:=by
 obtain ⟨_,_,_,ar,_,h6⟩:=fe h;have:=zK h6;simp only[er,List.length_nil] at this;omega
theorem yF(s:az){i:Nat}(h:i<(bY s.bx).length):fL (.i .i64) .nilp (.int .i64 (bY s.bx)[i]) (s.bx.map enc) (s.aK.map fun i=>.ref (enc (s.aH i)))=some (.ref (enc (s.aH ((bY s.bx)[i].toNat-1))),true):=by
 have hm:(bY s.bx)[i]∈s.bx:=zZ.1 (zw9 h);obtain ⟨j,hj,e,_⟩:=J9 hm;rw[vu (s:=s) (fun i=>.ref (enc (s.aH i))),hj];have:(bY s.bx)[i].toNat-1=j:=by omega
 simp only[this]
theorem Ps{xs:List dG} : kl xs.length (some (.bW 49 4 (xs.map enc)))=some (enc xs):=pG 4 rfl rfl
def wV(p:aJ)(s:az)(t:Nat×List dG):ai :=
 au [(1,.ptr 1 []),(4,c8 s),(6,.own 905 t.2.length),(18,enc (bY s.bx)),(19,.int .i64 (bY s.bx).length),(20,.int .i64 t.1)] [(905,.bW 49 4 (t.2.map enc)),(1,.box (enc p))]
theorem wS(p:aJ):bp Tryd.prog 9 [enc p] (.tuple [enc (iB p).1,enc (iB p).2]):=by
 refine bp.cw Tryd.func9 Ly Mu NK (t7 rfl) (fun hwf W0 D0 E1 =>?_);simp only[BY,G9,bS];clear hwf;have hF:=pg p;simp only[iB];cases ho:cP p with
 |none =>
  rw[ho] at hF;simp only[jE] at hF;have R:=y6 @bA (y6 @bq (y6 @bM (y6 @bz (y6 @bw aI))))
  repeat' ((first |(with_reducible refine .guard (fun hb =>?_) (fun hb =>?_) <;>try simp only[hb])|refine ae.aM (by decide +kernel) rfl fun K hK =>?_|refine .lead _ (hF) ?_|(refine .aD [0,1,2,3,4,5,6,8,15,18,19,20,21] hK ?_;clear hK K)|(with_reducible refine .done (hK _ ?_);clear hK K)|refine ae.of rfl ?_|(with_reducible refine aF.aL (fun h =>?_) (fun h =>?_) <;>try simp only[h])) <;>try simp only[aN,R,simprocAttr])
  all_goals clear R
  rfl
 |some s =>
  have hl:=zg ho;have hN:=wQ s (by omega);have hlen:(bY s.bx).length=s.aK.length:=by simp[bY,az.bx]
  have hrl:(mF s).length=(bY s.bx).length:=by simp[mF]
  have hso:∀ p,(c8 s).only p=true:=fun p=>lj p _ (nZ s);rw[ho] at hF;simp only[jE] at hF;have R:=y6 @abz (y6 @di (y6 @bA (y6 @bq (y6 @bM (y6 @bz (y6 @bw aI))))))
  repeat' ((first |(with_reducible refine .guard (fun hb =>?_) (fun hb =>?_) <;>try simp only[hb])|refine ae.aM (by decide +kernel) rfl fun K hK =>?_|refine .lead _ (hF) ?_|refine .lead _ (hN) ?_|(refine .aD [0,1,2,3,4,5,6,8,15,18,19,20,21] hK ?_;clear hK K)|(with_reducible refine .done (hK _ ?_);clear hK K)|refine ae.of rfl ?_|(with_reducible refine aF.aL (fun h =>?_) (fun h =>?_) <;>try simp only[h])) <;>try simp only[aN,R,simprocAttr])
  all_goals clear R
  refine ae.loop (wV p s) (fun t=>t.1≤(bY s.bx).length∧t.2=(mF s).take t.1) (fun t=>(bY s.bx).length-t.1) (0,[]) ⟨zw5 _,rfl⟩ ?_ ?_
  ·refine bn.uD 6 905 49 4 4 rfl rfl ?_;simp only[wV];refine bn.cB ?_ ?_ ?_ ?_ <;>simp[*,bX,cA,b6,b8,av,b9,ct,I.only,I.bQ,ak.only,b7]
  rintro ⟨i,xs⟩ ⟨hi,hxs⟩;simp only at hi hxs;have htl:xs.length=i:=by rw[hxs,zx9];omega
  simp only[wV];by_cases hlt:i<(bY s.bx).length
  ·have hc:=hX hlt;have he:=fun A=>fT (A:=A) 1 hlt rfl;have hw:=fj (i:=i) (by omega);have hlk:=yF s hlt;obtain ⟨r,hr⟩:∃ r,r=s.aH ((bY s.bx)[i].toNat-1):=⟨_,rfl⟩
   rw[←hr] at hlk;have hbs:gx 4 (some [enc r])=some (enc [r]):=lE 4 _ rfl;have hap:=fun (A:ai) d rest=>qN (A:=A) (d:=d) 49 4 32 905 (l:=xs.length) (es:=xs) (ys:=[r]) (rest:=rest) rfl rfl (by simp) (by simp[maxLen];omega) (by simp;omega);have htk:(mF s).take (i+1)=xs++[r]:=by
    have hik:i<(mF s).length:=by rw[hrl];exact hlt
    rw[zy3 hik,hxs,hr];simp[mF]
   have R:=y6 @hc (y6 @he (y6 @hw (y6 @hlk (y6 @hbs (y6 @hap (y6 @di (y6 @bA (y6 @bq (y6 @bM (y6 @bz (y6 @bw aI)))))))))))
   repeat' ((first |(with_reducible refine .guard (fun hb =>?_) (fun hb =>?_) <;>try simp only[hb])|refine ae.aM (by decide +kernel) rfl fun K hK =>?_|(refine .aD [0,1,2,3,4,5,6,8,15,18,19,20,21] hK ?_;clear hK K)|(with_reducible refine .done (hK _ ?_);clear hK K)|refine ae.of rfl ?_|(with_reducible refine aF.aL (fun h =>?_) (fun h =>?_) <;>try simp only[h])) <;>try simp only[aN,R,simprocAttr])
   all_goals clear R
   refine ⟨(i+1,xs++[r]),⟨by simp only;omega,htk.symm⟩,by simp only;omega,?_⟩;simp only;clear hxs htk htl;refine bn.cB ?_ ?_ ?_ ?_ <;>simp[*,bX,cA,b6,b8,av,b9,ct,I.only,I.bQ,ak.only,dZ,gT,b7]
  ·have hge:i=(bY s.bx).length:=by omega
   have hc:=hJ hlt;have htk:xs=mF s:=by rw[hxs];exact List.take_of_length_le (by omega)
   rw[←htk];have R:=y6 @hc (y6 @Ps (y6 @di (y6 @bA (y6 @bq (y6 @bM (y6 @bz (y6 @bw aI)))))))
   repeat' ((first |(with_reducible refine .guard (fun hb =>?_) (fun hb =>?_) <;>try simp only[hb])|refine ae.aM (by decide +kernel) rfl fun K hK =>?_|(refine .aD [0,1,2,3,4,5,6,8,15,18,19,20,21] hK ?_;clear hK K)|(with_reducible refine .done (hK _ ?_);clear hK K)|refine ae.of rfl ?_|(with_reducible refine aF.aL (fun h =>?_) (fun h =>?_) <;>try simp only[h])) <;>try simp only[aN,R,simprocAttr])
   all_goals clear R
def sY(s:az)(w:iY):Int:=match s.bK.find? fun x=>decide (dF x=w) with
 |some x=>x.kind
 |none=>0
theorem Zb(s:az)(a b:Int):∃ x:aQ,x.kind=sY s ⟨a,b⟩∧∃ t,fL (.bm [.i .i64,.i .i64]) (.agg [.int .i64 0,.int .i64 0,.int .i64 0,.int .i64 0]) (.agg [.int .i64 a,.int .i64 b]) (s.c9.map enc) (s.bK.map enc)=some (enc x,t):=by
 have h:=yE uY dF (fun x:aQ=>enc x) (.agg [.int .i64 0,.int .i64 0,.int .i64 0,.int .i64 0]) ⟨a,b⟩ s.bK;have e:(enc (⟨a,b⟩:iY):I)=.agg [.int .i64 a,.int .i64 b]:=rfl;rw[e] at h;have e2:(fun x:aQ=>decide ((⟨a,b⟩:iY)=dF x))=fun x=>decide (dF x=⟨a,b⟩):=by
  funext x;rw[Bool.eq_iff_iff];simp[eq_comm]
 rw[e2] at h;simp only[sY];cases hf:s.bK.find? fun x=>decide (dF x=⟨a,b⟩) with
 |none=>rw[hf] at h;exact ⟨fK,rfl,false,h⟩
 |some x=>rw[hf] at h;exact ⟨x,rfl,true,h⟩
theorem x4(a b c d:Int):sG 0 0 none (some [.int .i64 a,.int .i64 b,.int .i64 c,.int .i64 d])=some (.int .i64 a):=rfl
theorem qR(a b:Int):(ef [.int .i64 0,.int .i64 0] [(0,.int .i64 a),(1,.int .i64 b)]).map I.agg=some (.agg [.int .i64 a,.int .i64 b]):=by simp[ef,I.bV,I.size]
instance:Enc az where
 enc s:=c8 s
 sz:=1
 bh:=.one
 iL:=false
 done s:=by simp only[c8,I.done,CE]
 size _:=rfl
 jM _:=rfl
 agg _:=rfl
theorem xH(s:az):(enc s:I)=c8 s:=rfl
def aB(l:List aJ)(i:Nat):aJ:=l.getD i default
theorem lP{l:List aJ}{i:Nat}(h:i<l.length):l[i]=aB l i:=by simp[aB,zz2,h]
def jd(l:List aJ)(i:Nat):Bool:=(cP (aB l i)).isSome&&(i==0||decide ((aB l (i-1)).aE<(aB l i).aE))
def qL(l:List aJ):Bool:=(List.range l.length).all (jd l)
def mP(l:List aJ):List az:=l.filterMap cP
def hE(l:List aJ)(b:Int):List az×Int:=if qL l then (if cV 1 9999 b then (mP l,0) else ([],1)) else ([],96)
theorem FP{p:aJ}(h:(cP p).isSome=true):0≤p.aE∧p.aE≤5:=by
 obtain ⟨s,hs⟩:=zx4.1 h;have h5:=(fe hs).2.2.2.2.1;simp only[iV,cV,zz1,decide_eq_true_eq] at h5;exact h5.1
theorem Yr{l:List aJ}{n:Nat}(h:∀ j,j<n→jd l j=true):∀ j,j<n→(j:Int)≤(aB l j).aE:=by
 intro j
 induction j with
 |zero =>
  intro hj;have bf:=h 0 hj;simp only[jd,zz1] at bf;exact (FP bf.1).1
 |succ j ih =>
  intro hj;have U:=ih (by omega);have ab:=h (j+1) hj;simp only[jd,zz1,Bool.or_eq_true,beq_iff_eq,decide_eq_true_eq] at ab;rcases ab.2 with af | af
  ·omega
  ·have:j+1-1=j:=rfl;rw[this] at af;omega
theorem Em{l:List aJ}{n:Nat}(h:∀ j,j<n→jd l j=true):n≤6:=by
 rcases Nat.lt_or_ge 6 n with hn | hn
 ·have U:=Yr h 6 hn;have ab:=h 6 hn;simp only[jd,zz1] at ab;have:=(FP ab.1).2;omega
 ·exact hn
theorem acg{l:List aJ}{i:Nat}(h:i<l.length):mP (l.take (i+1))=mP (l.take i)++(match cP (aB l i) with | some s=>[s] | none=>[]):=by
 rw[zy3 h,lP h];simp only[mP,List.filterMap_append,List.filterMap_cons,List.filterMap_nil];cases cP (aB l i) <;>rfl
theorem HZ(l:List aJ):(mP l).length≤l.length:=List.length_filterMap_le _ _
theorem Db{xs:List az} : kl xs.length (some (.bW 68 1 (xs.map enc)))=some (enc xs):=pG 1 rfl rfl
def wX(l:List aJ)(b:Int)(t:Nat×List az):ai :=
 au [(0,enc l),(1,.int .i64 b),(6,.own 905 t.2.length),(11,enc l),(12,.int .i64 l.length),(13,.int .i64 t.1)] [(905,.bW 68 1 (t.2.map enc))]
theorem Aq(l:List aJ)(b:Int):bp Tryd.prog 45 [enc l,enc b] (.tuple [enc (hE l b).1,enc (hE l b).2]):=by
 refine bp.cw Tryd.func45 Li Md Nh (t7 rfl) (fun hwf W0 D0 E1 =>?_);simp only[BI,GI,bS,zz4];have hlen:l.length≤maxLen:=((qz l).1 hwf.1).1;simp only[maxLen] at hlen;clear hwf;have R:=y6 @bA (y6 @bq (y6 @bM (y6 @bz (y6 @bw aI))))
 repeat' ((first |(with_reducible refine .guard (fun hb =>?_) (fun hb =>?_) <;>try simp only[hb])|refine ae.aM (by decide +kernel) rfl fun K hK =>?_|(refine .aD [0,1,4,5,6,7,8,9,10,11,12,13,14,39,47] hK ?_;clear hK K)|(with_reducible refine .done (hK _ ?_);clear hK K)|refine ae.of rfl ?_|(with_reducible refine aF.aL (fun h =>?_) (fun h =>?_) <;>try simp only[h])) <;>try simp only[aN,R,simprocAttr])
 all_goals clear R
 refine ae.loop (wX l b) (fun t=>t.1≤l.length∧(∀ j,j<t.1→jd l j=true)∧t.2=mP (l.take t.1)) (fun t=>l.length-t.1) (0,[]) ⟨zw5 _,by simp,rfl⟩ ?_ ?_
 ·refine bn.uD 6 905 68 1 1 rfl rfl ?_;simp only[wX];refine bn.cB ?_ ?_ ?_ ?_ <;>simp[bX,cA,b6,b8,av,b9,ct,I.only,I.bQ,ak.only,b7]
  all_goals rfl
 rintro ⟨i,xs⟩ ⟨hi,hg,hxs⟩;simp only at hi hg hxs;have hi6:=Em hg;have hxl:xs.length≤i:=by
  rw[hxs];refine zv9 (HZ _) ?_;rw[zx9];omega
 simp only[wX];by_cases hlt:i<l.length
 ·have hc:=hX hlt;have he:=fun A=>fT (A:=A) 3 hlt rfl;rw[lP hlt] at he;have hw:=fj (i:=i) (by omega);have hF:=pg (aB l i);have hbad:jd l i=false→hE l b=([],96):=fun h=>by
   have:qL l=false:=by
    simp only[qL,List.all_eq_false];exact ⟨i,zy9.2 hlt,by simp[h]⟩
   simp[hE,this]
  cases ho:cP (aB l i) with
  |none =>
   rw[ho] at hF;simp only[jE] at hF;rw[hbad (by simp[jd,ho])];have R:=y6 @hc (y6 @he (y6 @bA (y6 @bq (y6 @bM (y6 @bz (y6 @bw aI))))))
   repeat' ((first |(with_reducible refine .guard (fun hb =>?_) (fun hb =>?_) <;>try simp only[hb])|refine ae.aM (by decide +kernel) rfl fun K hK =>?_|refine .lead _ (hF) ?_|(refine .aD [0,1,4,5,6,7,8,9,10,11,12,13,14,39,47] hK ?_;clear hK K)|(with_reducible refine .done (hK _ ?_);clear hK K)|refine ae.of rfl ?_|(with_reducible refine aF.aL (fun h =>?_) (fun h =>?_) <;>try simp only[h])) <;>try simp only[aN,R,simprocAttr])
   all_goals clear R
   rfl
  |some s =>
   rw[ho] at hF;simp only[jE] at hF;have hbs:gx 1 (some [c8 s])=some (enc [s]):=lE 1 s rfl;have hap:=fun (A:ai) d rest=>qN (A:=A) (d:=d) 68 1 8 905 (l:=xs.length) (es:=xs) (ys:=[s]) (rest:=rest) rfl rfl (by simp) (by simp[maxLen];omega) (by simp;omega);have hst:mP (l.take (i+1))=xs++[s]:=by rw[acg hlt,ho,hxs]
   have hso:∀ p,(c8 s).only p=true:=fun p=>lj p _ (nZ s);by_cases bf:i=0
   ·have hz:decide ((i:Int)>0)=false:=by simp;omega
    have hgi:jd l i=true:=by simp only[jd,ho];simp[bf]
    have R:=y6 @hc (y6 @he (y6 @hz (y6 @hw (y6 @hbs (y6 @hap (y6 @bA (y6 @di (y6 @bq (y6 @bM (y6 @bz (y6 @bw aI)))))))))))
    repeat' ((first |(with_reducible refine .guard (fun hb =>?_) (fun hb =>?_) <;>try simp only[hb])|refine ae.aM (by decide +kernel) rfl fun K hK =>?_|refine .lead _ (hF) ?_|(refine .aD [0,1,4,5,6,7,8,9,10,11,12,13,14,39,47] hK ?_;clear hK K)|(with_reducible refine .done (hK _ ?_);clear hK K)|refine ae.of rfl ?_|(with_reducible refine aF.aL (fun h =>?_) (fun h =>?_) <;>try simp only[h])) <;>try simp only[aN,R,simprocAttr])
    all_goals clear R
    refine ⟨(i+1,xs++[s]),⟨by simp only;omega,fun j hj =>?_,hst.symm⟩,by simp only;omega,?_⟩
    ·by_cases e:j=i
     ·rw[e];exact hgi
     ·exact hg j (by simp only at hj;omega)
    ·simp only;clear hxs hst;refine bn.cB ?_ ?_ ?_ ?_ <;>simp[*,bX,cA,b6,b8,av,b9,ct,I.only,I.bQ,ak.only,dZ,gT,b7]
   ·have hz:decide ((i:Int)>0)=true:=by simp;omega
    have hw1:IntKind.i64.wrap ((i:Int)-1)=((i-1:Nat):Int):=by rw[jR _ (by omega) (by omega)];omega
    have he1:∀ A,kU A 3 ((i-1:Nat):Int) (enc l)=some (.ref (enc (aB l (i-1)))):=fun A=>by
     have hlt1:i-1<l.length:=by omega
     have:=fT (A:=A) 3 hlt1 rfl;rw[lP hlt1] at this;exact this
    rcases q:decide ((aB l (i-1)).aE≥(aB l i).aE)
    ·have hgi:jd l i=true:=by
      have:(aB l (i-1)).aE<(aB l i).aE:=by have:=of_decide_eq_false q;omega
      simp[jd,ho,this]
     have R:=y6 @hc (y6 @he (y6 @hz (y6 @hw1 (y6 @he1 (y6 @q (y6 @hw (y6 @hbs (y6 @hap (y6 @bA (y6 @di (y6 @bq (y6 @bM (y6 @bz (y6 @bw aI))))))))))))))
     repeat' ((first |(with_reducible refine .guard (fun hb =>?_) (fun hb =>?_) <;>try simp only[hb])|refine ae.aM (by decide +kernel) rfl fun K hK =>?_|refine .lead _ (hF) ?_|(refine .aD [0,1,4,5,6,7,8,9,10,11,12,13,14,39,47] hK ?_;clear hK K)|(with_reducible refine .done (hK _ ?_);clear hK K)|refine ae.of rfl ?_|(with_reducible refine aF.aL (fun h =>?_) (fun h =>?_) <;>try simp only[h])) <;>try simp only[aN,R,simprocAttr])
     all_goals clear R
     refine ⟨(i+1,xs++[s]),⟨by simp only;omega,fun j hj =>?_,hst.symm⟩,by simp only;omega,?_⟩
     ·by_cases e:j=i
      ·rw[e];exact hgi
      ·exact hg j (by simp only at hj;omega)
     ·simp only;clear hxs hst;refine bn.cB ?_ ?_ ?_ ?_ <;>simp[*,bX,cA,b6,b8,av,b9,ct,I.only,I.bQ,ak.only,dZ,gT,b7]
    ·have hgi:jd l i=false:=by
      have:¬ (aB l (i-1)).aE<(aB l i).aE:=by have:=of_decide_eq_true q;omega
      simp[jd,this,bf]
     rw[hbad hgi];have R:=y6 @hc (y6 @he (y6 @hz (y6 @hw1 (y6 @he1 (y6 @q (y6 @hw (y6 @hbs (y6 @hap (y6 @bA (y6 @di (y6 @bq (y6 @bM (y6 @bz (y6 @bw aI))))))))))))))
     repeat' ((first |(with_reducible refine .guard (fun hb =>?_) (fun hb =>?_) <;>try simp only[hb])|refine ae.aM (by decide +kernel) rfl fun K hK =>?_|refine .lead _ (hF) ?_|(refine .aD [0,1,4,5,6,7,8,9,10,11,12,13,14,39,47] hK ?_;clear hK K)|(with_reducible refine .done (hK _ ?_);clear hK K)|refine ae.of rfl ?_|(with_reducible refine aF.aL (fun h =>?_) (fun h =>?_) <;>try simp only[h])) <;>try simp only[aN,R,simprocAttr])
     all_goals clear R
     rfl
 ·have hge:i=l.length:=by omega
  have hc:=hJ hlt;have hx2:xs=mP l:=by rw[hxs,hge,zv3]
  have hgood:qL l=true:=zx6.2 fun j hj=>hg j (by have:=zy9.1 hj;omega);have hB:=ph b;simp only[hE,hgood,if_true,←hx2];rw[hge];rw[hge] at hc;rcases q:cV 1 9999 b
  ·rw[q] at hB;have R:=y6 @hc (y6 @Db (y6 @bA (y6 @bq (y6 @bM (y6 @bz (y6 @bw aI))))))
   repeat' ((first |(with_reducible refine .guard (fun hb =>?_) (fun hb =>?_) <;>try simp only[hb])|refine ae.aM (by decide +kernel) rfl fun K hK =>?_|refine .flat _ (hB) rfl ?_|(refine .aD [0,1,4,5,6,7,8,9,10,11,12,13,14,39,47] hK ?_;clear hK K)|(with_reducible refine .done (hK _ ?_);clear hK K)|refine ae.of rfl ?_|(with_reducible refine aF.aL (fun h =>?_) (fun h =>?_) <;>try simp only[h])) <;>try simp only[aN,R,simprocAttr])
   all_goals clear R
   rfl
  ·rw[q] at hB;have R:=y6 @hc (y6 @Db (y6 @bA (y6 @bq (y6 @bM (y6 @bz (y6 @bw aI))))))
   repeat' ((first |(with_reducible refine .guard (fun hb =>?_) (fun hb =>?_) <;>try simp only[hb])|refine ae.aM (by decide +kernel) rfl fun K hK =>?_|refine .flat _ (hB) rfl ?_|(refine .aD [0,1,4,5,6,7,8,9,10,11,12,13,14,39,47] hK ?_;clear hK K)|(with_reducible refine .done (hK _ ?_);clear hK K)|refine ae.of rfl ?_|(with_reducible refine aF.aL (fun h =>?_) (fun h =>?_) <;>try simp only[h])) <;>try simp only[aN,R,simprocAttr])
   all_goals clear R
def pf(l:List aJ)(b:Int):List Int×Int:=(((hE l b).1.filter fun s=>decide (b∈s.here)).map (·.aE),(hE l b).2)
theorem acf{l:List aJ}{b:Int}{s:az}(h:s∈(hE l b).1):∃ p∈l,cP p=some s:=by
 simp only[hE] at h;split at h
 ·split at h
  ·simp only[mP,List.mem_filterMap] at h;exact h
  ·cases h
 ·cases h
theorem AL(l:List aJ)(b:Int):(hE l b).1.length≤6:=by
 simp only[hE];split
 ·rename_i hg;split
  ·have U:=Em (l:=l) (n:=l.length) fun j hj=>zx6.1 hg j (zy9.2 hj);exact zv9 (HZ l) U
  ·simp
 ·simp
def rW(all:List az)(b:Int):List Int:=(all.filter fun s=>decide (b∈s.here)).map (·.aE)
theorem acJ(all:List az)(b:Int){i:Nat}(h:i<all.length):rW (all.take (i+1)) b=rW (all.take i) b++if b∈all[i].here then [all[i].aE] else []:=by
 rw[zy3 h];simp only[rW,List.filter_append,zx2,zw0,List.filter_nil,decide_eq_true_eq]
 congr 1
 split <;>rfl
def wU(all:List az)(e b:Int)(t:Nat×List Int):ai :=
 au [(1,.int .i64 b),(7,.int .i64 e),(8,.own 905 t.2.length),(17,enc all),(18,.int .i64 all.length),(19,.int .i64 t.1)] [(905,.bW 3 1 (t.2.map enc))]
theorem Pr{xs:List Int} : kl xs.length (some (.bW 3 1 (xs.map enc)))=some (enc xs):=pG 1 rfl rfl
theorem Al(l:List aJ)(b:Int):bp Tryd.prog 19 [enc l,enc b] (.tuple [enc (pf l b).1,enc (pf l b).2]):=by
 refine bp.cw Tryd.func19 KU LP MR (t7 rfl) (fun hwf W0 D0 E1 =>?_);simp only[Bl,Gk,bS,zz4];clear hwf;have hF:=Aq l b;have hal:=AL l b;simp only[pf];generalize (hE l b).1=all at *;generalize (hE l b).2=e at *;have R:=y6 @bA (y6 @bq (y6 @bM (y6 @bz (y6 @bw aI))))
 repeat' ((first |(with_reducible refine .guard (fun hb =>?_) (fun hb =>?_) <;>try simp only[hb])|refine ae.aM (by decide +kernel) rfl fun K hK =>?_|refine .lead _ (hF) ?_|(refine .aD [0,1,4,5,6,7,8,10,17,18,19,20,28] hK ?_;clear hK K)|(with_reducible refine .done (hK _ ?_);clear hK K)|refine ae.of rfl ?_|(with_reducible refine aF.aL (fun h =>?_) (fun h =>?_) <;>try simp only[h])) <;>try simp only[aN,R,simprocAttr])
 all_goals clear R
 refine ae.loop (wU all e b) (fun t=>t.1≤all.length∧t.2=rW (all.take t.1) b) (fun t=>all.length-t.1) (0,[]) ⟨zw5 _,rfl⟩ ?_ ?_
 ·refine bn.uD 8 905 3 1 1 rfl rfl ?_;simp only[wU];refine bn.cB ?_ ?_ ?_ ?_ <;>simp[bX,cA,b6,b8,av,b9,ct,I.only,I.bQ,ak.only,b7]
  all_goals rfl
 rintro ⟨i,xs⟩ ⟨hi,hxs⟩;simp only at hi hxs;have hxl:xs.length≤i:=by
  rw[hxs,rW,zz8];refine zv9 (List.length_filter_le _ _) ?_;rw[zx9];omega
 simp only[wU];by_cases hlt:i<all.length
 ·have hc:=hX hlt;have he:=fun A=>fT (A:=A) 1 hlt rfl;have hw:=fj (i:=i) (by omega);have hsn:=acJ all b hlt;rw[←hxs] at hsn;obtain ⟨s,hs⟩:∃ s,s=all[i]:=⟨_,rfl⟩
  rw[←hs] at he hsn;simp only[xH] at he;have hlk:=gR e8 b s.here;rw[eQ] at hlk;have hbs:gx 1 (some [.int .i64 s.aE])=some (enc [s.aE]):=lE 1 s.aE rfl;have hap:=fun (A:ai) d rest=>qN (A:=A) (d:=d) 3 1 8 905 (l:=xs.length) (es:=xs) (ys:=[s.aE]) (rest:=rest) rfl rfl (by simp) (by simp[maxLen];omega) (by simp;omega);rcases q:decide (b∈s.here)
  ·have hh:b∉s.here:=of_decide_eq_false q;rw[if_neg hh,zy1] at hsn;have R:=y6 @hc (y6 @he (y6 @hw (y6 @hlk (y6 @q (y6 @di (y6 @bA (y6 @bq (y6 @bM (y6 @bz (y6 @bw aI))))))))))
   repeat' ((first |(with_reducible refine .guard (fun hb =>?_) (fun hb =>?_) <;>try simp only[hb])|refine ae.aM (by decide +kernel) rfl fun K hK =>?_|(refine .aD [0,1,4,5,6,7,8,10,17,18,19,20,28] hK ?_;clear hK K)|(with_reducible refine .done (hK _ ?_);clear hK K)|refine ae.of rfl ?_|(with_reducible refine aF.aL (fun h =>?_) (fun h =>?_) <;>try simp only[h])) <;>try simp only[aN,R,simprocAttr])
   all_goals clear R
   refine ⟨(i+1,xs),⟨by simp only;omega,hsn.symm⟩,by simp only;omega,?_⟩;simp only;clear hxs hsn;refine bn.cB ?_ ?_ ?_ ?_ <;>simp[bX,cA,b6,b8,av,b9,ct,I.only,ak.only,dZ,b7]
  ·have hh:b∈s.here:=of_decide_eq_true q;rw[if_pos hh] at hsn;have R:=y6 @hc (y6 @he (y6 @hw (y6 @hlk (y6 @q (y6 @hbs (y6 @hap (y6 @di (y6 @bA (y6 @bq (y6 @bM (y6 @bz (y6 @bw aI))))))))))))
   repeat' ((first |(with_reducible refine .guard (fun hb =>?_) (fun hb =>?_) <;>try simp only[hb])|refine ae.aM (by decide +kernel) rfl fun K hK =>?_|(refine .aD [0,1,4,5,6,7,8,10,17,18,19,20,28] hK ?_;clear hK K)|(with_reducible refine .done (hK _ ?_);clear hK K)|refine ae.of rfl ?_|(with_reducible refine aF.aL (fun h =>?_) (fun h =>?_) <;>try simp only[h])) <;>try simp only[aN,R,simprocAttr])
   all_goals clear R
   refine ⟨(i+1,xs++[s.aE]),⟨by simp only;omega,hsn.symm⟩,by simp only;omega,?_⟩;simp only;clear hxs hsn;refine bn.cB ?_ ?_ ?_ ?_ <;>simp[bX,cA,b6,b8,av,b9,ct,I.only,I.bQ,ak.only,dZ,gT,b7,eQ]
 ·have hge:i=all.length:=by omega
  have hc:=hJ hlt;have hx2:xs=rW all b:=by rw[hxs,hge,zv3]
  rw[show ((all.filter fun s=>decide (b∈s.here)).map (·.aE))=xs from hx2.symm];have R:=y6 @hc (y6 @Pr (y6 @bA (y6 @bq (y6 @bM (y6 @bz (y6 @bw aI))))))
  repeat' ((first |(with_reducible refine .guard (fun hb =>?_) (fun hb =>?_) <;>try simp only[hb])|refine ae.aM (by decide +kernel) rfl fun K hK =>?_|(refine .aD [0,1,4,5,6,7,8,10,17,18,19,20,28] hK ?_;clear hK K)|(with_reducible refine .done (hK _ ?_);clear hK K)|refine ae.of rfl ?_|(with_reducible refine aF.aL (fun h =>?_) (fun h =>?_) <;>try simp only[h])) <;>try simp only[aN,R,simprocAttr])
  all_goals clear R
end Go.Proofs.YthbdbocionnfgaaDoor
namespace Go.Proofs.YthbdbocionnfgaaDoor
open Go Go.Abs Go.Shelf
open Go.Abs.Enc (enc)
def YZ:Go.Shelf.Ren:=⟨fun | 171=>55 | 243=>72 | 246=>86 | 283=>93 | 284=>94 | 285=>95 | 286=>96 | 129=>83 | 317=>98 | 318=>99 | 319=>100 | 320=>101 | 337=>102 | 338=>103 | n=>n,fun | 3=>3 | 9=>9 | 2=>2 | 4=>4 | 171=>142 | 0=>0 | 53=>133 | 37=>144 | 5=>5 | 173=>145 | 212=>151 | 51=>131 | 20=>20 | 213=>152 | 46=>120 | 232=>153 | 233=>154 | n=>n,fun | 17=>0 | 18=>1 | 19=>2 | n=>n⟩
theorem YY:Go.Proofs.LaysM.n171 Tryd.prog YZ := {
 mixed:=by kernel_rfl
 f129:=Tryd.func83.trans (congrArg some (by kernel_rfl))
 f171:=Tryd.func55.trans (congrArg some (by kernel_rfl))
 f243:=Tryd.func72.trans (congrArg some (by kernel_rfl))
 f246:=Tryd.func86.trans (congrArg some (by kernel_rfl))
 f283:=Tryd.func93.trans (congrArg some (by kernel_rfl))
 f284:=Tryd.func94.trans (congrArg some (by kernel_rfl))
 f285:=Tryd.func95.trans (congrArg some (by kernel_rfl))
 f286:=Tryd.func96.trans (congrArg some (by kernel_rfl))
 f317:=Tryd.func98.trans (congrArg some (by kernel_rfl))
 f318:=Tryd.func99.trans (congrArg some (by kernel_rfl))
 f319:=Tryd.func100.trans (congrArg some (by kernel_rfl))
 f320:=Tryd.func101.trans (congrArg some (by kernel_rfl))
 f337:=Tryd.func102.trans (congrArg some (by kernel_rfl))
 f338:=Tryd.func103.trans (congrArg some (by kernel_rfl))
 t0:=Tryd.underlying0
 a0:=Tryd.isAgg0
 z0:=Tryd.sizeOf0
 v0:=Tryd.zeroValue0
 t2:=Tryd.underlying2
 a2:=Tryd.isAgg2
 z2:=Tryd.sizeOf2
 v2:=Tryd.zeroValue2
 t3:=Tryd.underlying3
 a3:=Tryd.isAgg3
 z3:=Tryd.sizeOf3
 v3:=Tryd.zeroValue3
 t4:=Tryd.underlying4
 a4:=Tryd.isAgg4
 z4:=Tryd.sizeOf4
 v4:=Tryd.zeroValue4
 t5:=Tryd.underlying5
 a5:=Tryd.isAgg5
 z5:=Tryd.sizeOf5
 v5:=Tryd.zeroValue5
 t9:=Tryd.underlying9
 a9:=Tryd.isAgg9
 z9:=Tryd.sizeOf9
 v9:=Tryd.zeroValue9
 t20:=Tryd.underlying20
 a20:=Tryd.isAgg20
 z20:=Tryd.sizeOf20
 v20:=Tryd.zeroValue20
 t37:=Tryd.underlying144
 a37:=Tryd.isAgg144
 z37:=Tryd.sizeOf144
 v37:=Tryd.zeroValue144
 t46:=Tryd.underlying120
 a46:=Tryd.isAgg120
 z46:=Tryd.sizeOf120
 v46:=Tryd.zeroValue120
 t51:=Tryd.underlying131
 a51:=Tryd.isAgg131
 z51:=Tryd.sizeOf131
 v51:=Tryd.zeroValue131
 t53:=Tryd.underlying133
 a53:=Tryd.isAgg133
 z53:=Tryd.sizeOf133
 v53:=Tryd.zeroValue133
 t171:=Tryd.underlying142
 a171:=Tryd.isAgg142
 z171:=Tryd.sizeOf142
 v171:=Tryd.zeroValue142
 t173:=Tryd.underlying145
 a173:=Tryd.isAgg145
 z173:=Tryd.sizeOf145
 v173:=Tryd.zeroValue145
 t212:=Tryd.underlying151
 a212:=Tryd.isAgg151
 z212:=Tryd.sizeOf151
 v212:=Tryd.zeroValue151
 t213:=Tryd.underlying152
 a213:=Tryd.isAgg152
 z213:=Tryd.sizeOf152
 t232:=Tryd.underlying153
 a232:=Tryd.isAgg153
 z232:=Tryd.sizeOf153
 v232:=Tryd.zeroValue153
 t233:=Tryd.underlying154
 a233:=Tryd.isAgg154
 z233:=Tryd.sizeOf154
 v233:=Tryd.zeroValue154
 g17:=by kernel_rfl
 g18:=by kernel_rfl
 g19:=by kernel_rfl
 i0:=by kernel_rfl
 i2:=by kernel_rfl
 i3:=by kernel_rfl
 i4:=by kernel_rfl
 i5:=by kernel_rfl
 i9:=by kernel_rfl
 i20:=by kernel_rfl
 i37:=by kernel_rfl
 i46:=by kernel_rfl
 i51:=by kernel_rfl
 i53:=by kernel_rfl
 i171:=by kernel_rfl
 i173:=by kernel_rfl
 i212:=by kernel_rfl
 i232:=by kernel_rfl
 i233:=by kernel_rfl
 m17:=by kernel_rfl
 m18:=by kernel_rfl
 m19:=by kernel_rfl }
open Go.RowKit Go.Sort Go.Lib in
theorem strconv_Itoa (n : Int) (bf : -9223372036854775808 ≤ n) (U : n ≤ 9223372036854775807) (w : World) (htab : Lib.TabIs Tryd.prog w "internal/strconv.uint64pow10" .u64 Lib.pow10Tab) :
  Calls Tryd.prog 55 #[.int .i64 n] w fun e w'=>e=.returned (.string ⟨(Lib.itoa n).toArray⟩)∧∃ k os,w'=grow (w.drewN k) os:=Any.strconv_Itoa YY n bf U w htab
structure fF where
 b:ByteArray
 deriving DecidableEq
instance:Enc fF where
 enc s:=.bT s.b
 sz:=1
 bh:=.one
 iL:=false
 done _:=rfl
 size _:=by simp[I.size]
 jM _:=by simp[I.bh]
 agg _:=rfl
def oF(n:Int):fF:=⟨⟨(Lib.itoa n).toArray⟩⟩
open Go.Sort Go.RowKit in
theorem A4(w:World)(k:Nat)(os:Array Obj):Go.RowKit.Below w.heap.size w (grow (w.drewN k) os) :=
 ⟨rfl,rfl,rfl,by simp,fun i hi=>by rw[heap_grow_old _ _ (by simpa using hi)];rfl⟩
theorem I8(n:Int):bp Tryd.prog 55 [enc n] (enc (oF n)):=by
 refine ⟨Lp,fun w D vs hl hD hv =>?_⟩;have hv':aO w D E0 [.int .i64 n] vs:=hv;simp only[aO] at hv';obtain ⟨v,rest,cs,rfl,U,ab,rfl⟩:=hv';obtain ⟨rfl,af,ar⟩:=fh (ku U ab);have h3':-9223372036854775808≤n:=af;have h4':n≤9223372036854775807:=ar;have hg:Tryd.prog.globalNamed yB=some 0:=by kernel_rfl
 have htab:=(hl _ hg).2;refine (strconv_Itoa n h3' h4' w htab).mono ?_;rintro e w' ⟨rfl,k,os,rfl⟩;refine ⟨_,D,rfl,⟨[.string ⟨(Lib.itoa n).toArray⟩],by simp[bI,I.isAgg,enc],?_⟩,A4 w k os,fun b o ah=>Nat.lt_of_lt_of_le (hD b o ah) (A4 w k os).size,fun _ _ h _=>h⟩;have hlen:=Lib.itoa_length_le n h3' h4'
 show ao _ _ _ (.bT _) _
 simp only[ao];refine ⟨rfl,?_⟩
 show (Lib.itoa n).toArray.size≤maxLen
 simp only[List.size_toArray,maxLen];omega
end Go.Proofs.YthbdbocionnfgaaDoor
namespace Go.Proofs.YthbdbocionnfgaaDoor
open Go Go.Abs
open Go.Abs.Enc (enc)
def qo:fF:=⟨⟨#[32]⟩⟩
def tj:fF:=⟨⟨#[10]⟩⟩
def kg(a b:fF):fF:=⟨a.b++b.b⟩
theorem sj(a b:fF):(kg a b).b.size=a.b.size+b.b.size:=by simp[kg]
theorem uC(a b:fF)(h:a.b.size+b.b.size≤9223372036854775807):cF .add (.bT a.b) (.bT b.b)=some (.bT (kg a b).b):=by
 simp only[cF,if_pos h,kg]
theorem EI{n:Int}(h:IntKind.i64.min≤n∧n≤IntKind.i64.max):(oF n).b.size≤21:=by
 have:=Lib.itoa_length_le n h.1 h.2
 show (Lib.itoa n).toArray.size≤21
 simpa using this
def kI(w:fF)(l:List Int)(i:Nat):fF:=(l.take i).foldl (fun a n=>kg a (kg qo (oF n))) w
def nP(w:fF)(l:List Int):fF:=kg (kI w l l.length) tj
theorem HB(w:fF){l:List Int}{i:Nat}(h:i<l.length):kI w l (i+1)=kg (kI w l i) (kg qo (oF l[i])):=by
 simp only[kI,zy3 h,List.foldl_append,List.foldl_cons,List.foldl_nil]
theorem zI(w:fF){l:List Int}(hl:∀ x∈l,IntKind.i64.min≤x∧x≤IntKind.i64.max):∀ i,i≤l.length→(kI w l i).b.size≤w.b.size+22*i
 |0,_=>by simp[kI]
 |i+1,h=>by
  have U:=zI w hl i (by omega);have ab:=EI (hl l[i] (zw9 _));rw[HB w (by omega),sj,sj];have af:qo.b.size=1:=rfl;omega
theorem wR(w:fF)(l:List Int)(hb:w.b.size+22*l.length≤1000000000000):bp Tryd.prog 40 [enc w,enc l] (enc (nP w l)):=by
 refine bp.cw Tryd.func40 Ld L9 Nb (t7 rfl) (fun hwf W0 D0 E1 =>?_);simp only[BE,GD,bS,zz4];have hlen:l.length≤maxLen:=((qz l).1 hwf.2.1).1;have hwl:∀ x∈l,IntKind.i64.min≤x∧x≤IntKind.i64.max:=fun x hx=>((qz l).1 hwf.2.1).2 x hx;simp only[maxLen] at hlen;have hs:=zI w hwl;refine .gU (by decide +kernel) fun K hK =>?_;simp only[DJ,bL,simprocAttr];refine .done (hK _ ?_);clear hK K;refine ae.seq ?_;refine .gU (by decide +kernel) fun K hK =>?_;simp only[DK,bL,simprocAttr]
 try simp only[pc,bL,simprocAttr]
 refine .done (hK _ ?_);clear hK K;refine ae.block (ae.loop (fun i:Nat=>au [(0,enc (kI w l i)),(7,enc l),(8,.int .i64 l.length),(9,.int .i64 i)] []) (fun i=>i≤l.length) (fun i=>l.length-i) 0 (zw5 _) ?_ (fun i hi =>?_))
 ·refine bn.cB ?_ ?_ ?_ ?_ <;>simp[bX,cA,b6,b8,b9,I.only,b7]
  all_goals rfl
 ·refine .gU (by decide +kernel) fun K hK =>?_;simp only[DL,bL,simprocAttr];refine .done (hK _ ?_);clear hK K;refine ae.seq ?_;refine ae.kr ?_;simp only[aF,bL,simprocAttr];refine ⟨fun h =>?_,fun h =>?_⟩
  ·have hlt:i<l.length:=by simpa using h
   refine ae.skip ?_;try simp only[ee,simprocAttr]
   refine ae.seq (ae.block ?_);refine .gU (by decide +kernel) fun K hK =>?_;simp only[DM,bL,simprocAttr]
   try simp only[fT 1 hlt rfl,bL,simprocAttr]
   refine .done (hK _ ?_);clear hK K;refine .lx (by decide +kernel) fun K hK =>?_;simp only[DN,bL,simprocAttr];refine .flat _ (I8 l[i]) rfl ?_;have U:=EI (hwl l[i] (zw9 _));have ab:=hs i hi;have af:qo.b.size=1:=rfl
   try simp only[show (I.bT ⟨#[32]⟩)=I.bT qo.b from rfl,show (enc (oF l[i]):I)=.bT (oF l[i]).b from rfl,show (enc (kI w l i):I)=.bT (kI w l i).b from rfl,uC qo (oF l[i]) (by omega),uC (kI w l i) (kg qo (oF l[i])) (by rw[sj];omega),bL,simprocAttr]
   refine .done (hK _ ?_);clear hK K;try simp only[ee,jT]
   refine .lx (by decide +kernel) fun K hK =>?_;simp only[DO,bL,simprocAttr];refine .done (hK _ ?_);clear hK K;try simp only[ee]
   refine ⟨i+1,by omega,by omega,?_⟩;rw[jR _ (by omega) (by omega),HB w hlt];refine bn.cB ?_ ?_ ?_ ?_ <;>simp[bX,cA,b6,b8,b9,I.only,b7]
   all_goals rfl
  ·have hge:i=l.length:=by simp at h;omega
   subst hge;refine ae.exit ?_;try simp only[ee,jT,simprocAttr]
   have ab:=hs l.length (zz9 _);have af:tj.b.size=1:=rfl;refine .gU (by decide +kernel) fun K hK =>?_;simp only[DP,bL,simprocAttr]
   try simp only[show (I.bT ⟨#[10]⟩)=I.bT tj.b from rfl,show (enc (kI w l l.length):I)=.bT (kI w l l.length).b from rfl,uC (kI w l l.length) tj (by omega),bL,simprocAttr]
   refine .done (hK _ ?_);clear hK K;refine ae.ret ?_;simp only[bL,simprocAttr];rfl
def mS:List fF:=[⟨⟨#[]⟩⟩,⟨⟨#[112,111,117,110,100]⟩⟩,⟨⟨#[114,101,108,101,97,115,101]⟩⟩,⟨⟨#[115,101,110,100]⟩⟩,⟨⟨#[99,97,108,108]⟩⟩,⟨⟨#[100,111,110,101]⟩⟩,⟨⟨#[98,97,99,107]⟩⟩,⟨⟨#[116,97,107,101]⟩⟩,⟨⟨#[114,101,102,117,115,101]⟩⟩]
theorem KH:gx 1 (some [I.bT ⟨#[]⟩,I.bT ⟨#[112,111,117,110,100]⟩,I.bT ⟨#[114,101,108,101,97,115,101]⟩,I.bT ⟨#[115,101,110,100]⟩,I.bT ⟨#[99,97,108,108]⟩,I.bT ⟨#[100,111,110,101]⟩,I.bT ⟨#[98,97,99,107]⟩,I.bT ⟨#[116,97,107,101]⟩,I.bT ⟨#[114,101,102,117,115,101]⟩])=some (enc mS):=by
 have h:gx 1 (some (mS.map (enc (α:=fF))))=some (enc mS):=by
  simp only[gx];rw[if_pos ⟨by simp[Enc.size];exact fun _ _=>rfl,ja _⟩];rfl
 exact h
theorem Ap:bp Tryd.prog 41 [] (enc mS):=by
 refine bp.cw Tryd.func41 Le Ma Nc (t7 rfl) (fun hwf W0 D0 E1 =>?_);simp only[BF,GF,bS];have R:=y6 @KH aI
 repeat' ((first |(with_reducible refine .guard (fun hb =>?_) (fun hb =>?_) <;>try simp only[hb])|refine ae.aM (by decide +kernel) rfl fun K hK =>?_|(refine .aD [0] hK ?_;clear hK K)|(with_reducible refine .done (hK _ ?_);clear hK K)|refine ae.of rfl ?_|(with_reducible refine aF.aL (fun h =>?_) (fun h =>?_) <;>try simp only[h])) <;>try simp only[aN,R,simprocAttr])
 all_goals clear R
 all_goals rfl
def xI:fF:=⟨⟨#[]⟩⟩
def pZ:fF:=⟨⟨#[112,111,117,110,100]⟩⟩
def lC(k:Int):fF:=mS.getD k.toNat xI
def oG(x:aQ):fF:=if x.kind≤2 then nP (lC x.kind) [x.aA] else nP (lC x.kind) [x.aA,x.other,x.no]
def nB(p:aJ)(i:Nat):fF:=(p.j.take i).foldl (fun a x=>kg a (oG x)) (nP pZ [p.aE,p.cv])
def vX(p:aJ):fF×Int:=match cP p with
 |none=>(xI,91)
 |some _=>(nB p p.j.length,0)
theorem Ik(k:Int):(lC k).b.size≤7:=by
 have h:∀ x∈mS,x.b.size≤7:=by decide
 simp only[lC,zz2];cases hk:mS[k.toNat]? with
 |none=>exact zw5 _
 |some x=>exact h x (List.mem_of_getElem? hk)
theorem zJ(w:fF){l:List Int}(hl:∀ x∈l,IntKind.i64.min≤x∧x≤IntKind.i64.max):(nP w l).b.size≤w.b.size+22*l.length+1:=by
 have:=zI w hl l.length (zz9 _);rw[nP,sj];have:tj.b.size=1:=rfl;omega
theorem ym{n:Int}(h:-100000≤n∧n≤100000):IntKind.i64.min≤n∧n≤IntKind.i64.max:=by
 have U:IntKind.i64.min=-9223372036854775808:=by decide
 have ab:IntKind.i64.max=9223372036854775807:=by decide
 omega
theorem FF{x:aQ}(h:gj x=true):(1≤x.kind∧x.kind≤8)∧(1≤x.aA∧x.aA≤9999)∧(0≤x.other∧x.other≤5)∧(0≤x.no∧x.no≤200):=by
 simp only[gj,cV] at h;split at h
 ·simp only[zz1,decide_eq_true_eq,beq_iff_eq] at h;omega
 ·split at h
  ·simp only[zz1,decide_eq_true_eq] at h;omega
  ·cases h
theorem E5{x:aQ}(h:gj x=true):(oG x).b.size≤74:=by
 obtain ⟨_,ab,af,ar⟩:=FF h;have hw:=Ik x.kind;simp only[oG];split
 ·have:=zJ (lC x.kind) (l:=[x.aA]) (by simp only[zy2,forall_eq];exact ym (by omega));simp only[zw8,List.length_nil] at this;omega
 ·have:=zJ (lC x.kind) (l:=[x.aA,x.other,x.no]) (by
   intro y hy;simp only[zw7,List.not_mem_nil,or_false] at hy;rcases hy with rfl | rfl | rfl <;>exact ym (by omega))
  simp only[zw8,List.length_nil] at this;omega
theorem HE:∀ {l:List aQ} {s s':az},gn s l=some s'→∀ x∈l,gj x=true
 | [],_,_,_,x,hx=>by cases hx
 |y::l,s,s',h,x,hx=>by
  simp only[gn] at h;cases hy:eb s y with
  |none=>rw[hy] at h;cases h
  |some s2 =>
   rw[hy] at h;rcases zw7.1 hx with rfl | hx
   ·simp only[eb] at hy;split at hy
    ·assumption
    ·cases hy
   ·exact HE h x hx
theorem FQ{p:aJ}{s:az}(h:cP p=some s):∀ x∈p.j,gj x=true:=HE (fe h).2.2.2.2.2
theorem F7(p:aJ){i:Nat}(h:i<p.j.length):nB p (i+1)=kg (nB p i) (oG p.j[i]):=by
 simp only[nB,zy3 h,List.foldl_append,List.foldl_cons,List.foldl_nil]
theorem F6{p:aJ}{s:az}(ho:cP p=some s):∀ i,i≤p.j.length→(nB p i).b.size≤50+74*i
 |0,_=>by
  have h5:=(fe ho).2.2.2.2.1;have ar:=(fe ho).2.2.2.1;simp only[iV,cV,zz1,decide_eq_true_eq] at h5;have:=zJ pZ (l:=[p.aE,p.cv]) (by
   intro y hy;simp only[zw7,List.not_mem_nil,or_false] at hy;rcases hy with rfl | rfl <;>exact ym (by omega))
  have hp:pZ.b.size=5:=rfl;simp only[zw8,List.length_nil] at this
  show (nP pZ [p.aE,p.cv]).b.size≤_
  omega
 |i+1,h=>by
  have U:=F6 ho i (by omega);have ab:=E5 (FQ ho p.j[i] (zw9 _));rw[F7 p (by omega),sj];omega
theorem Bc(a:Int):gx 1 (some [.int .i64 a])=some (enc [a]):=sg (ys:=[a]) 1 rfl
theorem KI(a b:Int):gx 1 (some [.int .i64 a,.int .i64 b])=some (enc [a,b]):=sg (ys:=[a,b]) 1 rfl
theorem KJ(a b c:Int):gx 1 (some [.int .i64 a,.int .i64 b,.int .i64 c])=some (enc [a,b,c]):=sg (ys:=[a,b,c]) 1 rfl
theorem YF{k:Int}(h:1≤k∧k≤8)(A:ai):kU A 1 k (enc mS)=some (.ref (enc (lC k))):=by
 have hk:k.toNat<mS.length:=by show k.toNat<9;omega
 have:=fT (A:=A) (l:=mS) (k:=k.toNat) 1 hk rfl;have e:((k.toNat:Nat):Int)=k:=by omega
 rw[e] at this;rw[this];simp[lC,zz2,hk]
def AE(p:aJ)(i:Nat):ai :=
 au [(1,.ptr 1 []),(5,enc (nB p i)),(20,enc p.j),(21,.int .i64 p.j.length),(22,.int .i64 i)] [(1,.box (enc p))]
theorem IC(p:aJ):bp Tryd.prog 17 [enc p] (.tuple [enc (vX p).1,enc (vX p).2]):=by
 refine bp.cw Tryd.func17 KS LN MP (t7 rfl) (fun hwf W0 D0 E1 =>?_);simp only[Bj,Gi,bS];clear hwf;have hF:=r5 p;simp only[pB] at hF;simp only[vX];have e0:(I.bT ⟨#[]⟩)=enc xI:=rfl;have e1:(I.bT ⟨#[112,111,117,110,100]⟩)=enc pZ:=rfl;cases ho:cP p with
 |none =>
  rw[ho] at hF;have R:=y6 @bA (y6 @bq (y6 @bM (y6 @bz (y6 @bw aI))))
  repeat' ((first |(with_reducible refine .guard (fun hb =>?_) (fun hb =>?_) <;>try simp only[hb])|refine ae.aM (by decide +kernel) rfl fun K hK =>?_|refine .lead _ (hF) ?_|(refine .aD [0,1,2,3,4,5,7,11,20,21,22,23,28] hK ?_;clear hK K)|(with_reducible refine .done (hK _ ?_);clear hK K)|refine ae.of rfl ?_|(with_reducible refine aF.aL (fun h =>?_) (fun h =>?_) <;>try simp only[h])) <;>try simp only[aN,R,simprocAttr])
  all_goals clear R
  all_goals rfl
 |some s =>
  have hjl:=(fe ho).2.2.2.1;have hok:=FQ ho;have hsz:=F6 ho;have hp:pZ.b.size=5:=rfl;have hR:=wR pZ [p.aE,p.cv] (by simp[hp]);rw[ho] at hF;have R:=y6 @KI (y6 @bA (y6 @bq (y6 @bM (y6 @bz (y6 @bw aI)))))
  repeat' ((first |(with_reducible refine .guard (fun hb =>?_) (fun hb =>?_) <;>try simp only[hb])|refine ae.aM (by decide +kernel) rfl fun K hK =>?_|refine .lead _ (hF) ?_|refine .flat _ (hR) rfl ?_|(refine .aD [0,1,2,3,4,5,7,11,20,21,22,23,28] hK ?_;clear hK K)|(with_reducible refine .done (hK _ ?_);clear hK K)|refine ae.of rfl ?_|(with_reducible refine aF.aL (fun h =>?_) (fun h =>?_) <;>try simp only[h])) <;>try simp only[aN,R,simprocAttr])
  all_goals clear R
  refine ae.loop (AE p) (fun i=>i≤p.j.length) (fun i=>p.j.length-i) 0 (zw5 _) ?_ ?_
  ·refine bn.cB ?_ ?_ ?_ ?_ <;>simp[bX,cA,b6,b8,av,b9,ct,I.only,ak.only,b7]
   all_goals rfl
  intro i hi;simp only[AE];have hsi:=hsz i hi;by_cases hlt:i<p.j.length
  ·have hc:=hX hlt;have he:=fun A=>fT (A:=A) 4 hlt rfl;have hw:=fj (i:=i) (by omega);have hst:∀ A rest b,da A (some 4) 7 [] b (enc p.j[i]) rest (some (.agg [.int .i64 0,.int .i64 0,.int .i64 0,.int .i64 0]))=aC rest (A.aZ 7 (.box (enc p.j[i]))):=fun A rest b=>dU (eH _) (by rw[fH];rfl) (ff _);have hoki:=hok p.j[i] (zw9 hlt);have hls:=E5 hoki;obtain ⟨hk,hk2⟩:=FF hoki;have hwd:=YF hk;have hps:=F7 p hlt;have hww:=Ik p.j[i].kind;generalize p.j[i]=x at *;have hadd:∀ l:fF,l.b.size≤74→cF .add (enc (nB p i)) (enc l)=some (enc (kg (nB p i) l)):=fun l h=>uC (nB p i) l (by omega);rcases q:decide (x.kind≤2)
   ·have hh:¬ x.kind≤2:=of_decide_eq_false q;have hl:oG x=nP (lC x.kind) [x.aA,x.other,x.no]:=by simp[oG,hh]
    rw[hl] at hls hps;have hR2:=wR (lC x.kind) [x.aA,x.other,x.no] (by simp;omega);have had:=hadd _ hls;have R:=y6 @hc (y6 @he (y6 @hw (y6 @hst (y6 @hwd (y6 @q (y6 @had (y6 @KJ (y6 @bA (y6 @bq (y6 @bM (y6 @bz (y6 @bw aI))))))))))))
    repeat' ((first |(with_reducible refine .guard (fun hb =>?_) (fun hb =>?_) <;>try simp only[hb])|refine ae.aM (by decide +kernel) rfl fun K hK =>?_|refine .lead _ (Ap) ?_|refine .flat _ (hR2) rfl ?_|(refine .aD [0,1,2,3,4,5,7,11,20,21,22,23,28] hK ?_;clear hK K)|(with_reducible refine .done (hK _ ?_);clear hK K)|refine ae.of rfl ?_|(with_reducible refine aF.aL (fun h =>?_) (fun h =>?_) <;>try simp only[h])) <;>try simp only[aN,R,simprocAttr])
    all_goals clear R
    refine ⟨i+1,by omega,by omega,?_⟩;rw[hps];refine bn.cB ?_ ?_ ?_ ?_ <;>simp[bX,cA,b6,b8,av,b9,ct,I.only,ak.only,b7]
    all_goals rfl
   ·have hh:x.kind≤2:=of_decide_eq_true q;have hl:oG x=nP (lC x.kind) [x.aA]:=by simp[oG,hh]
    rw[hl] at hls hps;have hR2:=wR (lC x.kind) [x.aA] (by simp;omega);have had:=hadd _ hls;have R:=y6 @hc (y6 @he (y6 @hw (y6 @hst (y6 @hwd (y6 @q (y6 @had (y6 @Bc (y6 @bA (y6 @bq (y6 @bM (y6 @bz (y6 @bw aI))))))))))))
    repeat' ((first |(with_reducible refine .guard (fun hb =>?_) (fun hb =>?_) <;>try simp only[hb])|refine ae.aM (by decide +kernel) rfl fun K hK =>?_|refine .lead _ (Ap) ?_|refine .flat _ (hR2) rfl ?_|(refine .aD [0,1,2,3,4,5,7,11,20,21,22,23,28] hK ?_;clear hK K)|(with_reducible refine .done (hK _ ?_);clear hK K)|refine ae.of rfl ?_|(with_reducible refine aF.aL (fun h =>?_) (fun h =>?_) <;>try simp only[h])) <;>try simp only[aN,R,simprocAttr])
    all_goals clear R
    refine ⟨i+1,by omega,by omega,?_⟩;rw[hps];refine bn.cB ?_ ?_ ?_ ?_ <;>simp[bX,cA,b6,b8,av,b9,ct,I.only,ak.only,b7]
    all_goals rfl
  ·have hge:i=p.j.length:=by omega
   have hc:=hJ hlt;subst hge;have R:=y6 @hc (y6 @bA (y6 @bq (y6 @bM (y6 @bz (y6 @bw aI)))))
   repeat' ((first |(with_reducible refine .guard (fun hb =>?_) (fun hb =>?_) <;>try simp only[hb])|refine ae.aM (by decide +kernel) rfl fun K hK =>?_|(refine .aD [0,1,2,3,4,5,7,11,20,21,22,23,28] hK ?_;clear hK K)|(with_reducible refine .done (hK _ ?_);clear hK K)|refine ae.of rfl ?_|(with_reducible refine aF.aL (fun h =>?_) (fun h =>?_) <;>try simp only[h])) <;>try simp only[aN,R,simprocAttr])
   all_goals clear R
theorem cz.ui{P:Program}{Y:Value→List I→List (Nat×ak)→cE→Prop}{hs:List FuncId}{K:ai→Prop}{v:Value}{vs:List I}{dst:Option Nat}{rest:List aw}{ts:List (Nat×I)}{os osk ow:List (Nat×ak)}{In Ix:List (Nat×ak)→Prop}
  (hY:Y v vs osk (fun r os2=>(r=.bool true∧In os2)∨(r=.bool false∧Ix os2))) (hk:fk os osk) (hi:∀ os',In os'→fk os os') (hx:∀ os',Ix os'→fk os os') (hcl:I.cq vs=true) (how:∀ m,av ow m=true→m<1000000)
  (U:∀ os2,In os2→cz P Y hs K (aC rest ((au ts (ow++os2)).a8 dst (.bool true)))) (ab:∀ os2,Ix os2→cz P Y hs K (aC rest ((au ts (ow++os2)).a8 dst (.bool false)))) :
  cz P Y hs K (.mg v vs dst rest (au ts (ow++osk))):=by
 refine .Il osk vs _ hY (hd.gi hk how) (uH vs hcl) ?_ ?_
 ·rintro r os' (⟨rfl,h⟩ | ⟨rfl,h⟩)
  ·exact gJ.gi hk (hi _ h) rfl
  ·exact gJ.gi hk (hx _ h) rfl
 ·rintro r os' (⟨rfl,h⟩ | ⟨rfl,h⟩)
  ·rw[uI hk (hi _ h) how];exact U os' h
  ·rw[uI hk (hx _ h) how];exact ab os' h
theorem sO{os os2 ow:List (Nat×ak)}{ts:List (Nat×I)}(h:fk os os2)(how:∀ m,av ow m=true→m<1000000):∀ n x,aj os2 n=some x→(au ts (ow++os2)).o n=some x∧x.only (av os2)=true∧x.en=true:=fun n x hx=>by
 have hn:av os2 n=true:=by simp[av,hx]
 have hg:=h.nl n (by rw[←h.same];exact hn);refine ⟨?_,h.ok n x hx⟩;simp only[au,gv];cases hw:aj ow n with
 |none=>exact hx
 |some y=>have:=how n (by simp[av,hw]);omega
def wb:ca:=⟨0,0,0,0,0⟩
def nG(s:az)(to n:Int):ca:=⟨if (s.aH (n.toNat-1)).dQ then 3 else 1,s.aE,to,(s.aH (n.toNat-1)).aA,n⟩
def o8(s:az)(to n:Int):Bool:=(s.aH (n.toNat-1)).to==to
def gA(s:az)(to:Int)(i:Nat):List ca:=(((bY s.bx).take i).filter (o8 s to)).map (nG s to)
def lv(s:az)(to:Int)(no:Nat):List ca:=match s.bK.find? fun x=>decide (dF x=⟨to,no⟩) with
 |some x=>[⟨if x.kind=8 then 4 else 2,s.aE,to,x.aA,no⟩]
 |none=>[]
def h4(s:az)(to:Int)(k:Nat):List ca:=(List.range k).flatMap fun i=>lv s to (i+1)
def fW(s:az)(to:Int):List ca:=gA s to (bY s.bx).length++h4 s to 200
theorem yr(s:az)(to:Int){i:Nat}(h:i<(bY s.bx).length):gA s to (i+1)=gA s to i++if o8 s to (bY s.bx)[i] then [nG s to (bY s.bx)[i]] else []:=by
 simp only[gA,zy3 h,List.filter_append,zx2,zw0,List.filter_nil]
 congr 1
 split <;>rfl
theorem rq(s:az)(to:Int)(k:Nat):h4 s to (k+1)=h4 s to k++lv s to (k+1):=by
 simp only[h4,List.range_succ,List.flatMap_append,List.flatMap_cons,List.flatMap_nil,zy1]
theorem EE(s:az)(to:Int):∀ {i n:Nat},i≤n→n≤(bY s.bx).length→gA s to i <+: gA s to n
 |i,0,h,_=>by
   have:i=0:=by omega
   subst this;exact List.prefix_rfl
 |i,n+1,h,hn=>by
  by_cases e:i=n+1
  ·subst e;exact List.prefix_rfl
  ·rw[yr s to (by omega)];exact (EE s to (by omega) (by omega)).trans (List.prefix_append _ _)
theorem EH(s:az)(to:Int):∀ {k n:Nat},k≤n→h4 s to k <+: h4 s to n
 |k,0,h=>by
   have:k=0:=by omega
   subst this;exact List.prefix_rfl
 |k,n+1,h=>by
  by_cases e:k=n+1
  ·subst e;exact List.prefix_rfl
  ·rw[rq];exact (EH s to (by omega)).trans (List.prefix_append _ _)
theorem Ee{α:Type}{l m:List α}{x d:α}(h:l++[x] <+: m):l.length<m.length∧m.getD l.length d=x:=by
 obtain ⟨r,rfl⟩:=h;refine ⟨by simp,?_⟩;rw[zy4,zz2,zv1 (zz9 _)];simp
theorem XW{s:az}{to:Int}{i:Nat}(h:i<(bY s.bx).length)(ht:o8 s to (bY s.bx)[i]=true):(gA s to i).length<(fW s to).length∧(fW s to).getD (gA s to i).length wb=nG s to (bY s.bx)[i]:=by
 have U:=yr s to h;rw[if_pos ht] at U;have ab:=EE s to (i:=i+1) (n:=(bY s.bx).length) (by omega) (zz9 _);rw[U] at ab;exact Ee (ab.trans (List.prefix_append _ _))
theorem XX{s:az}{to:Int}{k:Nat}{x:ca}(h:k<200)(hx:lv s to (k+1)=[x]):(gA s to (bY s.bx).length++h4 s to k).length<(fW s to).length∧(fW s to).getD (gA s to (bY s.bx).length++h4 s to k).length wb=x:=by
 have U:=rq s to k;rw[hx] at U;have ab:=EH s to (k:=k+1) (n:=200) (by omega);rw[U] at ab;refine Ee ?_;rw[zy4];exact List.prefix_append_right_inj _ |>.2 ab
theorem qQ(a b c d e:Int):(ef [.int .i64 0,.int .i64 0,.int .i64 0,.int .i64 0,.int .i64 0] [(0,.int .i64 a),(1,.int .i64 b),(2,.int .i64 c),(3,.int .i64 d),(4,.int .i64 e)]).map I.agg=some (enc (⟨a,b,c,d,e⟩:ca)):=by simp[ef,I.bV,I.size];rfl
theorem oZ:(∀ A n b rest (q:ca) x y z w u,da A (some 5) n [] b (enc q) rest (some (.agg [.int .i64 x,.int .i64 y,.int .i64 z,.int .i64 w,.int .i64 u]))=aC rest (A.aZ n (.box (enc q)))) ∧
  (∀ (A:ai) n (q:ca) rest (v u:Int),da A none n [0] (enc q) (.int .i64 v) rest (some (.int .i64 u))=aC rest (A.aZ n (.box (enc (⟨v,q.fI,q.to,q.aA,q.no⟩:ca))))) ∧
  (∀ A n b rest (q:aQ) x y z w,da A (some 4) n [] b (enc q) rest (some (.agg [.int .i64 x,.int .i64 y,.int .i64 z,.int .i64 w]))=aC rest (A.aZ n (.box (enc q)))) :=
 ⟨fun A n b rest q x y z w u=>dU (eH _) (by rw[fH];rfl) (ff _),fun A n q rest v u=>dU rfl rfl rfl,fun A n b rest q x y z w=>dU (eH _) (by rw[fH];rfl) (ff _)⟩
theorem vP{a b:ak} : ∀ m,av [(7,a),(7,b)] m=true→m<1000000:=fun m h=>by
 simp only[av,aj] at h
 (repeat' split at h) <;>first | omega | (simp at h;done)
theorem vQ{a b c:ak} : ∀ m,av [(7,a),(7,b),(7,c)] m=true→m<1000000:=fun m h=>by
 simp only[av,aj] at h
 (repeat' split at h) <;>first | omega | (simp at h;done)
theorem vO{a b c d:ak} : ∀ m,av [(11,a),(11,b),(9,c),(9,d)] m=true→m<1000000:=fun m h=>by
 simp only[av,aj] at h
 (repeat' split at h) <;>first | omega | (simp at h;done)
theorem zl{a b c d e:ak} : ∀ m,av [(11,a),(11,b),(11,e),(9,c),(9,d)] m=true→m<1000000:=fun m h=>by
 simp only[av,aj] at h
 (repeat' split at h) <;>first | omega | (simp at h;done)
theorem aaD:∀ m,av [] m=true→m<1000000:=fun m h=>by simp[av,aj] at h
theorem pC{ow os osk:List (Nat×ak)}(hw:∀ m,av ow m=true→m<1000000)(gk:fk os osk):∀ m,aj osk m=none∨aj osk m=aj (ow++osk) m:=fun m=>by
 rw[gv];cases h:aj ow m with
 |none=>exact .inr rfl
 |some y=>exact .inl (gk.none (hw m (by simp[av,h])))
theorem qp(p:Nat→Bool)(s:az):(c8 s).only p=true:=lj p _ (nZ s)
def uA(s:az)(to:Int)(v:Value)(t:Nat×List (Nat×ak)):ai :=
 au [(0,.raw v),(1,.ref (c8 s)),(2,.ref (.int .i64 to)),(8,.int .i64 ((t.1:Int)+1))] t.2
def uz(s:az)(to:Int)(v:Value)(t:Nat×List (Nat×ak)):ai :=
 au [(0,.raw v),(1,.ref (c8 s)),(2,.ref (.int .i64 to)),(13,enc (bY s.bx)),(14,.int .i64 (bY s.bx).length),(15,.int .i64 t.1)] t.2
theorem I7(s:az)(to:Int)(hl:s.aK.length≤1000):Az Tryd.prog 54 [.ref (c8 s),.ref (enc to)] (fW s to).length (fun k=>[enc ((fW s to).getD k wb)]):=by
 intro Y v aq Ix os hv hY hI hIx bf;have hG:=hI 0 os bf;have hlen:(bY s.bx).length=s.aK.length:=by simp[bY,az.bx]
 have hN:=wQ s (by omega);refine l4.cw Tryd.func54 B9 Mk Nq (t7 rfl) (t7 rfl) hG.nl (fun hwf W0 D0 E1 =>?_);simp only[BO,GP,bS,zz4,Nat.reduceAdd];have R:=y6 @di (y6 @bq (y6 @bM (y6 @bz (y6 @bw aI))))
 repeat' ((first |(with_reducible refine .guard (fun hb =>?_) (fun hb =>?_) <;>try simp only[hb])|refine ae.aM (by decide +kernel) rfl fun K hK =>?_|refine .lead _ (hN) ?_|(refine .aD [0,1,2,5,6,7,8,9,10,11,13,14,15,16,39,52,55,80,88] hK ?_;clear hK K)|(with_reducible refine .done (hK _ ?_);clear hK K)|refine ae.of rfl ?_|(with_reducible refine aF.aL (fun h =>?_) (fun h =>?_) <;>try simp only[h])) <;>try simp only[aN,R,simprocAttr])
 all_goals clear R
 refine ae.loop (uz s to v) (fun t=>t.1≤(bY s.bx).length∧aq (gA s to t.1).length t.2) (fun t=>(bY s.bx).length-t.1) (0,os) ⟨zw5 _,bf⟩ ?_ ?_
 ·refine bn.slots ?_ (fun n=>rfl);simp[bX,b9]
 rintro ⟨i,osk⟩ ⟨hi,hIk⟩;simp only at hi hIk;have gk:=hI _ osk hIk;have lf:=gk.none (n:=7) (by decide);simp only[uz];by_cases hlt:i<(bY s.bx).length
 ·have hc:=hX hlt;have he:=fun A=>fT (A:=A) 1 hlt rfl;have hw:=fj (i:=i) (by omega);have hlk:=yF s hlt;have hsu:=yr s to hlt;have hra:=XW (s:=s) (to:=to) hlt;obtain ⟨n,hn⟩:∃ n,n=(bY s.bx)[i]:=⟨_,rfl⟩
  rw[←hn] at he hlk hsu hra;obtain ⟨r,hr⟩:∃ r,r=s.aH (n.toNat-1):=⟨_,rfl⟩
  have hrd:nG s to n=⟨if r.dQ then 3 else 1,s.aE,to,r.aA,n⟩:=by simp only[nG,←hr]
  have hta:o8 s to n=(r.to==to):=by simp only[o8,←hr]
  rw[←hr] at hlk;rcases q:(r.to==to)
  ·rw[q] at hta;rw[hta] at hsu;simp only[zz5,if_false,zy1] at hsu;rcases qc:r.dQ
   all_goals
    have R:=y6 @hc (y6 @he (y6 @hw (y6 @hlk (y6 @q (y6 @qc (y6 @lf (y6 @qQ (y6 @oZ (y6 @di (y6 @bq (y6 @bM (y6 @bz (y6 @bw aI)))))))))))))
    repeat' ((first |(with_reducible refine .guard (fun hb =>?_) (fun hb =>?_) <;>try simp only[hb])|(refine ae.tK (gs:=pI) [] [] [0,1,2,3,4,5,6,7,8,9,10,11] (by decide +kernel) (dC.of (by simp[hU])) fun K hK =>?_;simp only[hZ,pI,zw1,zw2,R,simprocAttr])|refine ae.aM (by decide +kernel) rfl fun K hK =>?_|(refine .aD [0,1,2,5,6,7,8,9,10,11,13,14,15,16,39,52,55,80,88] hK ?_;clear hK K)|(with_reducible refine .done (hK _ ?_);clear hK K)|refine ae.of rfl ?_|(with_reducible refine aF.aL (fun h =>?_) (fun h =>?_) <;>try simp only[h])) <;>try simp only[aN,R,simprocAttr])
    all_goals clear R
    refine ⟨(i+1,osk),⟨by simp only;omega,by simp only[hsu];exact hIk⟩,by simp only;omega,?_⟩;refine bn.fn ?_ ?_ ?_ (fun m x h=>(gk.ok m x h).1)
    ·simp[bX,b9]
    ·first | exact pC (ow:=[(7,_),(7,_)]) vP gk | exact pC (ow:=[(7,_),(7,_),(7,_)]) vQ gk
    ·simp[b6,I.only,b7,qp]
  ·rw[q] at hta;rw[hta,if_pos rfl] at hsu;obtain ⟨g1,g2⟩:=hra hta;have hs1:(gA s to (i+1)).length=(gA s to i).length+1:=by rw[hsu];simp
   have hy:=hY _ osk _ g1 hIk (fun r os2 h=>h);simp only[g2,hrd] at hy;rcases qc:r.dQ
   ·rw[qc] at hy;simp only[zz5,if_false] at hy;have R:=y6 @hc (y6 @he (y6 @hw (y6 @hlk (y6 @q (y6 @qc (y6 @lf (y6 @qQ (y6 @oZ (y6 @uN (y6 @di (y6 @bq (y6 @bM (y6 @bz (y6 @bw aI))))))))))))))
    repeat' ((first |(with_reducible refine .guard (fun hb =>?_) (fun hb =>?_) <;>try simp only[hb])|(refine ae.tK (gs:=pI) [] [] [0,1,2,3,4,5,6,7,8,9,10,11] (by decide +kernel) (dC.of (by simp[hU])) fun K hK =>?_;simp only[hZ,pI,zw1,zw2,R,simprocAttr])|refine ae.aM (by decide +kernel) rfl fun K hK =>?_|refine cz.ui (ow:=[(7,_),(7,_)]) hy gk (hI _) hIx (by simp[I.cq,kR]) vP (fun os2 ab =>?_) (fun os2 ab =>?_)|(refine .aD [0,1,2,5,6,7,8,9,10,11,13,14,15,16,39,52,55,80,88] hK ?_;clear hK K)|(with_reducible refine .done (hK _ ?_);clear hK K)|refine ae.of rfl ?_|(with_reducible refine aF.aL (fun h =>?_) (fun h =>?_) <;>try simp only[h])) <;>try simp only[aN,R,simprocAttr])
    all_goals clear R
    ·have g3:=hI _ os2 ab;refine ⟨(i+1,os2),⟨by simp only;omega,by simp only[hs1];exact ab⟩,by simp only;omega,?_⟩;refine bn.fn ?_ (pC vP g3) ?_ (fun m x h=>(g3.ok m x h).1)
     ·simp[bX,b9]
     ·simp[b6,I.only,b7,qp]
    ·rw[nM];exact ⟨os2,[],sO (hIx os2 ab) vP,trivial,rfl,.inr ab⟩
   ·rw[qc] at hy;simp only[if_true] at hy;have R:=y6 @hc (y6 @he (y6 @hw (y6 @hlk (y6 @q (y6 @qc (y6 @lf (y6 @qQ (y6 @oZ (y6 @uN (y6 @di (y6 @bq (y6 @bM (y6 @bz (y6 @bw aI))))))))))))))
    repeat' ((first |(with_reducible refine .guard (fun hb =>?_) (fun hb =>?_) <;>try simp only[hb])|(refine ae.tK (gs:=pI) [] [] [0,1,2,3,4,5,6,7,8,9,10,11] (by decide +kernel) (dC.of (by simp[hU])) fun K hK =>?_;simp only[hZ,pI,zw1,zw2,R,simprocAttr])|refine ae.aM (by decide +kernel) rfl fun K hK =>?_|refine cz.ui (ow:=[(7,_),(7,_),(7,_)]) hy gk (hI _) hIx (by simp[I.cq,kR]) vQ (fun os2 ab =>?_) (fun os2 ab =>?_)|(refine .aD [0,1,2,5,6,7,8,9,10,11,13,14,15,16,39,52,55,80,88] hK ?_;clear hK K)|(with_reducible refine .done (hK _ ?_);clear hK K)|refine ae.of rfl ?_|(with_reducible refine aF.aL (fun h =>?_) (fun h =>?_) <;>try simp only[h])) <;>try simp only[aN,R,simprocAttr])
    all_goals clear R
    ·have g3:=hI _ os2 ab;refine ⟨(i+1,os2),⟨by simp only;omega,by simp only[hs1];exact ab⟩,by simp only;omega,?_⟩;refine bn.fn ?_ (pC vQ g3) ?_ (fun m x h=>(g3.ok m x h).1)
     ·simp[bX,b9]
     ·simp[b6,I.only,b7,qp]
    ·rw[nM];exact ⟨os2,[],sO (hIx os2 ab) vQ,trivial,rfl,.inr ab⟩
 ·have hge:i=(bY s.bx).length:=by omega
  have hc:=hJ hlt;rw[hge] at hIk;rw[hge] at hc ⊢;have R:=y6 @hc (y6 @di (y6 @bq (y6 @bM (y6 @bz (y6 @bw aI)))))
  repeat' ((first |(with_reducible refine .guard (fun hb =>?_) (fun hb =>?_) <;>try simp only[hb])|refine ae.aM (by decide +kernel) rfl fun K hK =>?_|(refine .aD [0,1,2,5,6,7,8,9,10,11,13,14,15,16,39,52,55,80,88] hK ?_;clear hK K)|(with_reducible refine .done (hK _ ?_);clear hK K)|refine ae.of rfl ?_|(with_reducible refine aF.aL (fun h =>?_) (fun h =>?_) <;>try simp only[h])) <;>try simp only[aN,R,simprocAttr])
  all_goals clear R
  refine ae.loop (uA s to v) (fun t=>t.1≤200∧aq (gA s to (bY s.bx).length++h4 s to t.1).length t.2) (fun t=>200-t.1) (0,osk) ⟨zw5 _,by simpa[h4] using hIk⟩ ?_ ?_
  ·refine bn.slots ?_ (fun n=>rfl);simp[bX,b9]
  clear hIk gk lf hc hlt hi hge;rintro ⟨k,osk⟩ ⟨hk,hIk⟩;simp only at hk hIk;have gk:=hI _ osk hIk;have n9:=gk.none (n:=9) (by decide);have n11:=gk.none (n:=11) (by decide);simp only[uA];by_cases hlt:k<200
  ·have hc:decide (((k:Int)+1)≤200)=true:=by simp;omega
   have hw:IntKind.i64.wrap ((k:Int)+1+1)=((k+1:Nat):Int)+1:=by rw[jR _ (by omega) (by omega)];omega
   have hsu:=rq s to k;have hlg:=yE uY dF (fun x:aQ=>enc x) (.agg [.int .i64 0,.int .i64 0,.int .i64 0,.int .i64 0]) ⟨to,(k:Int)+1⟩ s.bK;have ew:(enc (⟨to,(k:Int)+1⟩:iY):I)=.agg [.int .i64 to,.int .i64 ((k:Int)+1)]:=rfl;rw[ew] at hlg;have e2:(fun x:aQ=>decide ((⟨to,(k:Int)+1⟩:iY)=dF x))=fun x=>decide (dF x=⟨to,(k:Int)+1⟩):=by
    funext x;rw[Bool.eq_iff_iff];simp[eq_comm]
   rw[e2] at hlg;have hrb:lv s to (k+1)=match s.bK.find? fun x=>decide (dF x=⟨to,(k:Int)+1⟩) with
    |some x=>[⟨if x.kind=8 then 4 else 2,s.aE,to,x.aA,(k:Int)+1⟩]
    |none=>[]:=by simp only[lv];rfl
   have gr:=fun x=>XX (s:=s) (to:=to) (k:=k) (x:=x) hlt;cases hf:s.bK.find? fun x=>decide (dF x=⟨to,(k:Int)+1⟩) with
   |none =>
    rw[hf] at hlg hrb;simp only at hlg hrb;have hlk:fL (.bm [.i .i64,.i .i64]) (.agg [.int .i64 0,.int .i64 0,.int .i64 0,.int .i64 0]) (.agg [.int .i64 to,.int .i64 ((k:Int)+1)]) (s.c9.map enc) (s.bK.map enc)=some (enc fK,false):=hlg;have q:(fK.kind==8)=false:=rfl;rw[hrb,zy1] at hsu;have R:=y6 @hc (y6 @hw (y6 @hlk (y6 @q (y6 @n9 (y6 @n11 (y6 @qR (y6 @qQ (y6 @oZ (y6 @di (y6 @bq (y6 @bM (y6 @bz (y6 @bw aI)))))))))))))
    repeat' ((first |(with_reducible refine .guard (fun hb =>?_) (fun hb =>?_) <;>try simp only[hb])|refine ae.aM (by decide +kernel) rfl fun K hK =>?_|(refine .aD [0,1,2,5,6,7,8,9,10,11,13,14,15,16,39,52,55,80,88] hK ?_;clear hK K)|(with_reducible refine .done (hK _ ?_);clear hK K)|refine ae.of rfl ?_|(with_reducible refine aF.aL (fun h =>?_) (fun h =>?_) <;>try simp only[h])) <;>try simp only[aN,R,simprocAttr])
    all_goals clear R
    refine ⟨(k+1,osk),⟨by simp only;omega,by simp only[hsu];exact hIk⟩,by simp only;omega,?_⟩;refine bn.fn ?_ (pC (ow:=[(11,_),(11,_),(9,_),(9,_)]) vO gk) ?_ (fun m x h=>(gk.ok m x h).1)
    ·simp[bX,b9]
    ·simp[b6,I.only,qp]
   |some x =>
    rw[hf] at hlg hrb;simp only at hlg hrb;have hlk:fL (.bm [.i .i64,.i .i64]) (.agg [.int .i64 0,.int .i64 0,.int .i64 0,.int .i64 0]) (.agg [.int .i64 to,.int .i64 ((k:Int)+1)]) (s.c9.map enc) (s.bK.map enc)=some (enc x,true):=hlg;obtain ⟨g1,g2⟩:=gr _ hrb;rw[hrb] at hsu;have hs1:(gA s to (bY s.bx).length++h4 s to (k+1)).length=(gA s to (bY s.bx).length++h4 s to k).length+1:=by rw[hsu];simp only[zz6,zw8,List.length_nil];omega
    have hy:=hY _ osk _ g1 hIk (fun r os2 h=>h);simp only[g2] at hy;rcases q:(x.kind==8)
    ·have qk:¬ x.kind=8:=by simpa using q
     simp only[if_neg qk] at hy;have R:=y6 @hc (y6 @hw (y6 @hlk (y6 @q (y6 @n9 (y6 @n11 (y6 @qR (y6 @qQ (y6 @oZ (y6 @uN (y6 @di (y6 @bq (y6 @bM (y6 @bz (y6 @bw aI))))))))))))))
     repeat' ((first |(with_reducible refine .guard (fun hb =>?_) (fun hb =>?_) <;>try simp only[hb])|refine ae.aM (by decide +kernel) rfl fun K hK =>?_|refine aW.ui (ow:=[(11,_),(11,_),(9,_),(9,_)]) hy gk (hI _) hIx (by simp[I.cq,kR]) vO (fun os2 ab =>?_) (fun os2 ab =>?_)|(refine .aD [0,1,2,5,6,7,8,9,10,11,13,14,15,16,39,52,55,80,88] hK ?_;clear hK K)|(with_reducible refine .done (hK _ ?_);clear hK K)|refine ae.of rfl ?_|(with_reducible refine aF.aL (fun h =>?_) (fun h =>?_) <;>try simp only[h])) <;>try simp only[aN,R,simprocAttr])
     all_goals clear R
     ·have g3:=hI _ os2 ab;refine ⟨(k+1,os2),⟨by simp only;omega,by simp only[hs1];exact ab⟩,by simp only;omega,?_⟩;refine bn.fn ?_ (pC vO g3) ?_ (fun m x h=>(g3.ok m x h).1)
      ·simp[bX,b9]
      ·simp[b6,I.only,qp]
     ·rw[nM];exact ⟨os2,[],sO (hIx os2 ab) vO,trivial,rfl,.inr ab⟩
    ·have qk:x.kind=8:=by simpa using q
     simp only[if_pos qk] at hy;have R:=y6 @hc (y6 @hw (y6 @hlk (y6 @q (y6 @n9 (y6 @n11 (y6 @qR (y6 @qQ (y6 @oZ (y6 @uN (y6 @di (y6 @bq (y6 @bM (y6 @bz (y6 @bw aI))))))))))))))
     repeat' ((first |(with_reducible refine .guard (fun hb =>?_) (fun hb =>?_) <;>try simp only[hb])|refine ae.aM (by decide +kernel) rfl fun K hK =>?_|refine aW.ui (ow:=[(11,_),(11,_),(11,_),(9,_),(9,_)]) hy gk (hI _) hIx (by simp[I.cq,kR]) zl (fun os2 ab =>?_) (fun os2 ab =>?_)|(refine .aD [0,1,2,5,6,7,8,9,10,11,13,14,15,16,39,52,55,80,88] hK ?_;clear hK K)|(with_reducible refine .done (hK _ ?_);clear hK K)|refine ae.of rfl ?_|(with_reducible refine aF.aL (fun h =>?_) (fun h =>?_) <;>try simp only[h])) <;>try simp only[aN,R,simprocAttr])
     all_goals clear R
     ·have g3:=hI _ os2 ab;refine ⟨(k+1,os2),⟨by simp only;omega,by simp only[hs1];exact ab⟩,by simp only;omega,?_⟩;refine bn.fn ?_ (pC zl g3) ?_ (fun m x h=>(g3.ok m x h).1)
      ·simp[bX,b9]
      ·simp[b6,I.only,qp]
     ·rw[nM];exact ⟨os2,[],sO (hIx os2 ab) zl,trivial,rfl,.inr ab⟩
  ·have hc:decide (((k:Int)+1)≤200)=false:=by simp;omega
   have hge:k=200:=by omega
   have R:=y6 @hc (y6 @di (y6 @bq (y6 @bM (y6 @bz (y6 @bw aI)))))
   repeat' ((first |(with_reducible refine .guard (fun hb =>?_) (fun hb =>?_) <;>try simp only[hb])|refine ae.aM (by decide +kernel) rfl fun K hK =>?_|(refine .aD [0,1,2,5,6,7,8,9,10,11,13,14,15,16,39,52,55,80,88] hK ?_;clear hK K)|(with_reducible refine .done (hK _ ?_);clear hK K)|refine ae.of rfl ?_|(with_reducible refine aF.aL (fun h =>?_) (fun h =>?_) <;>try simp only[h])) <;>try simp only[aN,R,simprocAttr])
   all_goals clear R
   rw[nL];refine ⟨osk,[],sO (ow:=[]) gk aaD,trivial,rfl,.inl ?_⟩;rw[fW];rw[hge] at hIk;exact hIk
def He(o:Option az):I:=match o with
 |some s=>.tuple [c8 s,.bool true]
 |none=>.tuple [.nilp,.bool false]
theorem IN(aE:Int)(l:List aQ)(hl:l.length≤200):bp Tryd.prog 38 [enc aE,enc l] (He (eW aE l)):=by
 refine bp.cw Tryd.func38 B5 Cq CJ (t7 rfl) (fun hwf W0 D0 E1 =>?_);simp only[xe,zw,bS,zz4];clear hwf;have R:=y6 @bM (y6 @bz (y6 @bw aI))
 repeat' ((first |(with_reducible refine .guard (fun hb =>?_) (fun hb =>?_) <;>try simp only[hb])|refine ae.aM (by decide +kernel) rfl fun K hK =>?_|refine aW.er rfl (fun _ _ _=>rfl) ?_|(refine .aD [0,1,4,5,6,8,11,12,13,14,20] hK ?_;clear hK K)|(with_reducible refine .done (hK _ ?_);clear hK K)|refine ae.of rfl ?_|(with_reducible refine aF.aL (fun h =>?_) (fun h =>?_) <;>try simp only[h])) <;>try simp only[aN,R,simprocAttr])
 all_goals clear R
 refine ae.loop (uy l) (fun t=>t.1≤l.length∧gn (er aE) (l.take t.1)=some t.2) (fun t=>l.length-t.1) (0,er aE) ⟨zw5 _,rfl⟩ ?_ ?_
 ·rw[zy1];refine bn.fn ?_ (fun n=>.inr rfl) ?_ (fun n x h=>(mN (lN aE) h).1)
  ·simp[bX,b9]
  ·have:=(dV (jw (er aE).all.length) (n:=2000)).2 (.inl (by omega));simp[b6,I.only,b7,this]
 rintro ⟨i,s⟩ ⟨hi,hrun⟩;simp only at hi hrun;obtain ⟨hk,hme,hln⟩:=nQ (lN aE) hrun;have hln2:s.all.length≤i:=by simpa[er,hi] using hln
 have kv:aj (dw s) 8=none:=eP (.inl (by omega)) fun i _=>by simp[bJ];omega
 simp only[uy];by_cases hlt:i<l.length
 ·have hc:=hX hlt;have he:=fun A=>fT (A:=A) 4 hlt rfl;have hw:=fj (i:=i) (by omega);have hst:∀ A rest,da A (some 4) 8 [] (.agg [.int .i64 0,.int .i64 0,.int .i64 0,.int .i64 0]) (enc l[i]) rest (some (.agg [.int .i64 0,.int .i64 0,.int .i64 0,.int .i64 0]))=aC rest (A.aZ 8 (.box (enc l[i]))):=fun A rest=>dU (eH _) (by rw[fH];rfl) (ff _);have how:∀ (a b:ak) m,2000≤m→aj [(8,a),(8,b)] m=none:=fun a b m hm=>by simp only[aj];rw[if_neg (by omega),if_neg (by omega)]
  have hsp:l=l.take i++l[i]::l.drop (i+1):=by simp
  cases hn:eb s l[i] with
  |none =>
   have hs:eh s l[i]=(s,false):=by simp[eh,hn]
   have R:=y6 @hc (y6 @he (y6 @hst (y6 @kv (y6 @bq (y6 @bM (y6 @bz (y6 @bw aI)))))))
   repeat' ((first |(with_reducible refine .guard (fun hb =>?_) (fun hb =>?_) <;>try simp only[hb])|refine ae.aM (by decide +kernel) rfl fun K hK =>?_|refine aW.uc (ow:=[(8,_),(8,_)]) hk (by omega) rfl (how _ _) hs ?_|(refine .aD [0,1,4,5,6,8,11,12,13,14,20] hK ?_;clear hK K)|(with_reducible refine .done (hK _ ?_);clear hK K)|refine ae.of rfl ?_|(with_reducible refine aF.aL (fun h =>?_) (fun h =>?_) <;>try simp only[h])) <;>try simp only[aN,R,simprocAttr])
   all_goals clear R
   have hno:eW aE l=none:=by
    rw[eW,hsp,oT,hrun];simp only[Option.bind_some,gn,hn]
   rw[hno];rfl
  |some s2 =>
   have hs:eh s l[i]=(s2,true):=by simp[eh,hn]
   have R:=y6 @hc (y6 @he (y6 @hst (y6 @hw (y6 @kv (y6 @bM (y6 @bz (y6 @bw aI)))))))
   repeat' ((first |(with_reducible refine .guard (fun hb =>?_) (fun hb =>?_) <;>try simp only[hb])|refine ae.aM (by decide +kernel) rfl fun K hK =>?_|refine aW.uc (ow:=[(8,_),(8,_)]) hk (by omega) rfl (how _ _) hs ?_|(refine .aD [0,1,4,5,6,8,11,12,13,14,20] hK ?_;clear hK K)|(with_reducible refine .done (hK _ ?_);clear hK K)|refine ae.of rfl ?_|(with_reducible refine aF.aL (fun h =>?_) (fun h =>?_) <;>try simp only[h])) <;>try simp only[aN,R,simprocAttr])
   all_goals clear R
   obtain ⟨hk2,hme2,hln3⟩:=Ad hk hn;refine ⟨(i+1,s2),⟨by simp only;omega,?_⟩,by simp only;omega,?_⟩
   ·rw[zy3 hlt,oT,hrun];simp only[Option.bind_some,gn,hn]
   ·refine bn.fn ?_ (fun n =>?_) ?_ (fun n x h=>(mN hk2 h).1)
    ·simp[bX,b9]
    ·simp only[gv];cases aj (dw s2) n with
     |none=>exact .inl rfl
     |some y=>exact .inr rfl
    ·have:=(dV (jw s2.all.length) (n:=2000)).2 (.inl (by omega));simp[b6,I.only,b7,this]
 ·have hge:i=l.length:=by omega
  have hc:=hJ hlt;subst hge;rw[zv3] at hrun;have hfin:∀ ts,c7 (au ts (dw s)) 9 (.agg [.int .i64 s.aE,.mref 2001,.mref 2002,.int .i64 s.all.length,.mref 2003,.mref 2004])=some (gH s):=fun ts=>iI (iM (jw _) hk.cN fun n _=>rfl) 4;have hla:aj (dw s) 2000=some (.box (.agg [.int .i64 s.aE,.mref 2001,.mref 2002,.int .i64 s.all.length,.mref 2003,.mref 2004])):=fY;have hrd:eW aE l=some s:=hrun;rw[hrd];have R:=y6 @hc (y6 @hfin (y6 @hla (y6 @yX (y6 @bq (y6 @bM (y6 @bz (y6 @bw aI)))))))
  repeat' ((first |(with_reducible refine .guard (fun hb =>?_) (fun hb =>?_) <;>try simp only[hb])|refine ae.aM (by decide +kernel) rfl fun K hK =>?_|(refine .aD [0,1,4,5,6,8,11,12,13,14,20] hK ?_;clear hK K)|(with_reducible refine .done (hK _ ?_);clear hK K)|refine ae.of rfl ?_|(with_reducible refine aF.aL (fun h =>?_) (fun h =>?_) <;>try simp only[h])) <;>try simp only[aN,R,simprocAttr])
  all_goals clear R
  rfl
theorem IP(s:az)(to:Int):bp Tryd.prog 39 [c8 s,enc to] (.func 54 [.ref (c8 s),.ref (enc to)]):=by
 refine bp.cw Tryd.func39 Lb L7 M9 (t7 rfl) (fun hwf W0 D0 E1 =>?_);simp only[BD,GC,bS,zz4];clear hwf;have hall:([I.ptr 2 [],I.ptr 3 []].all fun y=>y.bV)=true:=rfl;have hv:∀ k n,(I.int k n).bV=true:=fun _ _=>rfl;have R:=y6 @hall (y6 @hv (y6 @di (y6 @bq (y6 @bM (y6 @bz (y6 @bw aI))))))
 repeat' ((first |(with_reducible refine .guard (fun hb =>?_) (fun hb =>?_) <;>try simp only[hb])|refine ae.aM (by decide +kernel) rfl fun K hK =>?_|(refine .aD [0,1,2,3,4] hK ?_;clear hK K)|(with_reducible refine .done (hK _ ?_);clear hK K)|refine ae.of rfl ?_|(with_reducible refine aF.aL (fun h =>?_) (fun h =>?_) <;>try simp only[h])) <;>try simp only[aN,R,simprocAttr])
 all_goals clear R
theorem YJ{s:az}(hk:cK s)(to:Int):(gA s to (bY s.bx).length).Nodup:=by
 have hn:s.bx.Nodup:=by
  simp only[az.bx];exact List.Pairwise.map _ (fun a b h e=>h (by omega)) hk.kz
 have hs:(bY s.bx).Nodup:=(List.mergeSort_perm _ _).nodup_iff.2 hn;rw[gA,zv3];have hf:=hs.filter (o8 s to);exact List.Pairwise.map _ (fun a b h e=>h (by simpa[nG] using congrArg ca.no e)) hf
theorem yu{s:az}{to:Int} : ∀ {k:Nat} {x:ca},x∈h4 s to k→x.no≤k∧(x.kind=2∨x.kind=4)
 |0,x,h=>by simp[h4] at h
 |k+1,x,h=>by
  rw[rq] at h;rcases zy8.1 h with h | h
  ·have:=yu h;omega
  ·simp only[lv] at h;split at h
   ·rw[zy2.1 h];refine ⟨by simp,?_⟩;simp only;split <;>simp
   ·cases h
theorem EG(s:az)(to:Int):∀ k,(h4 s to k).Nodup
 |0=>by simp[h4]
 |k+1=>by
  rw[rq];refine zv8.2 ⟨EG s to k,?_,fun a ha b hb e =>?_⟩
  ·simp only[lv];split <;>simp
  ·have U:=(yu ha).1;have ab:b.no=(k:Int)+1:=by
    simp only[lv] at hb;split at hb
    ·rw[zy2.1 hb];simp
    ·cases hb
   rw[e] at U;omega
theorem abt{s:az}(hk:cK s)(to:Int):(fW s to).Nodup:=by
 refine zv8.2 ⟨YJ hk to,EG s to 200,fun a ha b hb e =>?_⟩;have U:=(yu hb).2;rw[←e] at U;simp only[gA,zy7] at ha;obtain ⟨n,_,rfl⟩:=ha;simp only[nG] at U;split at U <;>omega
def gP(p:aJ):List aQ:=p.j.take p.cv.toNat
def gF(p:aJ)(to:Int):List ca×Int:=match cP p with
 |none=>([],91)
 |some _=>if cV 0 5 to=false∨to=p.aE then ([],90) else match eW p.aE (gP p) with
  |some s=>(fW s to,0)
  |none=>([],0)
theorem x2{p:aJ}{s:az}(ho:cP p=some s):0≤p.cv∧p.cv.toNat≤p.j.length∧∃ s2,eW p.aE (gP p)=some s2∧cK s2∧s2.aK.length≤200:=by
 obtain ⟨_,_,_,ar,h5,h6⟩:=fe ho;simp only[iV,cV,zz1,decide_eq_true_eq] at h5;obtain ⟨_,_,h7,h8⟩:=h5;have hsp:p.j=gP p++p.j.drop p.cv.toNat:=by simp[gP]
 rw[eW,hsp,oT] at h6;cases hr:gn (er p.aE) (gP p) with
 |none=>rw[hr] at h6;cases h6
 |some s2 =>
  refine ⟨h7,by omega,s2,hr,(nQ (lN p.aE) hr).1,?_⟩;have:=zK hr;simp only[er,List.length_nil,gP,zx9] at this;omega
theorem abT{A:ai}{l:List aQ}{i:Nat}(h:i≤l.length):lX A 4 none (some (.int .i64 i)) (some (.int .i64 i)) (enc l)=some (if i=0 then .c0 4 else enc (l.take i)):=by
 simp only[lX,iR,show Enc.sz aQ=4 from rfl,if_true,j6,kc,zz8];rw[if_pos ⟨by omega,by omega,by omega,by omega⟩];by_cases bf:i=0
 ·simp[bf]
 ·rw[if_neg (by simp;omega),if_neg bf];simp
theorem nX{i:Nat}(l:List aQ)(aR:Bool)(A:ai):br aR A (if i=0 then .c0 4 else enc (l.take i))=some (enc (l.take i)):=by
 by_cases bf:i=0
 ·rw[if_pos bf,bf];simp only[br];rfl
 ·rw[if_neg bf,lJ]
theorem EF(s:az)(to:Int):∀ k,(h4 s to k).length≤k
 |0=>by simp[h4]
 |k+1=>by
  have U:=EF s to k;have ab:(lv s to (k+1)).length≤1:=by simp only[lv];split <;>simp
  rw[rq,zz6];omega
theorem Hx(s:az)(to:Int):(fW s to).length≤s.aK.length+200:=by
 have U:=EF s to 200;have ab:(gA s to (bY s.bx).length).length≤s.aK.length:=by
  simp only[gA,zz8,zv3];refine zv9 (List.length_filter_le _ _) ?_;simp[bY,az.bx]
 rw[fW,zz6];omega
def jO(xs:List ca):List (Nat×ak):=[(1000009,.box (.own 1000080 xs.length)),(1000080,.bW 57 5 (xs.map enc))]
theorem ab8(xs ys:List ca):fk (jO xs) (jO ys):=by
 refine ⟨fun n=>by simp only[jO,av,aj];(repeat' split) <;>rfl,fun n x h =>?_,fun n h =>?_⟩
 ·simp only[jO,aj] at h
  repeat' split at h
  all_goals first | (cases h;done) | (simp only[u8] at h;subst h;exact ⟨by simp[jO,av,aj,ak.only,I.only,dZ],rfl⟩)
 ·simp only[jO,av,aj] at h
  repeat' split at h
  all_goals first | omega | (simp at h;done)
theorem r2(p:aJ)(to:Int):bp Tryd.prog 16 [enc p,enc to] (.tuple [enc (gF p to).1,enc (gF p to).2]):=by
 refine bp.cw Tryd.func16 KR LM MO (t7 rfl) (fun hwf W0 D0 E1 =>?_);simp only[Bi,Gh,bS,zz4];clear hwf;have hF:=r5 p;simp only[pB] at hF;simp only[gF];cases ho:cP p with
 |none =>
  rw[ho] at hF;have R:=y6 @bA (y6 @bq (y6 @bM (y6 @bz (y6 @bw aI))))
  repeat' ((first |(with_reducible refine .guard (fun hb =>?_) (fun hb =>?_) <;>try simp only[hb])|refine ae.aM (by decide +kernel) rfl fun K hK =>?_|refine .lead _ (hF) ?_|(refine .aD [0,1,2,4,5,6,7,9,10,14,24,40,41,54] hK ?_;clear hK K)|(with_reducible refine .done (hK _ ?_);clear hK K)|refine ae.of rfl ?_|(with_reducible refine aF.aL (fun h =>?_) (fun h =>?_) <;>try simp only[h])) <;>try simp only[aN,R,simprocAttr])
  all_goals clear R
  all_goals rfl
 |some s =>
  obtain ⟨f1,f2,s2,hr,hk,hl2⟩:=x2 ho;have hjl:=(fe ho).2.2.2.1;rw[ho] at hF
  dsimp only at hF ⊢
  have hT:=oc to;rcases q2:cV 0 5 to
  ·rw[q2] at hT;simp only[true_or,if_true];have R:=y6 @bA (y6 @bq (y6 @bM (y6 @bz (y6 @bw aI))))
   repeat' ((first |(with_reducible refine .guard (fun hb =>?_) (fun hb =>?_) <;>try simp only[hb])|refine ae.aM (by decide +kernel) rfl fun K hK =>?_|refine .lead _ (hF) ?_|refine .flat _ (hT) rfl ?_|(refine .aD [0,1,2,4,5,6,7,9,10,14,24,40,41,54] hK ?_;clear hK K)|(with_reducible refine .done (hK _ ?_);clear hK K)|refine ae.of rfl ?_|(with_reducible refine aF.aL (fun h =>?_) (fun h =>?_) <;>try simp only[h])) <;>try simp only[aN,R,simprocAttr])
   all_goals clear R
   all_goals rfl
  rw[q2] at hT;rcases q3:(to==p.aE)
  case true =>
   have e:to=p.aE:=by simpa using q3
   simp only[zv2,false_or,if_pos e];have R:=y6 @q3 (y6 @bA (y6 @bq (y6 @bM (y6 @bz (y6 @bw aI)))))
   repeat' ((first |(with_reducible refine .guard (fun hb =>?_) (fun hb =>?_) <;>try simp only[hb])|refine ae.aM (by decide +kernel) rfl fun K hK =>?_|refine .lead _ (hF) ?_|refine .flat _ (hT) rfl ?_|(refine .aD [0,1,2,4,5,6,7,9,10,14,24,40,41,54] hK ?_;clear hK K)|(with_reducible refine .done (hK _ ?_);clear hK K)|refine ae.of rfl ?_|(with_reducible refine aF.aL (fun h =>?_) (fun h =>?_) <;>try simp only[h])) <;>try simp only[aN,R,simprocAttr])
   all_goals clear R
   all_goals rfl
  have e:¬ to=p.aE:=by simpa using q3
  simp only[zv2,false_or,if_neg e,hr];have hR:=IN p.aE (gP p) (by simp only[gP,zx9];omega);rw[hr] at hR;simp only[He] at hR;obtain ⟨w,hsl,hfw⟩:∃ w:I,(∀ A,lX A 4 none (some (.int .i64 p.cv)) (some (.int .i64 p.cv)) (enc p.j)=some w)∧∀ aR A,br aR A w=some (enc (gP p)) :=
   ⟨_,fun A=>by
    have:=abT (A:=A) (l:=p.j) (i:=p.cv.toNat) f2;rw[show ((p.cv.toNat:Nat):Int)=p.cv by omega] at this;exact this,fun aR A=>nX p.j aR A⟩
  have h63:=IP s2 to;have R:=y6 @q3 (y6 @hsl (y6 @hfw (y6 @di (y6 @bA (y6 @bq (y6 @bM (y6 @bz (y6 @bw aI))))))))
  repeat' ((first |(with_reducible refine .guard (fun hb =>?_) (fun hb =>?_) <;>try simp only[hb])|refine ae.aM (by decide +kernel) rfl fun K hK =>?_|refine .lead _ (hF) ?_|refine .flat _ (hT) rfl ?_|refine .lead _ (hR) ?_|refine .lead _ (h63) ?_|(refine .aD [0,1,2,4,5,6,7,9,10,14,24,40,41,54] hK ?_;clear hK K)|(with_reducible refine .done (hK _ ?_);clear hK K)|refine ae.of rfl ?_|(with_reducible refine aF.aL (fun h =>?_) (fun h =>?_) <;>try simp only[h])) <;>try simp only[aN,R,Option.map_none,simprocAttr])
  all_goals clear R
  have hcap:I.cq [.ref (c8 s2),.ref (.int .i64 to)]=true:=by simp[I.cq,I.bG,nZ]
  refine ae.sub (bn.AK 9 80 57 5 5 [] _ rfl rfl rfl (B:=au [(9,.ptr 9 []),(40,.func 54 [.ref (c8 s2),.ref (.int .i64 to)])] [(9,.box (.own 80 0)),(80,.bW 57 5 [])]) ?_) ?_
  ·simp only[rT];refine bn.cB ?_ ?_ ?_ ?_ <;>simp[*,bX,cA,b6,b8,av,b9,ct,I.only,I.bQ,ak.only,qp]
  have hnd:=abt hk to;refine ae.nN (osb0:=jO []) (tsR:=[(9,.ptr 1000009 [])]) (ρ:=[(1999999,999999),(1000009,9),(1000080,80)])
   (fun k os=>os=jO ((fW s2 to).take k))
   (fun _ _=>False)
   ⟨rfl,rfl⟩ (t7 rfl) (by simp only[bL,simprocAttr]) hcap B9 (I7 s2 to (by omega)) (fun _=>rfl) rfl rfl rfl (fun o=>⟨?_,?_⟩) ?_ ?_ ?_ ?_ ?_ ?_ ?_
  ·intro n x hx;simp only[ev,jO,aj] at hx
   repeat' split at hx
   all_goals first | (cases hx;done) | (subst_vars;simp only[u8] at hx;subst hx;simp[ev,jO,av,bB,aj,ak.bd,I.bd,I.dh,ak.only,I.only,I.bQ,ak.en])
  ·intro a b ha hb;simp only[ev,jO,av,aj] at ha hb
   repeat' split at ha
   all_goals first | (simp at ha;done) | skip
   all_goals (repeat' split at hb)
   all_goals first | (simp at hb;done) | (subst_vars;simp[bB])
  ·simp[oX,b9,I.bd,bB,I.only,jO,av,aj]
  ·rintro k os rfl;exact ab8 ..
  ·rintro e os h;exact h.elim
  ·simp[jO]
  ·rintro k osb hk' rfl W1 D1 E1 yz o1 o2;obtain ⟨r,hr0⟩:∃ r,r=(fW s2 to).getD k wb:=⟨_,rfl⟩
   have hri:(fW s2 to)[k]=r:=by rw[hr0];simp[zz2,hk']
   have hsu:(fW s2 to).take (k+1)=(fW s2 to).take k++[r]:=by rw[zy3 hk',hri]
   have hN2:(fW s2 to).length≤400:=by
    have U:=Hx s2 to;omega
   have hk2:k<400:=Nat.lt_of_lt_of_le hk' hN2;have hlast:∀ j,j+1=k→∃ u,((fW s2 to).take k)[j]?=some u∧u≠r:=fun j hj=>by
    refine ⟨(fW s2 to)[j],by rw[List.getElem?_take_of_lt (by omega),zx3],fun e =>?_⟩;rw[←hri] at e;have:=(List.getElem_inj hnd).1 e;omega
   have hxl:((fW s2 to).take k).length=k:=by rw[zx9];omega
   generalize (fW s2 to).take k=xs at hsu hlast hxl ⊢;simp only[←hr0,vY,ev,jO];have hst:∀ A rest b x y z w u,da A (some 5) 10 [] b (enc r) rest (some (.agg [.int .i64 x,.int .i64 y,.int .i64 z,.int .i64 w,.int .i64 u]))=aC rest (A.aZ 10 (.box (enc r))):=fun A rest b x y z w u=>oZ.1 A 10 b rest r x y z w u;have R:=y6 @hst (y6 @bA (y6 @bq (y6 @bM (y6 @bz (y6 @bw aI)))))
   repeat' ((first |(with_reducible refine .guard (fun hb =>?_) (fun hb =>?_) <;>try simp only[hb])|refine ae.aM (by decide +kernel) rfl fun K hK =>?_|(refine .aD [0,1,2,4,5,6,7,9,10,14,24,40,41,54] hK ?_;clear hK K)|(with_reducible refine .done (hK _ ?_);clear hK K)|refine ae.of rfl ?_|(with_reducible refine aF.aL (fun h =>?_) (fun h =>?_) <;>try simp only[h])) <;>try simp only[aN,R,simprocAttr])
   all_goals clear R
   refine ⟨by simp[],?_⟩;have stOwn:∀ (A:ai) n b m k m' k' rest,da A none n [] b (.own m k) rest (some (.own m' k'))=aC rest (A.aZ n (.box (.own m k))) :=
    fun _ _ _ m k m' k' _=>by rw[dU (s:=none) (v:=.own m k) (old:=.own m' k') rfl rfl rfl,rT]
   have hbs:gx 5 (some [enc r])=some (enc [r]):=lE 5 r rfl;have hap:=fun (A:ai) d rest=>qN (A:=A) (d:=d) 57 5 40 1000080 (l:=xs.length) (es:=xs) (ys:=[r]) (rest:=rest) rfl rfl (by simp) (by simp[maxLen];omega) (by simp;omega);have gL:∀ ts z1 z2 z3 z4 z5,HA o2 (fun os=>os=[(1000009,.box (.own 1000080 ((fW s2 to).take (k+1)).length)),(1000080,.bW 57 5 (((fW s2 to).take (k+1)).map enc))]) (fun _ _=>False) .normal
     (au ts [(1000009,.box (.own 1000080 (xs++[r]).length)),(1000080,.bW 57 5 ((xs++[r]).map enc)),(1999999,.dI o2),(10,z1),(10,z2),(1999999,z3),(1000009,z4),(1000080,z5)]):=fun ts z1 z2 z3 z4 z5=>by
    refine ⟨_,?_,rfl⟩;rw[hsu];intro n x hx;simp only[ev,aj] at hx
    (repeat' split at hx) <;>first
     |(cases hx;done)
     |(subst_vars;simp only[u8] at hx;subst hx;simp[ev,av,au,aj,ak.only,I.only,ak.en,dZ,-List.map_append])
   have hle:=fun (A:ai) (h:A.o 1000080=some (.bW 57 5 (xs.map enc)))=>Y5 A 1000080 xs.length 57 5 xs h rfl;by_cases bf:k=0
   ·have hz:((xs.length:Int)==0)=true:=by rw[beq_iff_eq];omega
    have R:=y6 @hle (y6 @hz (y6 @hbs (y6 @hap (y6 @stOwn (y6 @bA (y6 @bq (y6 @bM (y6 @bz (y6 @bw aI)))))))))
    repeat' ((first |(with_reducible refine .guard (fun hb =>?_) (fun hb =>?_) <;>try simp only[hb])|refine ae.aM (by decide +kernel) rfl fun K hK =>?_|(refine .aD [0,1,2,4,5,6,7,9,10,14,24,40,41,54] hK ?_;clear hK K)|(with_reducible refine .done (hK _ ?_);clear hK K)|refine ae.of rfl ?_|(with_reducible refine aF.aL (fun h =>?_) (fun h =>?_) <;>try simp only[h])) <;>try simp only[aN,R,simprocAttr])
    all_goals clear R
    exact gL _ _ _ _ _ _
   ·have hz:((xs.length:Int)==0)=false:=by rw[beq_eq_false_iff_ne];omega
    obtain ⟨u,hu,hne⟩:=hlast (k-1) (by omega);have hw1:IntKind.i64.wrap ((xs.length:Int)-1)=((k-1:Nat):Int):=by rw[jR _ (by omega) (by omega)];omega
    have hq:=CX u r;rw[decide_eq_false hne] at hq;have hie:=fun (A:ai) (h:A.o 1000080=some (.bW 57 5 (xs.map enc)))=>(by
     have hu2:(xs.map (enc (α:=ca)))[k-1]?=some (enc u):=by rw[zx7,hu];rfl
     have hc:xs.length=(xs.map (enc (α:=ca))).length∧True∧(0:Int)≤((k-1:Nat):Int)∧((k-1:Nat):Int)<((xs.map (enc (α:=ca))).length:Nat):=⟨by simp,trivial,by omega,by simp;omega⟩
     simp only[kU,h];rw[if_pos hc,Int.toNat_natCast,hu2];rfl:kU A 5 ((k-1:Nat):Int) (.own 1000080 xs.length)=some (.ref (enc u)))
    have R:=y6 @hle (y6 @hz (y6 @hw1 (y6 @hie (y6 @hq (y6 @hbs (y6 @hap (y6 @stOwn (y6 @bA (y6 @bq (y6 @bM (y6 @bz (y6 @bw aI))))))))))))
    repeat' ((first |(with_reducible refine .guard (fun hb =>?_) (fun hb =>?_) <;>try simp only[hb])|refine ae.aM (by decide +kernel) rfl fun K hK =>?_|(refine .aD [0,1,2,4,5,6,7,9,10,14,24,40,41,54] hK ?_;clear hK K)|(with_reducible refine .done (hK _ ?_);clear hK K)|refine ae.of rfl ?_|(with_reducible refine aF.aL (fun h =>?_) (fun h =>?_) <;>try simp only[h])) <;>try simp only[aN,R,simprocAttr])
    all_goals clear R
    all_goals exact gL _ _ _ _ _ _
  ·rintro os rfl;rw[zv3];simp only[jO,dc,zz7,zx8,bB,ak.bd,I.bd,oS,ee,jT,reduceIte,Nat.reduceEqDiff,zz3,zy5];have hfo:kl (fW s2 to).length (some (.bW 57 5 ((fW s2 to).map enc)))=some (enc (fW s2 to)):=pG 5 rfl rfl;have R:=y6 @hfo (y6 @bA (y6 @bq (y6 @bM (y6 @bz (y6 @bw aI)))))
   repeat' ((first |(with_reducible refine .guard (fun hb =>?_) (fun hb =>?_) <;>try simp only[hb])|refine ae.aM (by decide +kernel) rfl fun K hK =>?_|(refine .aD [0,1,2,4,5,6,7,9,10,14,24,40,41,54] hK ?_;clear hK K)|(with_reducible refine .done (hK _ ?_);clear hK K)|refine ae.of rfl ?_|(with_reducible refine aF.aL (fun h =>?_) (fun h =>?_) <;>try simp only[h])) <;>try simp only[aN,R,simprocAttr])
   all_goals clear R
  ·rintro e os h;exact h.elim
def pN(p:az→Bool)(l:List az):Int:=match l.findIdx? p with
 |some i=>i
 |none=>-1
theorem Jc(l:List az)(caps:List I)(hcaps:I.gf caps=true)(p:az→Bool)(hl:l.length≤1000)(hf:∀ x∈l,bp Tryd.prog 47 (c8 x::caps) (enc (p x))):bp Tryd.prog 60 [enc l,.func 47 caps] (enc (pN p l)):=by
 refine bp.cw Tryd.func60 Lt Mp Nv (t7 rfl) (fun hwf W0 D0 E1 =>?_);simp only[BT,GV,bS,zz4];clear hwf;have hcl:I.cq caps=true:=qX caps hcaps;have hfc:∀ aR A,bZ aR A caps=some caps:=fun aR A=>oB aR A caps hcaps;have hon:∀ q,I.bQ q caps=true:=fun q=>mz q caps hcl;have R:=y6 @hfc aI
 repeat' ((first |(with_reducible refine .guard (fun hb =>?_) (fun hb =>?_) <;>try simp only[hb])|refine ae.aM (by decide +kernel) rfl fun K hK =>?_|(refine .aD [0,1,4,5,7,8,9,16] hK ?_;clear hK K)|(with_reducible refine .done (hK _ ?_);clear hK K)|refine ae.of rfl ?_|(with_reducible refine aF.aL (fun h =>?_) (fun h =>?_) <;>try simp only[h])) <;>try simp only[aN,R,simprocAttr])
 all_goals clear R
 refine ae.loop (fun i:Nat=>au [(0,enc l),(1,.func 47 caps),(7,.int .i64 l.length),(8,.int .i64 i)] []) (fun i=>i≤l.length∧∀ k,k<i→∀ h:k<l.length,p l[k]=false) (fun i=>l.length-i) 0 ⟨zw5 _,fun k h=>by omega⟩ ?_ (fun i hi =>?_)
 ·refine bn.cB ?_ ?_ ?_ ?_ <;>simp[*,bX,cA,b6,b8,b9,I.only,b7]
 obtain ⟨hi1,hi2⟩:=hi;by_cases hlt:i<l.length
 ·have hlc:=hX hlt;have he:=fun A=>fT (A:=A) 1 hlt rfl;simp only[xH] at he;have hw:=fj (i:=i) (by omega);have hP:=hf _ (zw9 hlt);rcases q:p l[i]
  ·rw[q] at hP;have R:=y6 @hlc (y6 @he (y6 @hw (y6 @hfc (y6 @di (y6 @bM aI)))))
   repeat' ((first |(with_reducible refine .guard (fun hb =>?_) (fun hb =>?_) <;>try simp only[hb])|refine ae.aM (by decide +kernel) rfl fun K hK =>?_|refine .flat _ (hP) rfl ?_|(refine .aD [0,1,4,5,7,8,9,16] hK ?_;clear hK K)|(with_reducible refine .done (hK _ ?_);clear hK K)|refine ae.of rfl ?_|(with_reducible refine aF.aL (fun h =>?_) (fun h =>?_) <;>try simp only[h])) <;>try simp only[aN,R,zz3,simprocAttr])
   all_goals clear R
   refine ⟨i+1,⟨by omega,fun k hk h =>?_⟩,by omega,?_⟩
   ·by_cases e:k=i
    ·subst e;exact q
    ·exact hi2 k (by omega) h
   ·refine bn.cB ?_ ?_ ?_ ?_ <;>simp[*,bX,cA,b6,b8,b9,I.only,b7]
  ·rw[q] at hP;have hm:pN p l=(i:Int):=by
    have:l.findIdx? p=some i:=List.findIdx?_eq_some_iff_getElem.2 ⟨hlt,q,fun j hj=>by simp[hi2 j hj (by omega)]⟩;simp only[pN,this]
   rw[hm];have R:=y6 @hlc (y6 @he (y6 @hfc (y6 @di (y6 @bM aI))))
   repeat' ((first |(with_reducible refine .guard (fun hb =>?_) (fun hb =>?_) <;>try simp only[hb])|refine ae.aM (by decide +kernel) rfl fun K hK =>?_|refine .flat _ (hP) rfl ?_|(refine .aD [0,1,4,5,7,8,9,16] hK ?_;clear hK K)|(with_reducible refine .done (hK _ ?_);clear hK K)|refine ae.of rfl ?_|(with_reducible refine aF.aL (fun h =>?_) (fun h =>?_) <;>try simp only[h])) <;>try simp only[aN,R,zz3,simprocAttr])
   all_goals clear R
 ·have hlc:=hJ hlt;have hm:pN p l=-1:=by
   have:l.findIdx? p=none:=List.findIdx?_eq_none_iff.2 fun x hx=>by
    obtain ⟨k,hk,rfl⟩:=List.mem_iff_getElem.1 hx;exact hi2 k (by omega) hk
   simp only[pN,this]
  rw[hm];have R:=y6 @hlc aI
  repeat' ((first |(with_reducible refine .guard (fun hb =>?_) (fun hb =>?_) <;>try simp only[hb])|refine ae.aM (by decide +kernel) rfl fun K hK =>?_|(refine .aD [0,1,4,5,7,8,9,16] hK ?_;clear hK K)|(with_reducible refine .done (hK _ ?_);clear hK K)|refine ae.of rfl ?_|(with_reducible refine aF.aL (fun h =>?_) (fun h =>?_) <;>try simp only[h])) <;>try simp only[aN,R,simprocAttr])
  all_goals clear R
theorem YA(p:az→Bool)(l:List az):decide (pN p l≥0)=l.any p:=by
 unfold pN;cases h:l.findIdx? p with
 |none =>
  rw[List.findIdx?_eq_none_iff] at h;have:l.any p=false:=by rw[List.any_eq_false];intro x hx;simp[h x hx]
  rw[this];rfl
 |some i =>
  rw[List.findIdx?_eq_some_iff_getElem] at h;obtain ⟨U,ab,_⟩:=h;have:l.any p=true:=by rw[List.any_eq_true];exact ⟨_,zw9 U,ab⟩
  rw[this];exact decide_eq_true (Int.natCast_nonneg i)
theorem IW(l:List az)(caps:List I)(hcaps:I.gf caps=true)(p:az→Bool)(hl:l.length≤1000)(hf:∀ x∈l,bp Tryd.prog 47 (c8 x::caps) (enc (p x))):bp Tryd.prog 46 [enc l,.func 47 caps] (enc (l.any p)):=by
 refine bp.cw Tryd.func46 Lj Me Ni (t7 rfl) (fun hwf W0 D0 E1 =>?_);simp only[BJ,GJ,bS,zz4];clear hwf;have hfc:∀ aR A,bZ aR A caps=some caps:=fun aR A=>oB aR A caps hcaps;have hF:=Jc l caps hcaps p hl hf;have hq:=YA p l;have R:=y6 @hfc (y6 @hq aI)
 repeat' ((first |(with_reducible refine .guard (fun hb =>?_) (fun hb =>?_) <;>try simp only[hb])|refine ae.aM (by decide +kernel) rfl fun K hK =>?_|refine .flat _ (hF) rfl ?_|(refine .aD [0,1,4] hK ?_;clear hK K)|(with_reducible refine .done (hK _ ?_);clear hK K)|refine ae.of rfl ?_|(with_reducible refine aF.aL (fun h =>?_) (fun h =>?_) <;>try simp only[h])) <;>try simp only[aN,R,simprocAttr])
 all_goals clear R
def kL(s:az)(r:dG)(n:Int)(t:az):Bool:=(t.aE==r.to)&&(sY t ⟨s.aE,n⟩==7)
theorem IX(t s:az)(r:dG)(n:Int):bp Tryd.prog 47 [c8 t,.ref (enc r),.ref (c8 s),.ref (enc n)] (enc (kL s r n t)):=by
 refine bp.cw Tryd.func47 Lk Mf Nj (t7 rfl) (fun hwf W0 D0 E1 =>?_);simp only[BK,GK,bS,zz4,Nat.reduceAdd];clear hwf;obtain ⟨x,hx,u,hlk⟩:=Zb t s.aE n;rcases q1:(t.aE==r.to)
 ·rw[show kL s r n t=false by simp[kL,q1]];have R:=y6 @q1 (y6 @hlk (y6 @x4 (y6 @qR (y6 @di (y6 @bq (y6 @bM (y6 @bz (y6 @bw aI))))))))
  repeat' ((first |(with_reducible refine .guard (fun hb =>?_) (fun hb =>?_) <;>try simp only[hb])|refine ae.aM (by decide +kernel) rfl fun K hK =>?_|(refine .aD [0,1,2,3,5] hK ?_;clear hK K)|(with_reducible refine .done (hK _ ?_);clear hK K)|refine ae.of rfl ?_|(with_reducible refine aF.aL (fun h =>?_) (fun h =>?_) <;>try simp only[h])) <;>try simp only[aN,R,simprocAttr])
  all_goals clear R
 ·rcases q2:(x.kind==7)
  ·rw[show kL s r n t=false by simp only[kL,←hx,q2,Bool.and_false]];have R:=y6 @q1 (y6 @q2 (y6 @hlk (y6 @x4 (y6 @qR (y6 @di (y6 @bq (y6 @bM (y6 @bz (y6 @bw aI)))))))))
   repeat' ((first |(with_reducible refine .guard (fun hb =>?_) (fun hb =>?_) <;>try simp only[hb])|refine ae.aM (by decide +kernel) rfl fun K hK =>?_|(refine .aD [0,1,2,3,5] hK ?_;clear hK K)|(with_reducible refine .done (hK _ ?_);clear hK K)|refine ae.of rfl ?_|(with_reducible refine aF.aL (fun h =>?_) (fun h =>?_) <;>try simp only[h])) <;>try simp only[aN,R,simprocAttr])
   all_goals clear R
  ·rw[show kL s r n t=true by simp only[kL,←hx,q1,q2,Bool.and_true]];have R:=y6 @q1 (y6 @q2 (y6 @hlk (y6 @x4 (y6 @qR (y6 @di (y6 @bq (y6 @bM (y6 @bz (y6 @bw aI)))))))))
   repeat' ((first |(with_reducible refine .guard (fun hb =>?_) (fun hb =>?_) <;>try simp only[hb])|refine ae.aM (by decide +kernel) rfl fun K hK =>?_|(refine .aD [0,1,2,3,5] hK ?_;clear hK K)|(with_reducible refine .done (hK _ ?_);clear hK K)|refine ae.of rfl ?_|(with_reducible refine aF.aL (fun h =>?_) (fun h =>?_) <;>try simp only[h])) <;>try simp only[aN,R,simprocAttr])
   all_goals clear R
theorem HW(A:ai)(n:Nat)(b:I)(q:aQ)(x y z w:Int)(rest:List aw):da A (some 4) n [] b (enc q) rest (some (.agg [.int .i64 x,.int .i64 y,.int .i64 z,.int .i64 w]))=aC rest (A.aZ n (.box (enc q))):=dU (eH _) (by rw[fH];rfl) (ff _)
def mu(p:aQ→Bool)(l:List aQ):Int:=match l.findIdx? p with
 |some i=>i
 |none=>-1
theorem Au(l:List aQ)(caps:List I)(hcaps:I.gf caps=true)(p:aQ→Bool)(hl:l.length≤1000)(hf:∀ x∈l,bp Tryd.prog 50 (enc x::caps) (enc (p x))):bp Tryd.prog 61 [enc l,.func 50 caps] (enc (mu p l)):=by
 refine bp.cw Tryd.func61 Lu Mq Nw (t7 rfl) (fun hwf W0 D0 E1 =>?_);simp only[BU,GW,bS,zz4];clear hwf;have hcl:I.cq caps=true:=qX caps hcaps;have hfc:∀ aR A,bZ aR A caps=some caps:=fun aR A=>oB aR A caps hcaps;have hon:∀ q,I.bQ q caps=true:=fun q=>mz q caps hcl;have R:=y6 @hfc aI
 repeat' ((first |(with_reducible refine .guard (fun hb =>?_) (fun hb =>?_) <;>try simp only[hb])|refine ae.aM (by decide +kernel) rfl fun K hK =>?_|(refine .aD [0,1,4,5,7,8,9,16] hK ?_;clear hK K)|(with_reducible refine .done (hK _ ?_);clear hK K)|refine ae.of rfl ?_|(with_reducible refine aF.aL (fun h =>?_) (fun h =>?_) <;>try simp only[h])) <;>try simp only[aN,R,simprocAttr])
 all_goals clear R
 refine ae.loop (fun i:Nat=>au [(0,enc l),(1,.func 50 caps),(7,.int .i64 l.length),(8,.int .i64 i)] []) (fun i=>i≤l.length∧∀ k,k<i→∀ h:k<l.length,p l[k]=false) (fun i=>l.length-i) 0 ⟨zw5 _,fun k h=>by omega⟩ ?_ (fun i hi =>?_)
 ·refine bn.cB ?_ ?_ ?_ ?_ <;>simp[*,bX,cA,b6,b8,b9,I.only,b7]
 obtain ⟨hi1,hi2⟩:=hi;by_cases hlt:i<l.length
 ·have hlc:=hX hlt;have he:=fun A=>fT (A:=A) 4 hlt rfl;have hw:=fj (i:=i) (by omega);have hP:=hf _ (zw9 hlt);rcases q:p l[i]
  ·rw[q] at hP;have R:=y6 @hlc (y6 @he (y6 @hw (y6 @hfc aI)))
   repeat' ((first |(with_reducible refine .guard (fun hb =>?_) (fun hb =>?_) <;>try simp only[hb])|refine ae.aM (by decide +kernel) rfl fun K hK =>?_|refine .flat _ (hP) rfl ?_|(refine .aD [0,1,4,5,7,8,9,16] hK ?_;clear hK K)|(with_reducible refine .done (hK _ ?_);clear hK K)|refine ae.of rfl ?_|(with_reducible refine aF.aL (fun h =>?_) (fun h =>?_) <;>try simp only[h])) <;>try simp only[aN,R,zz3,simprocAttr])
   all_goals clear R
   refine ⟨i+1,⟨by omega,fun k hk h =>?_⟩,by omega,?_⟩
   ·by_cases e:k=i
    ·subst e;exact q
    ·exact hi2 k (by omega) h
   ·refine bn.cB ?_ ?_ ?_ ?_ <;>simp[*,bX,cA,b6,b8,b9,I.only,b7]
  ·rw[q] at hP;have hm:mu p l=(i:Int):=by
    have:l.findIdx? p=some i:=List.findIdx?_eq_some_iff_getElem.2 ⟨hlt,q,fun j hj=>by simp[hi2 j hj (by omega)]⟩;simp only[mu,this]
   rw[hm];have R:=y6 @hlc (y6 @he (y6 @hfc aI))
   repeat' ((first |(with_reducible refine .guard (fun hb =>?_) (fun hb =>?_) <;>try simp only[hb])|refine ae.aM (by decide +kernel) rfl fun K hK =>?_|refine .flat _ (hP) rfl ?_|(refine .aD [0,1,4,5,7,8,9,16] hK ?_;clear hK K)|(with_reducible refine .done (hK _ ?_);clear hK K)|refine ae.of rfl ?_|(with_reducible refine aF.aL (fun h =>?_) (fun h =>?_) <;>try simp only[h])) <;>try simp only[aN,R,zz3,simprocAttr])
   all_goals clear R
 ·have hlc:=hJ hlt;have hm:mu p l=-1:=by
   have:l.findIdx? p=none:=List.findIdx?_eq_none_iff.2 fun x hx=>by
    obtain ⟨k,hk,rfl⟩:=List.mem_iff_getElem.1 hx;exact hi2 k (by omega) hk
   simp only[mu,this]
  rw[hm];have R:=y6 @hlc aI
  repeat' ((first |(with_reducible refine .guard (fun hb =>?_) (fun hb =>?_) <;>try simp only[hb])|refine ae.aM (by decide +kernel) rfl fun K hK =>?_|(refine .aD [0,1,4,5,7,8,9,16] hK ?_;clear hK K)|(with_reducible refine .done (hK _ ?_);clear hK K)|refine ae.of rfl ?_|(with_reducible refine aF.aL (fun h =>?_) (fun h =>?_) <;>try simp only[h])) <;>try simp only[aN,R,simprocAttr])
  all_goals clear R
theorem I3(x:aQ)(b:Int):bp Tryd.prog 50 [enc x,.ref (enc b)] (enc (x.aA != b)):=by
 refine bp.cw Tryd.func50 Lm Mh Nl (t7 rfl) (fun hwf W0 D0 E1 =>?_);simp only[BL,GM,bS,zz4];clear hwf;have R:=aI
 repeat' ((first |(with_reducible refine .guard (fun hb =>?_) (fun hb =>?_) <;>try simp only[hb])|refine ae.aM (by decide +kernel) rfl fun K hK =>?_|(refine .aD [0,1,2,3] hK ?_;clear hK K)|(with_reducible refine .done (hK _ ?_);clear hK K)|refine ae.of rfl ?_|(with_reducible refine aF.aL (fun h =>?_) (fun h =>?_) <;>try simp only[h])) <;>try simp only[aN,R,simprocAttr])
 all_goals clear R
theorem IZ(caps:List I)(hcaps:I.gf caps=true):bp Tryd.prog 48 [enc ([]:List aQ),.func 50 caps] (enc ([]:List aQ)):=by
 refine bp.cw Tryd.func48 B6 Cr CK (t7 rfl) (fun hwf W0 D0 E1 =>?_);simp only[xf,zx,bS,zz4];clear hwf;have hfc:∀ aR A,bZ aR A caps=some caps:=fun aR A=>oB aR A caps hcaps;have hF:=Au ([]:List aQ) caps hcaps (fun _=>true) (by simp) (fun x h=>by cases h);have U:mu (fun _=>true) []=-1:=rfl;rw[U] at hF;have q1:((-1:Int)==-1)=true:=rfl;have R:=y6 @q1 (y6 @hfc aI)
 repeat' ((first |(with_reducible refine .guard (fun hb =>?_) (fun hb =>?_) <;>try simp only[hb])|refine ae.aM (by decide +kernel) rfl fun K hK =>?_|refine .flat _ (hF) rfl ?_|(refine .aD [0,1,4,5,6,7,12,19,29] hK ?_;clear hK K)|(with_reducible refine .done (hK _ ?_);clear hK K)|refine ae.of rfl ?_|(with_reducible refine aF.aL (fun h =>?_) (fun h =>?_) <;>try simp only[h])) <;>try simp only[aN,R,simprocAttr])
 all_goals clear R
def kH(k:Nat)(ws:List aQ):List (Nat×ak):=[(k,.box (.agg (ws.map enc)))]
theorem vw(p:Nat→Bool)(l:List aQ):(I.agg (l.map enc)).only p=true:=by simp only[I.only];exact dZ p l
theorem abC{ws:List aQ} : ∀ m,av (kH 1000000 ws) m=true→1000000≤m:=fun m hm=>by rw[iw.1 hm];exact zz9 _
theorem EB{n i:Nat}(h:i<n)(fs:List I):nr 1000000 [] 4 0 n 4 (i:Int) (some fs)=some (.ptr 1000000 [i]):=by
 have:=EC (m:=1000000) (sz:=4) (lo:=0) (l:=n) (i:=i) (fs:=fs) h
 rwa [zz4] at this
theorem ab7{A:ai}{n i:Nat}{xs:List aQ}(h:i<xs.length)(v u:aQ){rest:List aw} : da A (some 4) n [i] (.agg (xs.map enc)) (enc v) rest (some (enc u))=aC rest (A.aZ n (.box (.agg ((xs.set i v).map enc)))):=by
 rw[dU (eH v) (by rw[fH];rfl) ((ff v).trans (ff u).symm)];have ab:(xs.map (enc (α:=aQ)))[i]?=some (enc (xs[i])):=by simp[h]
 simp only[I.eF,ab,List.map_set]
def CP(xs:List aQ)(p:aQ→Bool)(N:Nat):cE:=fun r os'=>∃ us:List aQ,r=.view 1000000 [] 4 0 (xs.filter fun x => !p x).length∧os'=kH 1000000 us∧us.take (xs.filter fun x => !p x).length=(xs.filter fun x => !p x)∧us.length=N
theorem IY(xs q:List aQ)(hn:xs.length≤200)(hq:0<(xs++q).length)(caps:List I)(hcaps:I.gf caps=true)(p:aQ→Bool)(hf:∀ x∈xs,bp Tryd.prog 50 (enc x::caps) (enc (p x))) :
  cU Tryd.prog 48 [.view 1000000 [] 4 0 xs.length,.func 50 caps] (kH 1000000 (xs++q)) (CP xs p (xs++q).length):=by
 refine cU.cw Tryd.func48 B6 Cr CK (t7 rfl) (t7 rfl) abC (fun hwf W0 D0 E1 =>?_);simp only[xf,zx,bS,zz4];clear hwf;have hcl:I.cq caps=true:=qX caps hcaps;have hfc:∀ aR A,bZ aR A caps=some caps:=fun aR A=>oB aR A caps hcaps;have hon:∀ q,I.bQ q caps=true:=fun q=>mz q caps hcl;have hF:=Au xs caps hcaps p (by omega) hf;have hfp:km 4 0 xs.length (some ((xs++q).map enc))=some (enc xs):=by rw[sC (α:=aQ) (sz:=4) rfl,List.take_left]
 simp only[kH];cases hfi:xs.findIdx? p with
 |none =>
  have hi:mu p xs=-1:=by simp[mu,hfi]
  rw[hi] at hF;rw[List.findIdx?_eq_none_iff] at hfi;have hk:(xs.filter fun x => !p x)=xs:=by
   rw[List.filter_eq_self];intro x hx;simp[hfi x hx]
  have q1:((-1:Int)==-1)=true:=rfl;have R:=y6 @q1 (y6 @hfp (y6 @hfc (y6 @qU (y6 @dk aI))))
  repeat' ((first |(with_reducible refine .guard (fun hb =>?_) (fun hb =>?_) <;>try simp only[hb])|refine ae.aM (by decide +kernel) rfl fun K hK =>?_|refine .flat _ (hF) rfl ?_|(refine .aD [0,1,4,5,6,7,12,19,29] hK ?_;clear hK K)|(with_reducible refine .done (hK _ ?_);clear hK K)|refine ae.of rfl ?_|(with_reducible refine aF.aL (fun h =>?_) (fun h =>?_) <;>try simp only[h])) <;>try simp only[aN,R,simprocAttr])
  all_goals clear R
  rw[nM];exact ⟨kH 1000000 (xs++q),[.view 1000000 [] 4 0 xs.length],yk rfl (fun p=>vw p _),⟨⟨_,rfl,.inl ⟨rfl,rfl,rfl⟩⟩,trivial⟩,xs++q,by rw[hk];rfl,rfl,by rw[hk,List.take_left],rfl⟩
 |some i0 =>
  obtain ⟨q1,q2,q3⟩:=List.findIdx?_eq_some_iff_getElem.1 hfi;have hi:mu p xs=(i0:Int):=by simp[mu,hfi]
  rw[hi] at hF;have hstart:xs.take i0=(xs.take (i0+1)).filter fun x => !p x:=by
   rw[zy3 q1,List.filter_append,zw0,q2];simp only[Bool.not_true,zz5,if_false,List.filter_nil,zy1]
   symm
   rw[List.filter_eq_self];intro x hx;obtain ⟨j,hj,rfl⟩:=List.mem_take_iff_getElem.1 hx;have:=q3 j (by omega);simpa using this
  have n1:((i0:Int)==-1)=false:=beq_eq_false_iff_ne.2 (by omega);have hwi:=fj (i:=i0) (by omega);have R:=y6 @n1 (y6 @hwi (y6 @hfp (y6 @hfc (y6 @qU (y6 @dk aI)))))
  repeat' ((first |(with_reducible refine .guard (fun hb =>?_) (fun hb =>?_) <;>try simp only[hb])|refine ae.aM (by decide +kernel) rfl fun K hK =>?_|refine .flat _ (hF) rfl ?_|(refine .aD [0,1,4,5,6,7,12,19,29] hK ?_;clear hK K)|(with_reducible refine .done (hK _ ?_);clear hK K)|refine ae.of rfl ?_|(with_reducible refine aF.aL (fun h =>?_) (fun h =>?_) <;>try simp only[h])) <;>try simp only[aN,R,simprocAttr])
  all_goals clear R
  refine ae.loop (fun s:List aQ×Nat×Nat=>au [(0,.view 1000000 [] 4 0 xs.length),(1,.func 50 caps),(5,.int .i64 s.2.1),(6,.int .i64 s.2.2)] (kH 1000000 s.1)) (fun s=>s.1.length=(xs++q).length∧s.2.1<s.2.2∧s.2.2≤xs.length∧s.1.take s.2.1=(xs.take s.2.2).filter (fun x => !p x)∧s.1.drop s.2.2=(xs++q).drop s.2.2) (fun s=>xs.length-s.2.2) (xs++q,i0,i0+1) ⟨rfl,by simp only;omega,by simp only;omega,?_,rfl⟩ ?_ ?_
  ·simp only;rw[List.take_append_of_le_length (by omega)];exact hstart
  ·simp only[kH];refine bn.cB ?_ ?_ ?_ ?_ <;>simp[*,bX,cA,b6,b8,av,b9,ct,I.only,ak.only,dZ,gT]
  rintro ⟨ws,i,j⟩ ⟨c1,c2,c3,lF,nc⟩;simp only at c1 c2 c3 lF nc ⊢;simp only[kH];have hlen:(xs++q).length=xs.length+q.length:=zz6;by_cases hlt:j<xs.length
  ·have hc:=hX hlt;have hwj:=fj (i:=j) (by omega);have hwi2:=fj (i:=i) (by omega);have v1:=EB (n:=xs.length) (i:=j) hlt;have v2:=EB (n:=xs.length) (i:=i) (by omega);have l1:=AW (xs:=ws) (i:=j) fK (by omega);have l2:=AW (xs:=ws) (i:=i) fK (by omega);have hwj2:ws.getD j fK=xs[j]:=by
    have U:(ws.drop j)[0]?=((xs++q).drop j)[0]?:=by rw[nc]
    simp only[List.getElem?_drop,Nat.add_zero] at U;rw[zz2,U,zx0 hlt,zx3 hlt];rfl
   rw[hwj2] at l1;have hP:=hf _ (zw9 hlt);have ht:(xs.take (j+1)).filter (fun x => !p x)=(xs.take j).filter (fun x => !p x)++if (!p xs[j]) then [xs[j]] else []:=by
    rw[zy3 hlt,List.filter_append,zw0,List.filter_nil]
   have s1:=fun (A:ai) v u rest=>ab7 (A:=A) (n:=1000000) (xs:=ws) (i:=i) (rest:=rest) (by omega) v u;generalize xs[j]=y at l1 hP ht;rcases hp:p y
   ·rw[hp] at hP ht;simp only[Bool.not_false,if_true] at ht;have R:=y6 @hc (y6 @hwj (y6 @hwi2 (y6 @v1 (y6 @v2 (y6 @l1 (y6 @l2 (y6 @s1 (y6 @hfc (y6 @HW (y6 @qU (y6 @dk aI)))))))))))
    repeat' ((first |(with_reducible refine .guard (fun hb =>?_) (fun hb =>?_) <;>try simp only[hb])|refine ae.aM (by decide +kernel) rfl fun K hK =>?_|refine .flat _ (hP) rfl ?_|(refine .aD [0,1,4,5,6,7,12,19,29] hK ?_;clear hK K)|(with_reducible refine .done (hK _ ?_);clear hK K)|refine ae.of rfl ?_|(with_reducible refine aF.aL (fun h =>?_) (fun h =>?_) <;>try simp only[h])) <;>try simp only[aN,R,zz3,simprocAttr])
    all_goals clear R
    refine ⟨(ws.set i y,i+1,j+1),⟨by simp[c1],by simp only;omega,by simp only;omega,?_,?_⟩,by simp only;omega,?_⟩
    ·simp only;rw[ht,←lF,zy3 (by simp;omega),List.take_set_of_le (zz9 _)];simp
    ·simp only;rw[List.drop_set_of_lt (by omega)];have:(ws.drop j).drop 1=((xs++q).drop j).drop 1:=by rw[nc]
     simpa[List.drop_drop] using this
    ·simp only[];generalize ws.set i y=us;refine bn.cB ?_ ?_ ?_ ?_ <;>simp[*,bX,cA,b6,b8,av,b9,ct,I.only,ak.only,dZ]
   ·rw[hp] at hP ht;simp only[Bool.not_true,zz5,if_false,zy1] at ht;have R:=y6 @hc (y6 @hwj (y6 @v1 (y6 @l1 (y6 @hfc (y6 @HW (y6 @qU (y6 @dk aI)))))))
    repeat' ((first |(with_reducible refine .guard (fun hb =>?_) (fun hb =>?_) <;>try simp only[hb])|refine ae.aM (by decide +kernel) rfl fun K hK =>?_|refine .flat _ (hP) rfl ?_|(refine .aD [0,1,4,5,6,7,12,19,29] hK ?_;clear hK K)|(with_reducible refine .done (hK _ ?_);clear hK K)|refine ae.of rfl ?_|(with_reducible refine aF.aL (fun h =>?_) (fun h =>?_) <;>try simp only[h])) <;>try simp only[aN,R,zz3,simprocAttr])
    all_goals clear R
    refine ⟨(ws,i,j+1),⟨c1,by simp only;omega,by simp only;omega,?_,?_⟩,by simp only;omega,?_⟩
    ·simp only;rw[ht];exact lF
    ·simp only;have:(ws.drop j).drop 1=((xs++q).drop j).drop 1:=by rw[nc]
     simpa[List.drop_drop] using this
    ·simp only[];refine bn.cB ?_ ?_ ?_ ?_ <;>simp[*,bX,cA,b6,b8,av,b9,ct,I.only,ak.only,dZ]
  ·have hj:j=xs.length:=by omega
   subst hj;have hc:=hJ hlt;rw[zv3] at lF;have hlk:(xs.filter fun x => !p x).length=i:=by rw[←lF,zx9];omega
   have hsl2:=abX (n:=1000000) (p:=[]) (sz:=4) (k:=xs.length) (total:=ws.length) (i:=i) (by omega) (by omega) (by omega);have hsl3:=fun us:List aQ=>fun (hu:us.length=ws.length)=>abW (n:=1000000) (p:=[]) (sz:=4) (k:=xs.length) (total:=us.length) (i:=i) (by omega) (by omega);have hml2:∀ us:List aQ,(us.map (enc (α:=aQ))).length=us.length:=fun us=>by simp
   have hclr:=fun (A:ai) rest ho=>MF (A:=A) (rest:=rest) (esz:=4) (α:=aQ) fK (n:=1000000) (lo:=i) (k:=xs.length-i) (xs:=ws) ho (by omega);obtain ⟨us,hus⟩:∃ us,us=ws.take i++(List.replicate (xs.length-i) fK++ws.drop (i+(xs.length-i))):=⟨_,rfl⟩
   have hul:us.length=ws.length:=by
    rw[hus];simp only[zz6,zx9,List.length_replicate,List.length_drop];omega
   have hut:us.take i=xs.filter fun x => !p x:=by
    rw[hus,List.take_append_of_le_length (by rw[zx9];omega),List.take_take,Nat.min_self,lF]
   have hsl3:=hsl3 us hul;simp only[←hus] at hclr;refine ae.seq (ae.seq ?_);refine .lx (by decide +kernel) fun K hK =>?_;simp only[DU,bL,simprocAttr]
   try simp only[hc,dk,bL,simprocAttr]
   refine .done (hK _ ?_);clear hK K;try simp only[ee]
   refine ae.kr ?_;simp only[aF,bL,simprocAttr];refine ⟨fun h =>?_,fun h =>?_⟩
   ·cases h
   refine ae.exit ?_;try simp only[ee,jT,simprocAttr]
   refine .gU (by decide +kernel) fun K hK =>?_;simp only[DS,bL,simprocAttr]
   try simp only[hml2,hsl2,Option.map_none,qY,dk,bL,simprocAttr]
   rw[hclr _ _ rfl]
   try simp only[bL,simprocAttr]
   refine .done (hK _ ?_);clear hK K;refine .gU (by decide +kernel) fun K hK =>?_;simp only[DT,bL,simprocAttr]
   try simp only[hml2,hsl3,Option.map_none,dk,bL,simprocAttr]
   refine .done (hK _ ?_);clear hK K;refine ae.ret ?_;simp only[nM];exact ⟨kH 1000000 us,[.view 1000000 [] 4 0 i],yk rfl (fun p=>vw p _),⟨⟨_,rfl,.inl ⟨rfl,rfl,rfl⟩⟩,trivial⟩,us,by rw[hlk];rfl,rfl,by rw[hlk];exact hut,by omega⟩
theorem Pt{xs:List dG} : kl xs.length (some (.bW 49 4 (xs.map enc)))=some (enc xs):=pG 4 rfl rfl
theorem z7(A:ai)(n:Nat)(b:I)(q:dG)(x y z:Int)(w:Bool)(rest:List aw):da A (some 4) n [] b (enc q) rest (some (.agg [.int .i64 x,.int .i64 y,.int .i64 z,.bool w]))=aC rest (A.aZ n (.box (enc q))):=dU (eH _) (by rw[fH];rfl) (ff _)
def lR(s:az)(n:Int):dG:=s.aH (n.toNat-1)
def nt(all:List az)(b:Int)(s:az)(n:Int):Bool:=((lR s n).aA==b) && !(all.any (kL s (lR s n) n))
def mD(all0:List az)(b:Int)(all:List az):List dG:=all.flatMap fun s=>((bY s.bx).filter (nt all0 b s)).map (lR s)
theorem aa7(all0:List az)(b:Int){l:List az}{i:Nat}(h:i<l.length):mD all0 b (l.take (i+1))=mD all0 b (l.take i)++((bY l[i].bx).filter (nt all0 b l[i])).map (lR l[i]):=by
 simp only[mD,zy3 h,List.flatMap_append,List.flatMap_cons,List.flatMap_nil,zy1]
def qE(all:List az)(e b:Int)(i:Nat)(ts:List (Nat×I))(os:List (Nat×ak))(xs:List dG):ai :=
 au ([(1,.int .i64 b),(6,enc all),(7,.int .i64 e),(8,.own 905 xs.length),(21,enc all),(22,.int .i64 all.length),(23,.int .i64 i)]++ts) ((905,.bW 49 4 (xs.map enc))::os)
theorem IE(l:List aJ)(b:Int):bp Tryd.prog 22 [enc l,enc b] (.tuple [enc (mD (hE l b).1 b (hE l b).1),enc (hE l b).2]):=by
 refine bp.cw Tryd.func22 KX LS MU (t7 rfl) (fun hwf W0 D0 E1 =>?_);simp only[Bo,Gn,bS,zz4];clear hwf;have hF:=Aq l b;have hal:=AL l b;have hlive:∀ s∈(hE l b).1,s.aK.length≤200:=fun s hs=>by
  obtain ⟨p,_,ho⟩:=acf hs;exact zg ho
 generalize (hE l b).1=all at *;generalize (hE l b).2=e at *;have hbs:∀ y:dG,gx 4 (some [enc y])=some (enc [y]):=fun y=>lE 4 y rfl;have hst10:∀ A rest s,da A none 10 [] .nilp (c8 s) rest (some .nilp)=aC rest (A.aZ 10 (.box (c8 s))):=fun A rest s=>dU (di.2.2.2.1 s) (di.2.2.2.2.1 s) rfl;have hst12:∀ A rest n u,da A none 12 [] (.int .i64 u) (.int .i64 n) rest (some (.int .i64 u))=aC rest (A.aZ 12 (.box (.int .i64 n))):=fun A rest n u=>dU rfl rfl rfl;have R:=y6 @bA (y6 @bq (y6 @bM (y6 @bz (y6 @bw aI))))
 repeat' ((first |(with_reducible refine .guard (fun hb =>?_) (fun hb =>?_) <;>try simp only[hb])|refine ae.aM (by decide +kernel) rfl fun K hK =>?_|refine .lead _ (hF) ?_|(refine .aD [0,1,4,5,6,7,8,10,12,13,14,21,22,23,24,28,29,30,31,52] hK ?_;clear hK K)|(with_reducible refine .done (hK _ ?_);clear hK K)|refine ae.of rfl ?_|(with_reducible refine aF.aL (fun h =>?_) (fun h =>?_) <;>try simp only[h])) <;>try simp only[aN,R,simprocAttr])
 all_goals clear R
 refine ae.loop (fun t:Nat×List dG=>qE all e b t.1 [] [] t.2) (fun t=>t.1≤all.length∧t.2=mD all b (all.take t.1)∧t.2.length≤200*t.1) (fun t=>all.length-t.1) (0,[]) ⟨zw5 _,rfl,zw5 _⟩ ?_ ?_
 ·refine bn.uD 8 905 49 4 4 rfl rfl ?_;simp only[qE,zz3,zy5];refine bn.cB ?_ ?_ ?_ ?_ <;>simp[bX,cA,b6,b8,av,b9,ct,I.only,I.bQ,ak.only,b7]
 rintro ⟨i,xs⟩ ⟨hi,hxs,hxl⟩;simp only at hi hxs hxl;simp only[qE,zz3,zy5];by_cases hlt:i<all.length
 rotate_left
 ·have hlc:=hJ hlt;have hge:i=all.length:=by omega
  rw[show mD all b all=xs by rw[hxs,hge,zv3]];have R:=y6 @hlc (y6 @Pt (y6 @bA (y6 @bq aI)))
  repeat' ((first |(with_reducible refine .guard (fun hb =>?_) (fun hb =>?_) <;>try simp only[hb])|refine ae.aM (by decide +kernel) rfl fun K hK =>?_|(refine .aD [0,1,4,5,6,7,8,10,12,13,14,21,22,23,24,28,29,30,31,52] hK ?_;clear hK K)|(with_reducible refine .done (hK _ ?_);clear hK K)|refine ae.of rfl ?_|(with_reducible refine aF.aL (fun h =>?_) (fun h =>?_) <;>try simp only[h])) <;>try simp only[aN,R,simprocAttr])
  all_goals clear R
 have hlc:=hX hlt;have he:=fun A=>fT (A:=A) 1 hlt rfl;have hw:=fj (i:=i) (by omega);have hsn:=aa7 all b hlt;rw[←hxs] at hsn;have hsl:=hlive _ (zw9 hlt);obtain ⟨s,hs⟩:∃ s,s=all[i]:=⟨_,rfl⟩
 rw[←hs] at he hsn hsl;simp only[xH] at he;have hN:=wQ s (by omega);have hnl:(bY s.bx).length≤200:=by rw[HU];simp only[az.bx,zz8];exact hsl
 have hso:∀ p,(c8 s).only p=true:=fun p=>lj p _ (nZ s);have R:=y6 @hlc (y6 @he (y6 @hst10 (y6 @di (y6 @bA (y6 @bq (y6 @bM (y6 @bz (y6 @bw aI))))))))
 repeat' ((first |(with_reducible refine .guard (fun hb =>?_) (fun hb =>?_) <;>try simp only[hb])|refine ae.aM (by decide +kernel) rfl fun K hK =>?_|refine .lead _ (hN) ?_|(refine .aD [0,1,4,5,6,7,8,10,12,13,14,21,22,23,24,28,29,30,31,52] hK ?_;clear hK K)|(with_reducible refine .done (hK _ ?_);clear hK K)|refine ae.of rfl ?_|(with_reducible refine aF.aL (fun h =>?_) (fun h =>?_) <;>try simp only[h])) <;>try simp only[aN,R,simprocAttr])
 all_goals clear R
 refine ae.loop (fun t:Nat×List dG=>qE all e b i [(10,.ptr 10 []),(28,enc (bY s.bx)),(29,.int .i64 (bY s.bx).length),(30,.int .i64 t.1)] [(10,.box (c8 s))] t.2) (fun t=>t.1≤(bY s.bx).length∧t.2=xs++(((bY s.bx).take t.1).filter (nt all b s)).map (lR s)∧t.2.length≤200*i+t.1) (fun t=>(bY s.bx).length-t.1) (0,xs) ⟨zw5 _,by simp,by simp only;omega⟩ ?_ ?_
 ·simp only[qE,zz3,zy5];clear hxs hsn hs;refine bn.cB ?_ ?_ ?_ ?_ <;>simp[*,bX,cA,b6,b8,av,b9,ct,I.only,ak.only,dZ,b7]
 rintro ⟨j,ys⟩ ⟨hj,hys,hyl⟩;simp only at hj hys hyl;simp only[qE,zz3,zy5];by_cases hjt:j<(bY s.bx).length
 rotate_left
 ·have hjc:=hJ hjt;have hge:j=(bY s.bx).length:=by omega
  rw[hge,zv3] at hys;have R:=y6 @hjc (y6 @hw (y6 @bA (y6 @bq aI)))
  repeat' ((first |(with_reducible refine .guard (fun hb =>?_) (fun hb =>?_) <;>try simp only[hb])|refine ae.aM (by decide +kernel) rfl fun K hK =>?_|(refine .aD [0,1,4,5,6,7,8,10,12,13,14,21,22,23,24,28,29,30,31,52] hK ?_;clear hK K)|(with_reducible refine .done (hK _ ?_);clear hK K)|refine ae.of rfl ?_|(with_reducible refine aF.aL (fun h =>?_) (fun h =>?_) <;>try simp only[h])) <;>try simp only[aN,R,simprocAttr])
  all_goals clear R
  refine ⟨(i+1,ys),⟨by simp only;omega,?_,by simp only;omega⟩,by simp only;omega,?_⟩
  ·simp only;rw[hsn];exact hys
  ·simp only[];clear hxs hsn hs hys;refine bn.cB ?_ ?_ ?_ ?_ <;>simp[bX,cA,b6,b8,av,b9,ct,I.only,ak.only,dZ,b7]
 have hjc:=hX hjt;have hje:=fun A=>fT (A:=A) 1 hjt rfl;have hjw:=fj (i:=j) (by omega);have hjs:xs++(((bY s.bx).take (j+1)).filter (nt all b s)).map (lR s)=ys++if nt all b s (bY s.bx)[j] then [lR s (bY s.bx)[j]] else []:=by
  rw[zy3 hjt,List.filter_append,zx2,zw0,List.filter_nil,←zy4,←hys]
  congr 1
  split <;>rfl
 have hlk:=yF s hjt;generalize (bY s.bx)[j]=n at hje hjs hlk;obtain ⟨r,hr⟩:∃ r,r=lR s n:=⟨_,rfl⟩
 rw[show s.aH (n.toNat-1)=r from hr.symm] at hlk;have ah:I.gf [.ref (enc r),.ref (c8 s),.ref (enc n)]=true:=by simp[I.gf,I.done,kR,nZ]
 have hK2:=IW all [.ref (enc r),.ref (c8 s),.ref (enc n)] ah (kL s r n) (by omega) (fun x _=>IX x s r n);have hap:=fun (A:ai) d rest y=>qN (A:=A) (d:=d) 49 4 32 905 (l:=ys.length) (es:=ys) (ys:=[y]) (rest:=rest) rfl rfl (by simp) (by simp[maxLen];omega) (by simp;omega);have hall3:([I.ptr 13 [],I.ptr 10 [],I.ptr 12 []].all fun y=>y.bV)=true:=rfl;have hk1:nt all b s n=((r.aA==b) && !(all.any (kL s r n))):=by simp only[nt,←hr]
 rw[hk1,←hr] at hjs;rcases q1:(r.aA==b)
 ·rw[q1,Bool.false_and,if_neg (by decide),zy1] at hjs;have R:=y6 @hjc (y6 @hje (y6 @hjw (y6 @hlk (y6 @hst12 (y6 @hall3 (y6 @q1 (y6 @z7 (y6 @di (y6 @bA (y6 @bq (y6 @bM (y6 @bz (y6 @bw aI)))))))))))))
  repeat' ((first |(with_reducible refine .guard (fun hb =>?_) (fun hb =>?_) <;>try simp only[hb])|refine ae.aM (by decide +kernel) rfl fun K hK =>?_|refine .flat _ (hK2) rfl ?_|(refine .aD [0,1,4,5,6,7,8,10,12,13,14,21,22,23,24,28,29,30,31,52] hK ?_;clear hK K)|(with_reducible refine .done (hK _ ?_);clear hK K)|refine ae.of rfl ?_|(with_reducible refine aF.aL (fun h =>?_) (fun h =>?_) <;>try simp only[h])) <;>try simp only[aN,R,simprocAttr])
  all_goals clear R
  refine ⟨(j+1,ys),⟨by simp only;omega,hjs.symm,by simp only;omega⟩,by simp only;omega,?_⟩;simp only[];clear hxs hsn hs hys hr hjs hk1;refine bn.cB ?_ ?_ ?_ ?_ <;>simp[*,bX,cA,b6,b8,av,b9,ct,I.only,ak.only,dZ,b7]
 ·rcases q2:all.any (kL s r n)
  ·rw[q1,q2,Bool.not_false,Bool.and_self,if_pos rfl] at hjs;have R:=y6 @hjc (y6 @hje (y6 @hjw (y6 @hlk (y6 @hst12 (y6 @hall3 (y6 @q1 (y6 @q2 (y6 @hbs (y6 @hap (y6 @z7 (y6 @di (y6 @bA (y6 @bq (y6 @bM (y6 @bz (y6 @bw aI))))))))))))))))
   repeat' ((first |(with_reducible refine .guard (fun hb =>?_) (fun hb =>?_) <;>try simp only[hb])|refine ae.aM (by decide +kernel) rfl fun K hK =>?_|refine .flat _ (hK2) rfl ?_|(refine .aD [0,1,4,5,6,7,8,10,12,13,14,21,22,23,24,28,29,30,31,52] hK ?_;clear hK K)|(with_reducible refine .done (hK _ ?_);clear hK K)|refine ae.of rfl ?_|(with_reducible refine aF.aL (fun h =>?_) (fun h =>?_) <;>try simp only[h])) <;>try simp only[aN,R,simprocAttr])
   all_goals clear R
   refine ⟨(j+1,ys++[r]),⟨by simp only;omega,hjs.symm,by simp only[zz6,List.length_singleton];omega⟩,by simp only;omega,?_⟩;simp only[];clear hxs hsn hs hys hr hjs hk1;refine bn.cB ?_ ?_ ?_ ?_ <;>simp[*,bX,cA,b6,b8,av,b9,ct,I.only,I.bQ,ak.only,dZ,gT,b7]
  ·rw[q1,q2,Bool.not_true,Bool.and_false,if_neg (by decide),zy1] at hjs;have R:=y6 @hjc (y6 @hje (y6 @hjw (y6 @hlk (y6 @hst12 (y6 @hall3 (y6 @q1 (y6 @q2 (y6 @z7 (y6 @di (y6 @bA (y6 @bq (y6 @bM (y6 @bz (y6 @bw aI))))))))))))))
   repeat' ((first |(with_reducible refine .guard (fun hb =>?_) (fun hb =>?_) <;>try simp only[hb])|refine ae.aM (by decide +kernel) rfl fun K hK =>?_|refine .flat _ (hK2) rfl ?_|(refine .aD [0,1,4,5,6,7,8,10,12,13,14,21,22,23,24,28,29,30,31,52] hK ?_;clear hK K)|(with_reducible refine .done (hK _ ?_);clear hK K)|refine ae.of rfl ?_|(with_reducible refine aF.aL (fun h =>?_) (fun h =>?_) <;>try simp only[h])) <;>try simp only[aN,R,simprocAttr])
   all_goals clear R
   refine ⟨(j+1,ys),⟨by simp only;omega,hjs.symm,by simp only;omega⟩,by simp only;omega,?_⟩;simp only[];clear hxs hsn hs hys hr hjs hk1;refine bn.cB ?_ ?_ ?_ ?_ <;>simp[*,bX,cA,b6,b8,av,b9,ct,I.only,ak.only,dZ,b7]
end Go.Proofs.YthbdbocionnfgaaDoor
namespace Go.Proofs.YthbdbocionnfgaaDoor
open Go Go.Abs
inductive dD (s:az) (x:aQ):az→Prop
 |vV (k:x.kind=1) (h:x.aA∉s.here) (r:s.fx x.aA=false):dD s x { s with here:=s.here++[x.aA] }
 |we (k:x.kind=2) (h:x.aA∈s.here):dD s x { s with here:=s.here.erase x.aA }
 |nT (k:x.kind=3) (h:x.aA∈s.here) (n:x.other≠s.aE) (m:x.no=(s.all.length:Int)+1) :
   dD s x { s with here:=s.here.erase x.aA,all:=s.all++[⟨x.no,x.other,x.aA,false⟩],aK:=s.aK++[s.all.length] }
 |call (k:x.kind=4) (i:Nat) (hi:i∈s.aK) (n:x.no=(i:Int)+1) (t:(s.aH i).to=x.other) (b:(s.aH i).aA=x.aA) (c:(s.aH i).dQ=false) :
   dD s x { s with all:=s.all.set i { s.aH i with dQ:=true } }
 |done (k:x.kind=5) (i:Nat) (hi:i∈s.aK) (n:x.no=(i:Int)+1) (t:(s.aH i).to=x.other) (b:(s.aH i).aA=x.aA) :
   dD s x { s with aK:=s.aK.erase i }
 |gL (k:x.kind=6) (i:Nat) (hi:i∈s.aK) (n:x.no=(i:Int)+1) (t:(s.aH i).to=x.other) (b:(s.aH i).aA=x.aA) (c:(s.aH i).dQ=true) :
   dD s x { s with aK:=s.aK.erase i,here:=gb s.here x.aA }
 |take (k:x.kind=7) (u:s.unknown x=true) (h:x.aA∉s.here) (r:s.fx x.aA=false) :
   dD s x { s with bK:=s.bK++[x],here:=s.here++[x.aA] }
 |ref (k:x.kind=8) (u:s.unknown x=true):dD s x { s with bK:=s.bK++[x] }
theorem Ab{s s':az}{x:aQ}(h:eE s x=some s'):dD s x s':=by
 simp only[eE] at h;split at h
 ·rename_i k;split at h
  ·cases h
  ·rename_i c;have c':=not_or.1 c;cases h;rw[gb,if_neg c'.1];exact .vV k c'.1 (by simpa using c'.2)
 split at h
 ·rename_i k;split at h
  ·rename_i c;cases h;exact .we k c
  ·cases h
 split at h
 ·rename_i k;split at h
  ·rename_i c;cases h;exact .nT k c.1 c.2.1 c.2.2
  ·cases h
 split at h
 ·rename_i k;split at h
  ·rename_i i hi;split at h
   ·cases h
   ·rename_i c;cases h;obtain ⟨U,ab,af⟩:=ny hi;obtain ⟨ar,h5⟩:=iQ U;exact .call k i ar h5 ab af (by simpa using c)
  ·cases h
 split at h
 ·rename_i k;split at h
  ·rename_i i hi;cases h;obtain ⟨U,ab,af⟩:=ny hi;obtain ⟨ar,h5⟩:=iQ U;exact .done k i ar h5 ab af
  ·cases h
 split at h
 ·rename_i k;split at h
  ·rename_i i hi;split at h
   ·rename_i c;cases h;obtain ⟨U,ab,af⟩:=ny hi;obtain ⟨ar,h5⟩:=iQ U;exact .gL k i ar h5 ab af c
   ·cases h
  ·cases h
 split at h
 ·rename_i k;split at h
  ·rename_i c;cases h;rw[gb,if_neg c.2.1];exact .take k c.1 c.2.1 c.2.2
  ·cases h
 split at h
 ·rename_i k;split at h
  ·rename_i c;cases h;exact .ref k c
  ·cases h
 cases h
def lO(k:Int)(j:List aQ):List aQ:=j.filter fun x=>decide (x.kind=k)
def gh(j:List aQ):List aQ:=j.filter fun x=>decide (x.kind=5∨x.kind=6)
def jn(j:List aQ):List aQ:=j.filter fun x=>decide (x.kind=7∨x.kind=8)
def dz(k b:Int)(j:List aQ):Nat:=j.countP fun x=>decide (x.kind=k∧x.aA=b)
def fb(x:aQ):Nat:=x.no.toNat-1
def lS(r:dG):aQ:=⟨3,r.aA,r.to,r.no⟩
theorem CG(k b:Int)(j:List aQ)(x:aQ):dz k b (j++[x])=dz k b j+if x.kind=k∧x.aA=b then 1 else 0:=by
 simp only[dz,List.countP_append,List.countP_cons,List.countP_nil,zz4,decide_eq_true_eq]
theorem CW(j:List aQ)(x:aQ):gh (j++[x])=gh j++if x.kind=5∨x.kind=6 then [x] else []:=by
 simp only[gh,List.filter_append,zw0,List.filter_nil,decide_eq_true_eq]
theorem abK(j:List aQ)(x:aQ):jn (j++[x])=jn j++if x.kind=7∨x.kind=8 then [x] else []:=by
 simp only[jn,List.filter_append,zw0,List.filter_nil,decide_eq_true_eq]
theorem aap(k:Int)(j:List aQ)(x:aQ):lO k (j++[x])=lO k j++if x.kind=k then [x] else []:=by
 simp only[lO,List.filter_append,zw0,List.filter_nil,decide_eq_true_eq]
theorem yN{k:Int}{j:List aQ}{x:aQ} : x∈lO k j↔x∈j∧x.kind=k:=by simp[lO]
def jx(s:az)(b:Int):Nat:=if b∈s.here then 1 else 0
def ib(s:az)(b:Int):Nat:=s.aK.countP fun i=>decide ((s.aH i).aA=b)
structure fD (s:az) (j:List aQ):Prop where
 ok:cK s
 all:lO 3 j=s.all.map lS
 no:∀ i,i<s.all.length→(s.aH i).no=(i:Int)+1
 to:∀ i,i<s.all.length→(s.aH i).to≠s.aE
 pD:(s.aK++(gh j).map fb).Perm (List.range s.all.length)
 uW:∀ x∈gh j,x.no=(fb x:Int)+1∧(s.aH (fb x)).aA=x.aA∧(s.aH (fb x)).to=x.other
 call:∀ i,i<s.all.length→((s.aH i).dQ=true↔⟨4,(s.aH i).aA,(s.aH i).to,(i:Int)+1⟩∈j)
 LG:∀ y∈j,y.kind=4→∃ i,i<s.all.length∧y.no=(i:Int)+1
 bK:s.bK=jn j
 c9:s.c9.Nodup
 FA:∀ x∈s.bK,x.other≠s.aE
 AZ:∀ b,jx s b+ib s b+dz 2 b j+dz 5 b j=dz 1 b j+dz 7 b j
 C4:∀ i∈s.aK,(s.aH i).aA∉s.here
 acA:∀ i∈s.aK,∀ k∈s.aK,(s.aH i).aA=(s.aH k).aA→i=k
theorem YK(aE:Int):fD (er aE) [] :=
 ⟨lN aE,rfl,fun i h=>by simp[er] at h,fun i h=>by simp[er] at h,by simp[er,gh],fun x h=>by simp[gh] at h,fun i h=>by simp[er] at h,fun y h=>by simp at h,rfl,by simp[er,az.c9],fun x h=>by simp[er] at h,
  fun b=>by simp[jx,ib,er,dz],fun i h=>by simp[er] at h,fun i h=>by simp[er] at h⟩
theorem abx{s:az}{b:Int}(h:s.fx b=false):∀ i∈s.aK,(s.aH i).aA≠b:=by
 intro i hi e;simp only[az.fx,az.tP,List.any_map,List.any_eq_false] at h;exact h i hi (by simpa using e)
theorem aby{s:az}{b:Int}(h:s.fx b=true):∃ i∈s.aK,(s.aH i).aA=b:=by
 simp only[az.fx,az.tP,List.any_map,List.any_eq_true] at h;obtain ⟨i,hi,e⟩:=h;exact ⟨i,hi,by simpa using e⟩
theorem rN{s s':az}{r:dG}(e:s'.all=s.all++[r]){i:Nat}(hi:i<s.all.length):s'.aH i=s.aH i:=by
 simp only[az.aH,e,zz2,zx0 hi]
theorem tE{s s':az}{r:dG}(e:s'.all=s.all++[r]):s'.aH s.all.length=r:=by
 simp only[az.aH,e,zz2,List.getElem?_concat_length,Option.getD_some]
theorem tF{s s':az}{r:dG}{i:Nat}(e:s'.all=s.all.set i r)(k:Nat):s'.aH k=if i=k∧k<s.all.length then r else s.aH k:=by
 simp only[az.aH,e,zz2,List.getElem?_set];by_cases h:i=k
 ·subst h;by_cases ab:i<s.all.length
  ·simp[ab]
  ·simp[ab]
 ·simp[h]
theorem p6{s s':az}(e:s'.all=s.all)(k:Nat):s'.aH k=s.aH k:=by simp only[az.aH,e]
theorem MH{l:List Nat}{i:Nat}(h:i∈l)(p:Nat→Bool):l.countP p=(l.erase i).countP p+if p i=true then 1 else 0:=by
 rw[(List.perm_cons_erase h).countP_eq p,List.countP_cons]
theorem Zo(l:List Int)(n b:Int):b∈gb l n↔b=n∨b∈l:=by
 unfold gb;split
 ·constructor
  ·exact .inr
  ·rintro (rfl | h)
   ·assumption
   ·exact h
 ·simp only[zy8,zy2];exact Or.comm
theorem abw{s:az}{i:Nat}(hi:i<s.all.length):(s.all.set i { s.aH i with dQ:=true }).map lS=s.all.map lS:=by
 refine List.ext_getElem (by simp) fun k U ab =>?_;simp only[List.getElem_map,List.getElem_set];split
 ·rename_i e;subst e;simp[az.aH,zz2,hi,lS]
 ·rfl
theorem fD.JO{s s':az}{j:List aQ}{x:aQ}(h:fD s j)(hx:dD s x s'):lO 3 (j++[x])=s'.all.map lS:=by
 rw[aap,h.all];cases hx with
 |nT k _ _ m=>rw[if_pos k];simp[lS,←k]
 |call k i hi _ _ _ _ =>
  rw[if_neg (by omega),zy1];exact (abw (h.ok.cN i hi)).symm
 |_=>rw[if_neg (by omega),zy1]
theorem fD.ZD{s s':az}{j:List aQ}{x:aQ}(h:fD s j)(hx:dD s x s'):(∀ i,i<s'.all.length→(s'.aH i).no=(i:Int)+1)∧(s'.aE=s.aE)∧∀ i,i<s'.all.length→(s'.aH i).to≠s.aE:=by
 cases hx with
 |nT k _ n m =>
  refine ⟨fun i hi =>?_,rfl,fun i hi =>?_⟩ <;>simp only[zz6,List.length_singleton] at hi
  ·by_cases e:i<s.all.length
   ·rw[rN (s:=s) (r:=⟨x.no,x.other,x.aA,false⟩) rfl e];exact h.no i e
   ·have:i=s.all.length:=by omega
    subst this;rw[tE (s:=s) (r:=⟨x.no,x.other,x.aA,false⟩) rfl];exact m
  ·by_cases e:i<s.all.length
   ·rw[rN (s:=s) (r:=⟨x.no,x.other,x.aA,false⟩) rfl e];exact h.to i e
   ·have:i=s.all.length:=by omega
    subst this;rw[tE (s:=s) (r:=⟨x.no,x.other,x.aA,false⟩) rfl];exact n
 |call k i hi _ _ _ _ =>
  refine ⟨fun m hm =>?_,rfl,fun m hm =>?_⟩ <;>simp only[List.length_set] at hm <;>rw[tF (s:=s) rfl]
  ·split
   ·rename_i e;rw[e.1];exact h.no m hm
   ·exact h.no m hm
  ·split
   ·rename_i e;rw[e.1];exact h.to m hm
   ·exact h.to m hm
 |_=>exact ⟨h.no,rfl,h.to⟩
theorem aa3{s s':az}{j:List aQ}{x:aQ}(_:fD s j)(hx:dD s x s'){i:Nat}(hi:i<s.all.length):(s'.aH i).aA=(s.aH i).aA∧(s'.aH i).to=(s.aH i).to∧((s.aH i).dQ=true→(s'.aH i).dQ=true)∧s.all.length≤s'.all.length:=by
 cases hx with
 |nT k _ n m=>rw[rN (s:=s) (r:=⟨x.no,x.other,x.aA,false⟩) rfl hi];exact ⟨rfl,rfl,id,by simp⟩
 |call k m hm _ _ _ _ =>
  rw[tF (s:=s) rfl];split
  ·rename_i e;rw[e.1];exact ⟨rfl,rfl,fun _=>rfl,by simp⟩
  ·exact ⟨rfl,rfl,id,by simp⟩
 |_=>exact ⟨rfl,rfl,id,zz9 _⟩
theorem ru{x:aQ}{i:Nat}(h:x.no=(i:Int)+1):fb x=i:=by simp only[fb];omega
theorem CV{l:List Nat}{e:List Nat}{i n:Nat}(hi:i∈l)(h:(l++e).Perm (List.range n)):(l.erase i++(e++[i])).Perm (List.range n):=by
 refine List.Perm.trans ?_ h;have U:=(List.perm_cons_erase hi).append_right e;refine List.Perm.trans ?_ U.symm;rw[←zy4];exact List.perm_append_comm
theorem fD.OX{s s':az}{j:List aQ}{x:aQ}(h:fD s j)(hx:dD s x s'):(s'.aK++(gh (j++[x])).map fb).Perm (List.range s'.all.length):=by
 have U:=h.pD;rw[CW];cases hx with
 |nT k _ n m =>
  rw[if_neg (by omega),zy1];simp only[zz6,List.length_singleton,List.range_succ,zy4];have:(s.aK++([s.all.length]++(gh j).map fb)).Perm ((s.aK++(gh j).map fb)++[s.all.length]):=by
   rw[zy4];exact List.Perm.append_left _ List.perm_append_comm
  exact this.trans (U.append_right _)
 |call k i hi _ _ _ _=>rw[if_neg (by omega),zy1,List.length_set];exact U
 |done k i hi n _ _ =>
  rw[if_pos (by omega),zx2,List.map_singleton,ru n];exact CV hi U
 |gL k i hi n _ _ _ =>
  rw[if_pos (by omega),zx2,List.map_singleton,ru n];exact CV hi U
 |_=>rw[if_neg (by omega),zy1];exact U
theorem fD.EJ{s:az}{j:List aQ}(h:fD s j){x:aQ}(hx:x∈gh j):fb x<s.all.length:=by
 have:fb x∈s.aK++(gh j).map fb:=List.mem_append_right _ (List.mem_map_of_mem hx);simpa using (h.pD.mem_iff).1 this
theorem fD.OW{s s':az}{j:List aQ}{x:aQ}(h:fD s j)(hx:dD s x s'):∀ y∈gh (j++[x]),y.no=(fb y:Int)+1∧(s'.aH (fb y)).aA=y.aA∧(s'.aH (fb y)).to=y.other:=by
 intro y hy;rw[CW] at hy;have old:y∈gh j→y.no=(fb y:Int)+1∧(s'.aH (fb y)).aA=y.aA∧(s'.aH (fb y)).to=y.other:=fun hy=>by
  obtain ⟨U,ab,_⟩:=aa3 h hx (h.EJ hy);rw[U,ab];exact h.uW y hy
 rcases zy8.1 hy with hy | hy
 ·exact old hy
 ·split at hy
  ·rename_i hk;rw[zy2.1 hy];cases hx with
   |done k i hi n t b=>rw[ru n];exact ⟨n,b,t⟩
   |gL k i hi n t b _=>rw[ru n];exact ⟨n,b,t⟩
   |_=>omega
  ·cases hy
theorem EL{x:aQ}{k b o n:Int}(h:(⟨k,b,o,n⟩:aQ)=x):x.kind=k∧x.no=n:=by rw[←h];exact ⟨rfl,rfl⟩
theorem fD.Lz{s s':az}{j:List aQ}{x:aQ}(h:fD s j)(hx:dD s x s'):(∀ i,i<s'.all.length→((s'.aH i).dQ=true↔⟨4,(s'.aH i).aA,(s'.aH i).to,(i:Int)+1⟩∈j++[x]))∧∀ y∈j++[x],y.kind=4→∃ i,i<s'.all.length∧y.no=(i:Int)+1:=by
 have hc:=h.LG;have hm:∀ {b o n:Int},x.kind≠4→((⟨4,b,o,n⟩:aQ)∈j++[x]↔(⟨4,b,o,n⟩:aQ)∈j):=fun hk=>by
  rw[zy8,zy2];exact ⟨fun h=>h.resolve_right fun e=>hk (EL e).1,.inl⟩
 have hy:x.kind≠4→∀ y∈j++[x],y.kind=4→y∈j:=fun hk y hy hy4=>by
  rcases zy8.1 hy with hy | hy
  ·exact hy
  ·rw[zy2.1 hy] at hy4;exact absurd hy4 hk
 cases hx with
 |nT k _ n m =>
  have hk:x.kind≠4:=by omega
  refine ⟨fun i hi =>?_,fun y hy' hy4 =>?_⟩
  ·rw[hm hk];simp only[zz6,List.length_singleton] at hi;by_cases e:i<s.all.length
   ·rw[rN (s:=s) (r:=⟨x.no,x.other,x.aA,false⟩) rfl e];exact h.call i e
   ·have:i=s.all.length:=by omega
    subst this;rw[tE (s:=s) (r:=⟨x.no,x.other,x.aA,false⟩) rfl];constructor
    ·intro hh;cases hh
    ·intro hh;obtain ⟨i,hi,e⟩:=hc _ hh rfl;simp only at e;omega
  ·obtain ⟨i,hi,e⟩:=hc y (hy hk y hy' hy4) hy4;exact ⟨i,by simp only[zz6,List.length_singleton];omega,e⟩
 |call k i hi n t b c =>
  have hil:=h.ok.cN i hi;refine ⟨fun m hml =>?_,fun y hy' hy4 =>?_⟩
  ·simp only[List.length_set] at hml;rw[tF (s:=s) rfl];split
   ·rename_i e;obtain ⟨rfl,_⟩:=e;simp only[true_iff];refine List.mem_append_right _ (zy2.2 ?_);cases x
    simp_all
   ·rename_i e;rw[h.call m hml,zy8,zy2];refine ⟨.inl,fun hh=>hh.resolve_right fun e2 =>?_⟩;have:=(EL e2).2;exact e ⟨by omega,hml⟩
  ·simp only[List.length_set];rcases zy8.1 hy' with hy' | hy'
   ·exact hc y hy' hy4
   ·rw[zy2.1 hy'];exact ⟨i,hil,n⟩
 |vV k _ _=>exact ⟨fun i hi=>by rw[hm (by omega)];exact h.call i hi,fun y hy' hy4=>hc y (hy (by omega) y hy' hy4) hy4⟩
 |we k _=>exact ⟨fun i hi=>by rw[hm (by omega)];exact h.call i hi,fun y hy' hy4=>hc y (hy (by omega) y hy' hy4) hy4⟩
 |done k _ _ _ _ _=>exact ⟨fun i hi=>by rw[hm (by omega)];exact h.call i hi,fun y hy' hy4=>hc y (hy (by omega) y hy' hy4) hy4⟩
 |gL k _ _ _ _ _ _=>exact ⟨fun i hi=>by rw[hm (by omega)];exact h.call i hi,fun y hy' hy4=>hc y (hy (by omega) y hy' hy4) hy4⟩
 |take k _ _ _=>exact ⟨fun i hi=>by rw[hm (by omega)];exact h.call i hi,fun y hy' hy4=>hc y (hy (by omega) y hy' hy4) hy4⟩
 |ref k _=>exact ⟨fun i hi=>by rw[hm (by omega)];exact h.call i hi,fun y hy' hy4=>hc y (hy (by omega) y hy' hy4) hy4⟩
theorem acB{s:az}{x:aQ}(h:s.unknown x=true):x.other≠s.aE∧dF x∉s.c9:=by
 simp only[az.unknown,zz1,bne_iff_ne,ne_eq,Bool.not_eq_true',decide_eq_false_iff_not] at h;exact h
theorem fD.abJ{s s':az}{j:List aQ}{x:aQ}(h:fD s j)(hx:dD s x s'):s'.bK=jn (j++[x])∧s'.c9.Nodup∧∀ y∈s'.bK,y.other≠s.aE:=by
 have hs:=h.bK;have kA:s.unknown x=true→∀ (a:List Int) ,(({ s with bK:=s.bK++[x],here:=a } : az).c9.Nodup∧∀ y∈s.bK++[x],y.other≠s.aE):=fun hu a=>by
  obtain ⟨u1,u2⟩:=acB hu;constructor
  ·simp only[az.c9,zx2,zz7,zx8];refine zv8.2 ⟨h.c9,by simp,fun a ha b hb e =>?_⟩;rw[zy2.1 hb] at e;exact u2 (e▸ha)
  ·intro y hy;rcases zy8.1 hy with hy | hy
   ·exact h.FA y hy
   ·rw[zy2.1 hy];exact u1
 rw[abK];cases hx with
 |take k u _ _=>rw[if_pos (by omega),←hs];exact ⟨rfl,kA u _⟩
 |ref k u=>rw[if_pos (by omega),←hs];exact ⟨rfl,kA u _⟩
 |_=>rw[if_neg (by omega),zy1];exact ⟨hs,h.c9,h.FA⟩
theorem e7{k b:Int}{x:aQ}(h:x.kind≠k)(j:List aQ):dz k b (j++[x])=dz k b j:=by rw[CG,if_neg fun e=>h e.1,Nat.add_zero]
theorem sq{k b:Int}{x:aQ}(h:x.kind=k)(j:List aQ):dz k b (j++[x])=dz k b j+if x.aA=b then 1 else 0:=by rw[CG];simp only[h,true_and]
theorem yl{s s':az}{b c:Int}(e:s'.here=s.here++[c])(h:c∉s.here):jx s' b=jx s b+if c=b then 1 else 0:=by
 simp only[jx,e,zy8,zy2];by_cases hc:c=b
 ·subst hc;rw[if_pos (.inr rfl),if_neg h,if_pos rfl]
 ·rw[if_neg hc];have:(b∈s.here∨b=c)↔b∈s.here:=⟨fun h=>h.resolve_right fun e=>hc e.symm,.inl⟩
  simp only[this,Nat.add_zero]
theorem Ev{s s':az}{b c:Int}(e:s'.here=s.here.erase c)(hn:s.here.Nodup)(h:c∈s.here):jx s b=jx s' b+if c=b then 1 else 0:=by
 simp only[jx,e,hn.mem_erase_iff];by_cases hc:c=b
 ·subst hc;rw[if_pos h,if_neg (fun hh=>hh.1 rfl),if_pos rfl]
 ·rw[if_neg hc];have:(b≠c∧b∈s.here)↔b∈s.here:=⟨fun h=>h.2,fun h=>⟨fun e=>hc e.symm,h⟩⟩
  simp only[this,Nat.add_zero]
theorem E6{s s':az}{i:Nat}{b:Int}(e:s'.aK=s.aK.erase i)(ha:s'.all=s.all)(hi:i∈s.aK):ib s b=ib s' b+if (s.aH i).aA=b then 1 else 0:=by
 simp only[ib,e,p6 ha];rw[MH hi];simp only[decide_eq_true_eq]
theorem JI{l:List Int}{b:Int}(h:b∉l):gb l b=l++[b]:=if_neg h
theorem fD.Kc{s s':az}{j:List aQ}{x:aQ}(h:fD s j)(hx:dD s x s')(b:Int):jx s' b+ib s' b+dz 2 b (j++[x])+dz 5 b (j++[x])=dz 1 b (j++[x])+dz 7 b (j++[x]):=by
 have bf:=h.AZ b;cases hx with
 |vV k hh r =>
  rw[e7 (by omega),e7 (by omega),sq k,e7 (by omega),yl (s:=s) rfl hh,show ib { s with here:=s.here++[x.aA] } b=ib s b from rfl];omega
 |we k hh =>
  have:=Ev (s:=s) (s' := { s with here:=s.here.erase x.aA }) (b:=b) rfl h.ok.ah hh;rw[sq k,e7 (by omega),e7 (by omega),e7 (by omega),show ib { s with here:=s.here.erase x.aA } b=ib s b from rfl];omega
 |nT k hh n m =>
  have U:=Ev (s:=s) (s' := { s with here:=s.here.erase x.aA,all:=s.all++[⟨x.no,x.other,x.aA,false⟩],aK:=s.aK++[s.all.length] }) (b:=b) rfl h.ok.ah hh;have ab:ib { s with here:=s.here.erase x.aA,all:=s.all++[⟨x.no,x.other,x.aA,false⟩],aK:=s.aK++[s.all.length] } b=ib s b+if x.aA=b then 1 else 0:=by
   simp only[ib,List.countP_append,List.countP_cons,List.countP_nil,zz4]
   congr 1
   ·refine List.countP_congr fun i hi =>?_;rw[rN (s:=s) (r:=⟨x.no,x.other,x.aA,false⟩) rfl (h.ok.cN i hi)]
   ·rw[tE (s:=s) (r:=⟨x.no,x.other,x.aA,false⟩) rfl];simp only[decide_eq_true_eq]
  rw[e7 (by omega),e7 (by omega),e7 (by omega),e7 (by omega)];omega
 |call k i hi n t b' c =>
  have ab:ib { s with all:=s.all.set i { s.aH i with dQ:=true } } b=ib s b:=by
   simp only[ib];refine List.countP_congr fun m hm =>?_;rw[tF (s:=s) rfl];split
   ·rename_i e;rw[e.1]
   ·rfl
  rw[e7 (by omega),e7 (by omega),e7 (by omega),e7 (by omega),ab];exact bf
 |done k i hi n t b' =>
  have U:=E6 (s:=s) (s' := { s with aK:=s.aK.erase i }) (b:=b) rfl rfl hi;rw[e7 (by omega),sq k,e7 (by omega),e7 (by omega),show jx { s with aK:=s.aK.erase i } b=jx s b from rfl];rw[b'] at U;omega
 |gL k i hi n t b' c =>
  have hx:x.aA∉s.here:=b'▸h.C4 i hi;have U:=E6 (s:=s) (s' := { s with aK:=s.aK.erase i,here:=gb s.here x.aA }) (b:=b) rfl rfl hi;have ab:=yl (s:=s) (s' := { s with aK:=s.aK.erase i,here:=gb s.here x.aA }) (b:=b) (JI hx) hx;rw[e7 (by omega),e7 (by omega),e7 (by omega),e7 (by omega)];rw[b'] at U;omega
 |take k u hh r =>
  rw[e7 (by omega),e7 (by omega),e7 (by omega),sq k,yl (s:=s) rfl hh,show ib { s with bK:=s.bK++[x],here:=s.here++[x.aA] } b=ib s b from rfl];omega
 |ref k u =>
  rw[e7 (by omega),e7 (by omega),e7 (by omega),e7 (by omega)];exact bf
theorem fD.Pl{s s':az}{j:List aQ}{x:aQ}(h:fD s j)(hx:dD s x s'):(∀ i∈s'.aK,(s'.aH i).aA∉s'.here)∧∀ i∈s'.aK,∀ k∈s'.aK,(s'.aH i).aA=(s'.aH k).aA→i=k:=by
 have he:=h.C4;have hu:=h.acA;have dy:∀ {c:Int},s.fx c=false→∀ i∈s.aK,(s.aH i).aA∉s.here++[c]:=fun hr i hi hh=>by
  rcases zy8.1 hh with hh | hh
  ·exact he i hi hh
  ·exact abx hr i hi (zy2.1 hh)
 cases hx with
 |vV k hh r=>exact ⟨dy r,hu⟩
 |we k hh=>exact ⟨fun i hi hh=>he i hi (zv0 hh),hu⟩
 |nT k hh n m =>
  have old:∀ i∈s.aK,(({ s with here:=s.here.erase x.aA,all:=s.all++[⟨x.no,x.other,x.aA,false⟩],aK:=s.aK++[s.all.length] } : az).aH i)=s.aH i:=fun i hi=>rN (s:=s) (r:=⟨x.no,x.other,x.aA,false⟩) rfl (h.ok.cN i hi);have kA:(({ s with here:=s.here.erase x.aA,all:=s.all++[⟨x.no,x.other,x.aA,false⟩],aK:=s.aK++[s.all.length] } : az).aH s.all.length).aA=x.aA:=by rw[tE (s:=s) (r:=⟨x.no,x.other,x.aA,false⟩) rfl]
  refine ⟨fun i hi =>?_,fun i hi m hm e =>?_⟩
  ·rcases zy8.1 hi with hi | hi
   ·rw[old i hi];exact fun hh=>he i hi (zv0 hh)
   ·rw[zy2.1 hi,kA];exact fun hh=>(h.ok.ah.mem_erase_iff.1 hh).1 rfl
  ·rcases zy8.1 hi with hi | hi <;>rcases zy8.1 hm with hm | hm
   ·rw[old i hi,old m hm] at e;exact hu i hi m hm e
   ·rw[old i hi,zy2.1 hm,kA] at e;exact absurd hh (e▸he i hi)
   ·rw[old m hm,zy2.1 hi,kA] at e;exact absurd hh (e▸he m hm)
   ·rw[zy2.1 hi,zy2.1 hm]
 |call k i hi n t b c =>
  have same:∀ m,(({ s with all:=s.all.set i { s.aH i with dQ:=true } } : az).aH m).aA=(s.aH m).aA:=fun m=>by
   rw[tF (s:=s) rfl];split
   ·rename_i e;rw[e.1]
   ·rfl
  exact ⟨fun m hm=>by rw[same];exact he m hm,fun m hm m2 hm2 e=>by rw[same,same] at e;exact hu m hm m2 hm2 e⟩
 |done k i hi n t b=>exact ⟨fun m hm=>he m (zv0 hm),fun m hm m2 hm2 e=>hu m (zv0 hm) m2 (zv0 hm2) e⟩
 |gL k i hi n t b c =>
  refine ⟨fun m hm hh =>?_,fun m hm m2 hm2 e=>hu m (zv0 hm) m2 (zv0 hm2) e⟩;obtain ⟨U,ab⟩:=h.ok.kz.mem_erase_iff.1 hm;rcases (Zo _ _ _).1 hh with hh | hh
  ·exact U (hu m ab i hi ((show (s.aH m).aA=x.aA from hh).trans b.symm))
  ·exact he m ab hh
 |take k u hh r=>exact ⟨dy r,hu⟩
 |ref k u=>exact ⟨he,hu⟩
theorem fD.step{s s':az}{j:List aQ}{x:aQ}(h:fD s j)(hn:eE s x=some s'):fD s' (j++[x]):=by
 have hx:=Ab hn;obtain ⟨n1,n2,n3⟩:=h.ZD hx;obtain ⟨c1,c2⟩:=h.Lz hx;obtain ⟨s1,s2,s3⟩:=h.abJ hx;obtain ⟨e1,e2⟩:=h.Pl hx;exact ⟨(h.ok.next hn).1,h.JO hx,n1,by rw[n2];exact n3,h.OX hx,h.OW hx,c1,c2,s1,s2,by rw[n2];exact s3,h.Kc hx,e1,e2⟩
theorem wD{s s':az}{x:aQ}(h:eb s x=some s'):gj x=true∧eE s x=some s':=by
 simp only[eb] at h;split at h
 ·rename_i hx;exact ⟨hx,h⟩
 ·cases h
theorem EN:∀ (l j:List aQ) (s s':az),fD s j→gn s l=some s'→fD s' (j++l)
 | [],j,s,s',h,hr=>by cases hr;rw[zy1];exact h
 |x::l,j,s,s',h,hr=>by
  simp only[gn] at hr;cases ht:eb s x with
  |none=>rw[ht] at hr;cases hr
  |some s1 =>
   rw[ht] at hr;have:=EN l (j++[x]) s1 s' (h.step (wD ht).2) hr
   rwa [zy4] at this
theorem EM{aE:Int}{l:List aQ}{s:az}(h:eW aE l=some s):fD s l:=EN l [] _ _ (YK aE) h
theorem HK:∀ (l:List aQ) (s s':az),gn s l=some s'→∀ x∈l,gj x=true
 | [],_,_,_,x,hx=>by cases hx
 |y::l,s,s',hr,x,hx=>by
  simp only[gn] at hr;cases ht:eb s y with
  |none=>rw[ht] at hr;cases hr
  |some s1 =>
   rw[ht] at hr;rcases zw7.1 hx with rfl | hx
   ·exact (wD ht).1
   ·exact HK l s1 s' hr x hx
def fE(f:Nat→Nat):Nat:=((List.range 6).map f).sum
theorem l9(f:Nat→Nat):fE f=f 0+f 1+f 2+f 3+f 4+f 5:=by
 simp[fE,List.range,List.range.loop];omega
def aS(ps:List aJ)(m:Nat):az:=(cP (aB ps m)).getD (er 0)
structure po (m:Int) (e:aQ) (cv:Nat→List aQ):Prop where
 lf:e.kind=7∨e.kind=8→⟨3,e.aA,m,e.no⟩∈cv e.other.toNat
 kv:e.kind=8→⟨4,e.aA,m,e.no⟩∈cv e.other.toNat
 yV:e.kind=5→⟨7,e.aA,m,e.no⟩∈cv e.other.toNat
 yW:e.kind=6→⟨8,e.aA,m,e.no⟩∈cv e.other.toNat
def e9(ps:List aJ)(m:Nat):List aQ:=gP (aB ps m)
structure Whole (ps:List aJ):Prop where
 len:ps.length=6
 aE:∀ m,m<6→(aB ps m).aE=m
 val:∀ m,m<6→cP (aB ps m)=some (aS ps m)
 ju:∀ m,m<6→∀ e∈(aB ps m).j,po m e (e9 ps)
theorem kn{ps:List aJ}{m:Nat}{e:aQ}(h:e∈e9 ps m):e∈(aB ps m).j:=List.mem_of_mem_take h
theorem gz{a b n:Int} : cV a b n=true↔a≤n∧n≤b:=by simp[cV]
section
variable {ps:List aJ} (aq:Whole ps)
include aq
theorem Whole.fU{m:Nat}(hm:m<6):fD (aS ps m) (aB ps m).j:=EM (fe (aq.val m hm)).2.2.2.2.2
theorem Whole.nY{m:Nat}(hm:m<6):(aS ps m).aE=m:=by rw[(fe (aq.val m hm)).2.1,aq.aE m hm]
theorem Whole.FJ{m:Nat}(hm:m<6){e:aQ}(h:e∈(aB ps m).j):gj e=true:=HK _ _ _ (fe (aq.val m hm)).2.2.2.2.2 e h
theorem Whole.mid{m:Nat}(hm:m<6){e:aQ}(h:e∈(aB ps m).j)(hk:3≤e.kind):(1≤e.aA∧e.aA≤9999)∧(0≤e.other∧e.other≤5)∧1≤e.no∧e.no≤200:=by
 have h:=aq.FJ hm h;simp only[gj] at h;rw[if_neg (by omega)] at h;split at h
 ·simp only[zz1,gz] at h;exact ⟨h.1,h.2.1,h.2.2⟩
 ·cases h
theorem Whole.nU{a:Nat}(ha:a<6){b t n:Int}(h:⟨3,b,t,n⟩∈(aB ps a).j):∃ i,i<(aS ps a).all.length∧n=(i:Int)+1∧((aS ps a).aH i).aA=b∧((aS ps a).aH i).to=t:=by
 have J:=aq.fU ha;have U:(⟨3,b,t,n⟩:aQ)∈lO 3 (aB ps a).j:=yN.2 ⟨h,rfl⟩;rw[J.all] at U;obtain ⟨r,hr,e⟩:=zy7.1 U;obtain ⟨i,hi,rfl⟩:=List.getElem_of_mem hr;have e2:(aS ps a).aH i=(aS ps a).all[i]:=by simp[az.aH,zz2,hi]
 have af:=J.no i hi;rw[←e2] at e;simp only[lS,aQ.mk.injEq,true_and] at e;exact ⟨i,hi,by rw[←e.2.2,af],e.1,e.2.1⟩
theorem Whole.zT{a:Nat}(ha:a<6){i:Nat}(hi:i<(aS ps a).all.length):⟨3,((aS ps a).aH i).aA,((aS ps a).aH i).to,(i:Int)+1⟩∈(aB ps a).j:=by
 have J:=aq.fU ha;have e2:(aS ps a).aH i=(aS ps a).all[i]:=by simp[az.aH,zz2,hi]
 have:lS ((aS ps a).aH i)∈lO 3 (aB ps a).j:=by rw[J.all,e2];exact List.mem_map_of_mem (zw9 hi)
 rw[lS,J.no i hi] at this;exact (yN.1 this).1
theorem Whole.o9{a:Nat}(ha:a<6){i:Nat}(hi:i<(aS ps a).all.length):0≤((aS ps a).aH i).to∧((aS ps a).aH i).to≤5∧((aS ps a).aH i).to≠a:=by
 have h:=(aq.mid ha (aq.zT ha hi) (Int.le_refl _)).2.1;have ab:=(aq.fU ha).to i hi;rw[aq.nY ha] at ab;exact ⟨h.1,h.2,ab⟩
theorem Whole.bK{m:Nat}(hm:m<6){y:aQ} : y∈(aS ps m).bK↔y∈(aB ps m).j∧(y.kind=7∨y.kind=8):=by
 rw[(aq.fU hm).bK];simp[jn]
theorem Whole.jC{m:Nat}(hm:m<6){x y:aQ}(hx:x∈(aB ps m).j)(kx:x.kind=7∨x.kind=8)(hy:y∈(aB ps m).j)(ky:y.kind=7∨y.kind=8)(ho:x.other=y.other)(hn:x.no=y.no):x=y:=by
 have U:=(aq.bK hm).2 ⟨hx,kx⟩;have ab:=(aq.bK hm).2 ⟨hy,ky⟩;have hw:=(aq.fU hm).c9;simp only[az.c9] at hw;revert U ab hw;generalize (aS ps m).bK=l;intro U ab hw;have e:dF x=dF y:=by simp only[dF,ho,hn]
 induction l with
 |nil=>cases U
 |cons z l ih =>
  simp only[zz7,List.nodup_cons,zy7,not_exists,not_and] at hw;rcases zw7.1 U with e1 | U
  ·rcases zw7.1 ab with e2 | ab
   ·rw[e1,e2]
   ·exact absurd (e1▸e.symm) (hw.1 y ab)
  ·rcases zw7.1 ab with e2 | ab
   ·exact absurd (e2▸e) (hw.1 x U)
   ·exact ih U ab hw.2
end
def il(ps:List aJ)(a i:Nat):Bool:=decide ((⟨7,((aS ps a).aH i).aA,a,(i:Int)+1⟩:aQ)∈(aB ps ((aS ps a).aH i).to.toNat).j)
def nq(b:Int)(y:aQ):Bool:=decide (y.kind=7∧y.aA=b)
def rn(b:Int)(y:aQ):Bool:=decide (y.kind=5∧y.aA=b)
def kq(ps:List aJ)(b:Int)(a i:Nat):Bool:=decide (((aS ps a).aH i).aA=b)
def mX(ps:List aJ)(b:Int):List (Nat×Nat):=(List.range 6).flatMap fun m=>((aB ps m).j.filter (nq b)).map fun y=>(y.other.toNat,fb y)
def mU(ps:List aJ)(b:Int):List (Nat×Nat):=(List.range 6).flatMap fun a=>((aB ps a).j.filter (rn b)).map fun y=>(a,fb y)
def l7(ps:List aJ)(b:Int):List (Nat×Nat):=(List.range 6).flatMap fun a=>((aS ps a).aK.filter (kq ps b a)).map fun i=>(a,i)
def tq(ps:List aJ)(k:Nat×Nat):Bool:=decide (k.2∈(aS ps k.1).aK)
def wE(ps:List aJ)(k:Nat×Nat):Bool:=il ps k.1 k.2
theorem zm{l:List Nat}{f:Nat→List Nat}(h:l.Nodup)(hf:∀ a∈l,(f a).Nodup):(l.flatMap fun a=>(f a).map fun i=>(a,i)).Nodup:=by
 refine List.pairwise_flatMap.2 ⟨fun a ha =>?_,?_⟩
 ·exact List.Pairwise.map _ (fun x y hne e=>hne (congrArg Prod.snd e)) (hf a ha)
 ·refine List.Pairwise.imp (fun {a b} hne x hx y hy e =>?_) h;obtain ⟨i,_,rfl⟩:=zy7.1 hx;obtain ⟨k,_,rfl⟩:=zy7.1 hy;exact hne (congrArg Prod.fst e)
theorem qF{α:Type}(f:Nat→List α):((List.range 6).flatMap f).length=fE fun m=>(f m).length:=List.length_flatMap
section
variable {ps:List aJ} (aq:Whole ps)
include aq
theorem Fm{b:Int}{a i:Nat} : (a,i)∈mX ps b↔a<6∧i<(aS ps a).all.length∧((aS ps a).aH i).aA=b∧il ps a i=true:=by
 simp only[mX,List.mem_flatMap,zy9,zy7,zx5,nq,decide_eq_true_eq,Prod.mk.injEq];constructor
 ·rintro ⟨m,hm,y,⟨hy,hk,hb⟩,rfl,rfl⟩;obtain ⟨_,ho,hn⟩:=aq.mid hm hy (by omega);have hs:=kn ((aq.ju m hm y hy).lf (.inl hk));obtain ⟨i,hi,e1,e2,e3⟩:=aq.nU (by omega) hs;have ei:fb y=i:=ru e1;rw[ei];refine ⟨by omega,hi,by rw[e2,hb],?_⟩;simp only[il,decide_eq_true_eq,e3,e2];have:(⟨7,y.aA,(y.other.toNat:Int),(i:Int)+1⟩:aQ)=y:=by
   cases y;simp only at hk e1 ho ⊢;rw[hk,e1,Int.toNat_of_nonneg ho.1]
  rw[this];simpa using hy
 ·rintro ⟨ha,hi,hb,ht⟩;simp only[il,decide_eq_true_eq] at ht;obtain ⟨t1,t2,_⟩:=aq.o9 ha hi;exact ⟨((aS ps a).aH i).to.toNat,by omega,_,⟨ht,rfl,hb⟩,by simp,by simp only[fb];omega⟩
theorem Zn{b:Int}{a i:Nat} : (a,i)∈l7 ps b↔a<6∧i<(aS ps a).all.length∧((aS ps a).aH i).aA=b∧i∈(aS ps a).aK:=by
 simp only[l7,List.mem_flatMap,zy9,zy7,zx5,kq,decide_eq_true_eq,Prod.mk.injEq];constructor
 ·rintro ⟨m,hm,k,⟨hk,hb⟩,rfl,rfl⟩;exact ⟨hm,(aq.fU hm).ok.cN k hk,hb,hk⟩
 ·rintro ⟨ha,_,hb,hl⟩;exact ⟨a,ha,i,⟨hl,hb⟩,rfl,rfl⟩
theorem OZ{a:Nat}(ha:a<6){e:aQ}(h:e∈gh (aB ps a).j):fb e∉(aS ps a).aK:=by
 have hn:=((aq.fU ha).pD.nodup_iff).2 List.nodup_range;obtain ⟨_,_,af⟩:=zv8.1 hn;exact fun hl=>af _ hl _ (List.mem_map_of_mem h) rfl
theorem Zm{b:Int}{a i:Nat} : (a,i)∈mU ps b↔a<6∧i<(aS ps a).all.length∧((aS ps a).aH i).aA=b∧il ps a i=true∧i∉(aS ps a).aK:=by
 simp only[mU,List.mem_flatMap,zy9,zy7,zx5,rn,decide_eq_true_eq,Prod.mk.injEq];constructor
 ·rintro ⟨m,hm,e,⟨he,hk,hb⟩,rfl,rfl⟩;have ay:e∈gh (aB ps m).j:=by simp[gh,he,hk]
  obtain ⟨U,ab,af⟩:=(aq.fU hm).uW e ay;have ah:=OZ aq hm ay;refine ⟨hm,(aq.fU hm).EJ ay,by rw[ab,hb],?_,ah⟩;simp only[il,decide_eq_true_eq,ab,af];have:=kn ((aq.ju m hm e he).yV hk)
  rwa [U] at this
 ·rintro ⟨ha,hi,hb,ht,ah⟩;have J:=aq.fU ha;have hm:i∈(aS ps a).aK++(gh (aB ps a).j).map fb:=(J.pD.mem_iff).2 (zy9.2 hi);rcases zy8.1 hm with hm | hm
  ·exact absurd hm ah
  ·obtain ⟨e,he,rfl⟩:=zy7.1 hm;obtain ⟨U,ab,af⟩:=J.uW e he;simp only[gh,zx5,decide_eq_true_eq] at he;refine ⟨a,ha,e,⟨he.1,?_,by rw[←ab,hb]⟩,rfl,rfl⟩;rcases he.2 with k | k
   ·exact k
   ·exfalso
    have h8:=kn ((aq.ju a ha e he.1).yW k);simp only[il,decide_eq_true_eq] at ht;obtain ⟨t1,t2,_⟩:=aq.o9 ha hi;rw[af] at t1 t2 ht;have:=aq.jC (by omega) ht (.inl rfl) h8 (.inr rfl) rfl (by simp only;omega);simp only[aQ.mk.injEq] at this;exact absurd this.1 (by decide)
theorem Fz(b:Int):(mX ps b).Nodup:=by
 refine List.pairwise_flatMap.2 ⟨fun m hm =>?_,?_⟩
 ·have hm:=zy9.1 hm;have hw:=(aq.fU hm).c9;rw[az.c9,(aq.fU hm).bK] at hw;have U:((aB ps m).j.filter (nq b)).Sublist (jn (aB ps m).j):=by
   have:(aB ps m).j.filter (nq b)=(jn (aB ps m).j).filter (nq b):=by
    simp only[jn,List.filter_filter];refine List.filter_congr fun x _ =>?_;simp only[nq];by_cases h:x.kind=7∧x.aA=b
    ·simp[h]
    ·simp[h]
   rw[this];exact List.filter_sublist
  have ab:((aB ps m).j.filter (nq b)).Pairwise fun x y=>dF x≠dF y:=by
   have:=List.pairwise_map.1 hw;exact this.sublist U
  refine List.pairwise_map.2 (List.Pairwise.imp_of_mem (fun {x y} hx hy hne e=>hne ?_) ab);simp only[zx5,nq,decide_eq_true_eq] at hx hy;obtain ⟨_,o1,n1⟩:=aq.mid hm hx.1 (by omega);obtain ⟨_,o2,n2⟩:=aq.mid hm hy.1 (by omega);simp only[fb,Prod.mk.injEq] at e;simp only[dF,iY.mk.injEq];omega
 ·refine List.Pairwise.imp_of_mem (fun {m m2} hm hm2 hne x hx y hy e=>hne ?_) List.nodup_range;have hm:=zy9.1 hm;have hm2:=zy9.1 hm2;obtain ⟨u,hu,rfl⟩:=zy7.1 hx;obtain ⟨v,hv,rfl⟩:=zy7.1 hy;simp only[zx5,nq,decide_eq_true_eq] at hu hv;obtain ⟨_,o1,n1⟩:=aq.mid hm hu.1 (by omega);obtain ⟨_,o2,n2⟩:=aq.mid hm2 hv.1 (by omega);simp only[fb,Prod.mk.injEq] at e;have U:=kn ((aq.ju m hm u hu.1).lf (.inl hu.2.1));have ab:=kn ((aq.ju m2 hm2 v hv.1).lf (.inl hv.2.1));rw[←e.1] at ab;obtain ⟨i,_,e1,_,e3⟩:=aq.nU (by omega) U;obtain ⟨k,_,e4,_,e6⟩:=aq.nU (by omega) ab;have:i=k:=by omega
  subst this;rw[e3] at e6;omega
theorem ZG(b:Int):(l7 ps b).Nodup:=zm (f:=fun a=>(aS ps a).aK.filter (kq ps b a)) List.nodup_range fun a ha=>((aq.fU (zy9.1 ha)).ok.kz).filter _
theorem ZF(b:Int):(mU ps b).Nodup:=by
 have:mU ps b=(List.range 6).flatMap fun a=>(((aB ps a).j.filter (rn b)).map fb).map fun i=>(a,i):=by simp only[mU,List.map_map];rfl
 rw[this];refine zm List.nodup_range fun a ha =>?_;have ha:=zy9.1 ha;have hn:=((aq.fU ha).pD.nodup_iff).2 List.nodup_range;obtain ⟨_,ab,_⟩:=zv8.1 hn;refine ab.sublist (List.Sublist.map _ ?_);have:(aB ps a).j.filter (rn b)=(gh (aB ps a).j).filter (rn b):=by
  simp only[gh,List.filter_filter];refine List.filter_congr fun x _ =>?_;simp only[rn];by_cases h:x.kind=5∧x.aA=b
  ·simp[h]
  ·simp[h]
 rw[this];exact List.filter_sublist
omit aq in
theorem EZ{α:Type}(p:α→Bool)(l:List α):l.length=(l.filter p).length+(l.filter fun x => !p x).length:=by
 have:=List.length_eq_countP_add_countP p (l:=l);rw[zv4,zv4] at this;rw[this]
 congr 2
 refine List.filter_congr fun x _ =>?_;cases p x <;>simp
def p7(ps:List aJ)(b:Int):Nat:=fE fun a=>(aS ps a).aK.countP fun i=>kq ps b a i && !il ps a i
def pd(ps:List aJ)(b:Int):Nat:=fE fun m=>jx (aS ps m) b
def eG(ps:List aJ)(k b:Int):Nat:=fE fun m=>dz k b (aB ps m).j
omit aq in
theorem Jz(f g:Nat→Nat):fE (fun m=>f m+g m)=fE f+fE g:=by simp only[l9];omega
omit aq in
theorem oh{f g:Nat→Nat}(h:∀ m,m<6→f m=g m):fE f=fE g:=by
 simp only[l9,h 0 (by omega),h 1 (by omega),h 2 (by omega),h 3 (by omega),h 4 (by omega),h 5 (by omega)]
theorem Whole.total(b:Int):pd ps b+p7 ps b+eG ps 2 b=eG ps 1 b:=by
 have U:pd ps b+(l7 ps b).length+eG ps 2 b+(mU ps b).length=eG ps 1 b+(mX ps b).length:=by
  have e1:(l7 ps b).length=fE fun m=>ib (aS ps m) b:=by
   rw[l7,qF];refine oh fun m _ =>?_;rw[zz8,ib,zv4];rfl
  have e2:(mU ps b).length=eG ps 5 b:=by
   rw[mU,qF];refine oh fun m _ =>?_;rw[zz8,dz,zv4];rfl
  have e3:(mX ps b).length=eG ps 7 b:=by
   rw[mX,qF];refine oh fun m _ =>?_;rw[zz8,dz,zv4];rfl
  rw[e1,e2,e3];simp only[pd,eG,←Jz];exact oh fun m hm=>(aq.fU hm).AZ b
 have ab:=EZ (tq ps) (mX ps b);have af:=EZ (wE ps) (l7 ps b);have ar:((mX ps b).filter (tq ps)).length=((l7 ps b).filter (wE ps)).length:=by
  refine List.Perm.length_eq ((List.perm_ext_iff_of_nodup ((Fz aq b).filter _) ((ZG aq b).filter _)).2 ?_);rintro ⟨a,i⟩;simp only[zx5,Fm aq,Zn aq,tq,wE,decide_eq_true_eq];constructor
  ·rintro ⟨⟨U,ab,af,ar⟩,h5⟩;exact ⟨⟨U,ab,af,h5⟩,ar⟩
  ·rintro ⟨⟨U,ab,af,h5⟩,ar⟩;exact ⟨⟨U,ab,af,ar⟩,h5⟩
 have h5:((mX ps b).filter fun k => !tq ps k).length=(mU ps b).length:=by
  refine List.Perm.length_eq ((List.perm_ext_iff_of_nodup ((Fz aq b).filter _) (ZF aq b)).2 ?_);rintro ⟨a,i⟩;simp only[zx5,Fm aq,Zm aq,tq,Bool.not_eq_true',decide_eq_false_iff_not];constructor
  ·rintro ⟨⟨U,ab,af,ar⟩,h5⟩;exact ⟨U,ab,af,ar,h5⟩
  ·rintro ⟨U,ab,af,ar,h5⟩;exact ⟨⟨U,ab,af,ar⟩,h5⟩
 have h6:((l7 ps b).filter fun k => !wE ps k).length=p7 ps b:=by
  rw[l7,List.filter_flatMap,qF];refine oh fun a _ =>?_;rw[zv4,List.filter_map,zz8,List.filter_filter]
  congr 1
  refine List.filter_congr fun i _ =>?_;rw[Bool.and_comm];rfl
 omega
end
def ka(ps:List aJ):List az:=(List.range 6).map (aS ps)
def uv(ps:List aJ):Prop:=∀ b,eG ps 1 b≤1
section
variable {ps:List aJ} (aq:Whole ps)
include aq
theorem Whole.F8:ps=(List.range 6).map (aB ps):=by
 refine List.ext_getElem (by simp[aq.len]) fun i U ab =>?_;simp[lP U]
theorem Whole.gi:qL ps=true:=by
 simp only[qL,zx6,zy9,aq.len];intro i hi;simp only[jd,aq.val i hi,Option.isSome_some,Bool.true_and,Bool.or_eq_true,beq_iff_eq,decide_eq_true_eq];by_cases h:i=0
 ·exact .inl h
 ·right
  rw[aq.aE i hi,aq.aE (i-1) (by omega)];omega
theorem Whole.ace:mP ps=ka ps:=by
 have h:∀ l:List Nat,(∀ m∈l,m<6)→(l.map (aB ps)).filterMap cP=l.map (aS ps):=by
  intro l
  induction l with
  |nil=>intro _;rfl
  |cons m l ih =>
   intro hl;rw[zz7,zz7,List.filterMap_cons,aq.val m (hl m (by simp)),ih fun k hk=>hl k (by simp[hk])]
 have:=h (List.range 6) fun m hm=>zy9.1 hm
 rwa [←aq.F8] at this
theorem Whole.AM{b:Int}(hb:cV 1 9999 b=true):hE ps b=(ka ps,0):=by
 simp only[hE,aq.gi,hb,if_true,aq.ace]
theorem Whole.acK{b:Int}(hb:cV 1 9999 b=true):(pf ps b).1.length=pd ps b∧(pf ps b).2=0:=by
 simp only[pf,aq.AM hb,ka,zz8,List.filter_map,and_true];simp only[pd,jx,l9];simp only[List.range,List.range.loop,zw0,List.filter_nil,Function.comp,decide_eq_true_eq]
 (repeat' split) <;>rfl
theorem YS{m:Nat}(hm:m<6){a:Int}{no b:Int}(hs:⟨3,b,(m:Int),no⟩∈(aB ps a.toNat).j)(ha:0≤a∧a≤5):(sY (aS ps m) ⟨a,no⟩=7)↔⟨7,b,a,no⟩∈(aB ps m).j:=by
 simp only[sY];constructor
 ·intro h;split at h
  ·rename_i x hx;have U:=List.mem_of_find?_eq_some hx;have ab:=List.find?_some hx;simp only[decide_eq_true_eq,dF,iY.mk.injEq] at ab;obtain ⟨af,ar⟩:=(aq.bK hm).1 U;have hn:=kn ((aq.ju m hm x af).lf ar);rw[ab.1,ab.2] at hn;obtain ⟨i,_,e1,e2,_⟩:=aq.nU (by omega) hs;obtain ⟨k,_,e4,e5,_⟩:=aq.nU (by omega) hn;have:i=k:=by omega
   subst this;cases x;simp only at h ab e5;rw[h,ab.1,ab.2,←e5,e2] at af;exact af
  ·cases h
 ·intro h;have hs2:=(aq.bK hm).2 ⟨h,.inl rfl⟩;cases hf:(aS ps m).bK.find? fun x=>decide (dF x=⟨a,no⟩) with
  |none =>
   have:=List.find?_eq_none.1 hf _ hs2;simp[dF] at this
  |some x =>
   have U:=List.mem_of_find?_eq_some hf;have ab:=List.find?_some hf;simp only[decide_eq_true_eq,dF,iY.mk.injEq] at ab;obtain ⟨af,ar⟩:=(aq.bK hm).1 U;have:=aq.jC hm af ar h (.inl rfl) ab.1 ab.2;simp only[this]
theorem acq{a i:Nat}(ha:a<6)(hi:i<(aS ps a).all.length):(ka ps).any (kL (aS ps a) ((aS ps a).aH i) ((i:Int)+1))=il ps a i:=by
 obtain ⟨t1,t2,_⟩:=aq.o9 ha hi;have hs:=aq.zT ha hi;have hk:=YS aq (m:=((aS ps a).aH i).to.toNat) (a:=(a:Int)) (no:=(i:Int)+1) (b:=((aS ps a).aH i).aA) (by omega) (by rw[Int.toNat_of_nonneg t1,Int.toNat_natCast];exact hs) (by omega);rw[Bool.eq_iff_iff];simp only[ka,List.any_map,List.any_eq_true,zy9,Function.comp,kL,il,decide_eq_true_eq,zz1,beq_iff_eq,aq.nY ha];constructor
 ·rintro ⟨m,hm,e,hk7⟩;rw[aq.nY hm] at e;have:((aS ps a).aH i).to.toNat=m:=by omega
  rw[this] at hk ⊢;exact hk.1 hk7
 ·intro h;exact ⟨_,by omega,by rw[aq.nY (by omega)];omega,hk.2 h⟩
theorem Whole.aa8(b:Int):(mD (ka ps) b (ka ps)).length=p7 ps b:=by
 have U:mD (ka ps) b (ka ps)=(List.range 6).flatMap fun a=>((bY (aS ps a).bx).filter (nt (ka ps) b (aS ps a))).map (lR (aS ps a)):=by
  simp only[mD]
  conv=>lhs;arg 2;rw[ka]
  rw[List.flatMap_map]
 rw[U,qF];refine oh fun a ha =>?_;rw[zz8,←zv4];have hp:(bY (aS ps a).bx).Perm (aS ps a).bx:=List.mergeSort_perm _ _;rw[hp.countP_eq,az.bx,List.countP_map];refine List.countP_congr fun i hi =>?_;have hil:=(aq.fU ha).ok.cN i hi;have e1:lR (aS ps a) ((i:Int)+1)=(aS ps a).aH i:=by simp only[lR];congr 1
 simp only[Function.comp,nt,e1,acq aq ha hil,kq,zz1,beq_iff_eq,decide_eq_true_eq]
end
def tW(k b:Int)(ps:List aJ):Bool:=ps.any fun p=>p.j.any fun x=>decide (x.aA=b)&&decide (x.kind=k)
theorem CF{k b:Int}{j:List aQ} : 0<dz k b j↔(j.any fun x=>decide (x.aA=b)&&decide (x.kind=k))=true:=by
 rw[dz,List.countP_pos_iff,List.any_eq_true];constructor
 ·rintro ⟨x,hx,h⟩;simp only[decide_eq_true_eq] at h;exact ⟨x,hx,by simp[h.1,h.2]⟩
 ·rintro ⟨x,hx,h⟩;simp only[zz1,decide_eq_true_eq] at h;exact ⟨x,hx,by simp[h.1,h.2]⟩
theorem HT{ps:List aJ}(aq:Whole ps){k b:Int} : tW k b ps=true↔0<eG ps k b:=by
 have key:tW k b ps=true↔∃ m,m<6∧0<dz k b (aB ps m).j:=by
  rw[tW]
  conv=>lhs;rw[aq.F8]
  rw[List.any_map,List.any_eq_true];constructor
  ·rintro ⟨m,hm,h⟩;exact ⟨m,zy9.1 hm,CF.2 h⟩
  ·rintro ⟨m,hm,h⟩;exact ⟨m,zy9.2 hm,CF.1 h⟩
 rw[key];simp only[eG,l9];constructor
 ·rintro ⟨m,hm,h⟩;have:m=0∨m=1∨m=2∨m=3∨m=4∨m=5:=by omega
  rcases this with rfl | rfl | rfl | rfl | rfl | rfl <;>omega
 ·intro h;by_cases bf:0<dz k b (aB ps 0).j
  ·exact ⟨0,by omega,bf⟩
  by_cases U:0<dz k b (aB ps 1).j
  ·exact ⟨1,by omega,U⟩
  by_cases ab:0<dz k b (aB ps 2).j
  ·exact ⟨2,by omega,ab⟩
  by_cases af:0<dz k b (aB ps 3).j
  ·exact ⟨3,by omega,af⟩
  by_cases ar:0<dz k b (aB ps 4).j
  ·exact ⟨4,by omega,ar⟩
  exact ⟨5,by omega,by omega⟩
theorem zd{ps:List aJ}(aq:Whole ps)(O:uv ps)(b:Int):pd ps b+p7 ps b≤1∧(tW 1 b ps=true→tW 2 b ps=false→pd ps b+p7 ps b=1):=by
 have h:=aq.total b;have U:=O b;refine ⟨by omega,fun ab af =>?_⟩;have ar:=(HT aq).1 ab;have h5:¬ 0<eG ps 2 b:=fun h=>by rw[(HT aq).2 h] at af;cases af
 omega
theorem oJ{ps:List aJ}{m:Nat}(hm:m<ps.length)(q:aJ)(k:Nat):aB (ps.set m q) k=if k=m then q else aB ps k:=by
 simp only[aB,zz2,List.getElem?_set];by_cases h:m=k
 ·subst h;simp[hm]
 ·rw[if_neg h,if_neg fun e=>h e.symm]
structure rZ (ps:List aJ) (m:Nat) (x:aQ) (q:aJ):Prop where
 lt:(aB ps m).j.length<200
 eq:q=⟨(aB ps m).aE,(aB ps m).j++[x],(aB ps m).cv⟩
 ok:∃ s',eb (aS ps m) x=some s'
 kz:po m x (e9 ps)
structure um (ps:List aJ) (m:Nat) (k:Nat) (q:aJ):Prop where
 lo:(aB ps m).cv≤k
 hi:k≤(aB ps m).j.length
 eq:q=⟨(aB ps m).aE,(aB ps m).j.take k,k⟩
theorem po.mono{m:Int}{e:aQ}{f g:Nat→List aQ}(h:po m e f)(hs:∀ a x,x∈f a→x∈g a):po m e g:=⟨fun k=>hs _ _ (h.lf k),fun k=>hs _ _ (h.kv k),fun k=>hs _ _ (h.yV k),fun k=>hs _ _ (h.yW k)⟩
section
variable {ps:List aJ} (aq:Whole ps) {m:Nat} (hm:m<6)
include aq hm
theorem Whole.cv:0≤(aB ps m).cv∧(aB ps m).cv≤(aB ps m).j.length∧(aB ps m).j.length≤200:=by
 obtain ⟨_,_,_,ar,h5,_⟩:=fe (aq.val m hm);simp only[iV,zz1,gz] at h5;exact ⟨h5.2.2.1,h5.2.2.2,ar⟩
theorem Whole.add{x:aQ}{q:aJ}(h:rZ ps m x q):Whole (ps.set m q)∧e9 (ps.set m q)=e9 ps∧eb (aS ps m) x=some (aS (ps.set m q) m):=by
 obtain ⟨U,rfl,⟨s',af⟩,ar⟩:=h;obtain ⟨f1,f2,f3⟩:=aq.cv hm;have hl:m<ps.length:=by rw[aq.len];exact hm
 have hp:=oJ hl ⟨(aB ps m).aE,(aB ps m).j++[x],(aB ps m).cv⟩;obtain ⟨_,_,_,_,h5,h6⟩:=fe (aq.val m hm);have hf:e9 (ps.set m ⟨(aB ps m).aE,(aB ps m).j++[x],(aB ps m).cv⟩)=e9 ps:=by
  funext a
  simp only[e9,hp a];split
  ·rename_i e;subst e;simp only[gP];exact List.take_append_of_le_length (by omega)
  ·rfl
 have ho:cP ⟨(aB ps m).aE,(aB ps m).j++[x],(aB ps m).cv⟩=some s':=by
  have hr:eW (aB ps m).aE ((aB ps m).j++[x])=some s':=by
   rw[eW,oT];rw[eW] at h6;rw[h6];simp only[Option.bind_some,gn,af]
  rw[cP,if_pos,hr];simp only[iV,zz1,gz,decide_eq_true_eq,zz6,List.length_singleton] at h5 ⊢;exact ⟨h5.1,by omega,by omega,by omega⟩
 have hst:aS (ps.set m ⟨(aB ps m).aE,(aB ps m).j++[x],(aB ps m).cv⟩) m=s':=by
  simp only[aS,hp m,if_true,ho,Option.getD_some]
 refine ⟨⟨by rw[List.length_set,aq.len],fun k hk =>?_,fun k hk =>?_,fun k hk e he =>?_⟩,hf,by rw[hst,af]⟩
 ·rw[hp k];split
  ·rename_i e;subst e;exact aq.aE k hk
  ·exact aq.aE k hk
 ·by_cases e:k=m
  ·subst e;rw[hp k,if_pos rfl,hst,ho]
  ·simp only[aS,hp k,if_neg e];exact aq.val k hk
 ·rw[hf];rw[hp k] at he;split at he
  ·rename_i e2;subst e2;rcases zy8.1 he with he | he
   ·exact aq.ju k hk e he
   ·rw[zy2.1 he];exact ar
  ·exact aq.ju k hk e he
omit aq hm in
theorem abF{aE:Int}{l:List aQ}{s:az}(h:eW aE l=some s)(k:Nat):∃ s',eW aE (l.take k)=some s':=by
 have:l=l.take k++l.drop k:=(List.take_append_drop k l).symm;rw[eW,this,oT] at h;rw[eW];cases hr:gn (er aE) (l.take k) with
 |none=>rw[hr] at h;cases h
 |some s'=>exact ⟨s',rfl⟩
theorem Whole.jU{k:Nat}{q:aJ}(h:um ps m k q):Whole (ps.set m q)∧(∀ a x,x∈e9 ps a→x∈e9 (ps.set m q) a)∧e9 (ps.set m q) m=q.j:=by
 obtain ⟨U,ab,rfl⟩:=h;obtain ⟨f1,f2,f3⟩:=aq.cv hm;have hl:m<ps.length:=by rw[aq.len];exact hm
 have hp:=oJ hl ⟨(aB ps m).aE,(aB ps m).j.take k,k⟩;obtain ⟨_,_,_,_,h5,h6⟩:=fe (aq.val m hm);obtain ⟨s',hr⟩:=abF h6 k;have hself:gP ⟨(aB ps m).aE,(aB ps m).j.take k,k⟩=(aB ps m).j.take k:=by
  simp only[gP,List.take_take]
  congr 1
  omega
 have hf:∀ a x,x∈e9 ps a→x∈e9 (ps.set m ⟨(aB ps m).aE,(aB ps m).j.take k,k⟩) a:=by
  intro a x hx;simp only[e9,hp a] at hx ⊢;split
  ·rename_i e;subst e;rw[hself];simp only[gP] at hx;exact (List.take_subset_take_left (l:=(aB ps a).j) (by omega)) hx
  ·exact hx
 have ho:cP ⟨(aB ps m).aE,(aB ps m).j.take k,k⟩=some s':=by
  rw[cP,if_pos,hr];simp only[iV,zz1,gz,decide_eq_true_eq,zx9] at h5 ⊢;exact ⟨h5.1,by omega,by omega,by omega⟩
 refine ⟨⟨by rw[List.length_set,aq.len],fun a ha =>?_,fun a ha =>?_,fun a ha e he =>?_⟩,hf,?_⟩
 ·rw[hp a];split
  ·rename_i e;subst e;exact aq.aE a ha
  ·exact aq.aE a ha
 ·by_cases e:a=m
  ·subst e;simp only[aS,hp a,if_true,ho,Option.getD_some]
  ·simp only[aS,hp a,if_neg e];exact aq.val a ha
 ·rw[hp a] at he;split at he
  ·rename_i e2;subst e2;exact (aq.ju a ha e (List.mem_of_mem_take he)).mono hf
  ·exact (aq.ju a ha e he).mono hf
 ·simp only[e9,hp m,if_true,hself]
theorem n5(f:aJ→Nat)(q:aJ):fE (fun a=>f (aB (ps.set m q) a))+f (aB ps m)=fE (fun a=>f (aB ps a))+f q:=by
 have hl:m<ps.length:=by rw[aq.len];exact hm
 simp only[oJ hl,l9];have:m=0∨m=1∨m=2∨m=3∨m=4∨m=5:=by omega
 rcases this with rfl | rfl | rfl | rfl | rfl | rfl <;>simp <;>omega
end
structure kP (r:ca) (cv:Nat→List aQ):Prop where
 ok:lh r=true
 lr:r.kind=1∨r.kind=3→⟨3,r.aA,r.to,r.no⟩∈cv r.fI.toNat
 p5:r.kind=3→⟨4,r.aA,r.to,r.no⟩∈cv r.fI.toNat
 jH:r.kind=2→⟨7,r.aA,r.to,r.no⟩∈cv r.fI.toNat
 tD:r.kind=4→⟨8,r.aA,r.to,r.no⟩∈cv r.fI.toNat
theorem kP.mono{r:ca}{f g:Nat→List aQ}(h:kP r f)(hs:∀ a x,x∈f a→x∈g a):kP r g:=⟨h.ok,fun k=>hs _ _ (h.lr k),fun k=>hs _ _ (h.p5 k),fun k=>hs _ _ (h.jH k),fun k=>hs _ _ (h.tD k)⟩
theorem pV{r:ca}(h:lh r=true):(1≤r.kind∧r.kind≤4)∧(0≤r.fI∧r.fI≤5)∧(0≤r.to∧r.to≤5)∧r.fI≠r.to∧(1≤r.aA∧r.aA≤9999)∧1≤r.no∧r.no≤200:=by
 simpa only[lh,zz1,gz,bne_iff_ne,ne_eq] using h
theorem kP.Zw{r:ca}{f:Nat→List aQ}(h:kP r f):po r.to (ep r) f:=by
 have hk:=(pV h.ok).1;have:r.kind=1∨r.kind=2∨r.kind=3∨r.kind=4:=by omega
 rcases this with k | k | k | k <;>refine ⟨fun e =>?_,fun e =>?_,fun e =>?_,fun e =>?_⟩ <;>simp[ep,je,k] at e ⊢
 ·exact h.lr (.inl k)
 ·exact h.jH k
 ·exact h.lr (.inr k)
 ·exact h.p5 k
 ·exact h.tD k
theorem EK{r:ca}(h:lh r=true):gj (ep r)=true:=by
 obtain ⟨hk,U,ab,af,ar,h5⟩:=pV h;have:5≤je r.kind∧je r.kind≤8:=by
  simp only[je];have:r.kind=1∨r.kind=2∨r.kind=3∨r.kind=4:=by omega
  rcases this with k | k | k | k <;>simp[k]
 have key:∀ k:Int,5≤k∧k≤8→gj ⟨k,r.aA,r.fI,r.no⟩=true:=fun k hk=>by
  simp only[gj];rw[if_neg (by omega),if_pos (by omega)];simp only[zz1,gz];exact ⟨ar,U,h5⟩
 exact key _ this
def sW(e:Int):Bool:=e==0||(e==2||(e==92||(e==93||(e==94||e==90))))
theorem Ah(p:aJ)(x:aQ):((im p x).2=2∧p.j.length=200)∨((im p x).2=0∧p.j.length≠200∧(im p x).1=⟨p.aE,p.j++[x],p.cv⟩):=by
 simp only[im];split
 ·rename_i h;exact .inl ⟨rfl,h⟩
 ·rename_i h;exact .inr ⟨rfl,h,rfl⟩
theorem Zx{m:Int}{x:aQ}{f:Nat→List aQ}(h:x.kind≤4):po m x f:=⟨fun k=>by omega,fun k=>by omega,fun k=>by omega,fun k=>by omega⟩
def qA(ps:List aJ)(m:Nat)(k b:Int)(r:aJ×Int):Prop:=sW r.2=true∧(r.2=0→∃ x,x.kind=k∧x.aA=b∧rZ ps m x r.1)
section
variable {ps:List aJ} (aq:Whole ps) {m:Nat} (hm:m<6)
include aq hm
theorem uS{x:aQ}{s':az}(hk:x.kind≤4)(ht:eb (aS ps m) x=some s'):qA ps m x.kind x.aA (im (aB ps m) x):=by
 obtain ⟨_,_,f3⟩:=aq.cv hm;rcases Ah (aB ps m) x with ⟨U,_⟩ | ⟨U,ab,af⟩
 ·exact ⟨by rw[U];rfl,fun h=>by rw[U] at h;cases h⟩
 ·exact ⟨by rw[U];rfl,fun _=>⟨x,rfl,rfl,by omega,af,⟨s',ht⟩,Zx hk⟩⟩
theorem Oz{b:Int}(hb:cV 1 9999 b=true):qA ps m 1 b (kT (aB ps m) b):=by
 simp only[kT,aq.val m hm,hb,zv2,if_false];split
 ·exact ⟨rfl,fun h=>by cases h⟩
 ·rename_i c;refine uS aq hm (x:=⟨1,b,0,0⟩) (by simp) (s' := { aS ps m with here:=gb (aS ps m).here b }) ?_;simp only[eb,gj,hb,eE,if_neg c];rfl
theorem OA{b:Int}(hb:cV 1 9999 b=true):qA ps m 2 b (oQ (aB ps m) b):=by
 simp only[oQ,aq.val m hm,hb,zv2,if_false];split
 ·rename_i c;refine uS aq hm (x:=⟨2,b,0,0⟩) (by simp) (s' := { aS ps m with here:=(aS ps m).here.erase b }) ?_;rw[eb,if_pos (by simp[gj,hb]),eE,if_neg (by simp),if_pos rfl,if_pos c]
 ·exact ⟨rfl,fun h=>by cases h⟩
theorem OB{b t:Int}(hb:cV 1 9999 b=true)(ht:cV 0 5 t=true):qA ps m 3 b ((jo (aB ps m) b t).1,(jo (aB ps m) b t).2.2):=by
 obtain ⟨_,_,af,_,_,_⟩:=fe (aq.val m hm);obtain ⟨_,_,f3⟩:=aq.cv hm;simp only[jo,aq.val m hm,hb,ht,zv2,if_false,false_or];split
 ·exact ⟨rfl,fun h=>by cases h⟩
 split
 ·exact ⟨rfl,fun h=>by cases h⟩
 split
 ·exact ⟨rfl,fun h=>by cases h⟩
 rename_i c1 c2 c3;have c2:b∈(aS ps m).here:=Classical.byContradiction c2;have ah:=uS aq hm (x:=⟨3,b,t,((aS ps m).all.length:Int)+1⟩) (s' := { aS ps m with here:=(aS ps m).here.erase b,all:=(aS ps m).all++[⟨((aS ps m).all.length:Int)+1,t,b,false⟩],aK:=(aS ps m).aK++[(aS ps m).all.length] }) (by simp) (by
  have hno:cV 1 200 (((aS ps m).all.length:Int)+1)=true:=gz.2 (by omega);rw[eb,if_pos (by simp[gj,hb,ht,hno]),eE,if_neg (by simp),if_neg (by simp),if_pos rfl,if_pos ⟨c2,by rw[aq.nY hm,←aq.aE m hm];exact c1,rfl⟩])
 rcases Ah (aB ps m) ⟨3,b,t,((aS ps m).all.length:Int)+1⟩ with ⟨U,ab⟩ | ⟨U,_⟩
 ·exact absurd ab c3
 ·exact ⟨rfl,fun _=>ah.2 U⟩
theorem Ox(no:Int):∃ b,qA ps m 4 b (ot (aB ps m) no):=by
 simp only[ot,aq.val m hm];split
 ·exact ⟨0,rfl,fun h=>by cases h⟩
 rename_i i hi;split
 ·exact ⟨0,rfl,fun h=>by cases h⟩
 rename_i c;obtain ⟨U,ab⟩:=iQ hi;have J:=aq.fU hm;have hil:=J.ok.cN i U;obtain ⟨b1,o1,n1⟩:=aq.mid hm (aq.zT hm hil) (Int.le_refl _);have hx:gj ⟨4,((aS ps m).aH i).aA,((aS ps m).aH i).to,no⟩=true:=by
  simp only[gj];rw[if_neg (by omega),if_pos (by omega)];simp only[zz1,gz];simp only at b1 o1 n1;exact ⟨b1,o1,by omega⟩
 refine ⟨_,uS aq hm (x:=⟨4,((aS ps m).aH i).aA,((aS ps m).aH i).to,no⟩) (by simp) (s' := { aS ps m with all:=(aS ps m).all.set i { (aS ps m).aH i with dQ:=true } }) ?_⟩;have hon:(aS ps m).on ⟨4,((aS ps m).aH i).aA,((aS ps m).aH i).to,no⟩=some i:=by simp[az.on,hi]
 rw[eb,if_pos hx,eE,if_neg (by simp),if_neg (by simp),if_neg (by simp),if_pos rfl,hon];simp only[c,if_false,zz5]
theorem uR:∃ k,(eT (aB ps m)).2=0∧um ps m k (eT (aB ps m)).1∧(eT (aB ps m)).1.j=(aB ps m).j:=by
 obtain ⟨f1,f2,f3⟩:=aq.cv hm;simp only[eT,aq.val m hm];exact ⟨(aB ps m).j.length,trivial,⟨f2,zz9 _,by rw[zv3]⟩,trivial⟩
theorem Oy(eD:Int):∃ k,(ng (aB ps m) eD).2=0∧um ps m k (ng (aB ps m) eD).1:=by
 obtain ⟨f1,f2,f3,f4,f5⟩:=CM (aq.val m hm) eD;simp only[ng,aq.val m hm];exact ⟨(mn (aB ps m) eD).toNat,trivial,by omega,by omega,by rw[Int.toNat_of_nonneg (by omega)]⟩
theorem CQ{r:ca}(hr:kP r (e9 ps))(hto:r.to=m):((fJ (aB ps m) r).2=0∨(fJ (aB ps m) r).2=2)∧((fJ (aB ps m) r).2=0→((fJ (aB ps m) r).1=aB ps m∧eb (aS ps m) (ep r)=none)∨rZ ps m (ep r) (fJ (aB ps m) r).1)∧((aB ps m).j.length<200→(fJ (aB ps m) r).2=0):=by
 have hme:=aq.aE m hm;have hc:¬ (lh r=false∨r.to≠(aB ps m).aE):=by
  rw[hr.ok,hme,hto];rintro (h | h)
  ·cases h
  ·exact h rfl
 simp only[fJ,aq.val m hm,if_neg hc];split
 ·rename_i ht;exact ⟨.inl rfl,fun _=>.inl ⟨rfl,ht⟩,fun _=>rfl⟩
 ·rename_i s' ht;obtain ⟨_,_,f3⟩:=aq.cv hm;rcases Ah (aB ps m) (ep r) with ⟨U,ab⟩ | ⟨U,ab,af⟩
  ·exact ⟨.inr U,fun h=>(by rw[U] at h;cases h),fun h=>(by omega)⟩
  ·refine ⟨.inl U,fun _=>.inr ⟨by omega,af,⟨s',ht⟩,?_⟩,fun _=>U⟩;have:=hr.Zw
   rwa [hto] at this
theorem uQ{to:Int}(ht:cV 0 5 to=true)(hne:to≠m):(gF (aB ps m) to).2=0∧∀ r∈(gF (aB ps m) to).1,kP r (e9 ps)∧r.to=to∧r.fI=m:=by
 have hme:=aq.aE m hm;have hc:¬ (cV 0 5 to=false∨to=(aB ps m).aE):=by
  rw[ht,hme];rintro (h | h)
  ·cases h
  ·exact hne h
 obtain ⟨_,_,s2,hr,hk,_⟩:=x2 (aq.val m hm);simp only[gF,aq.val m hm,if_neg hc,hr,true_and];have J:=EM hr;have hme2:s2.aE=m:=by rw[(nQ (lN _) hr).2.1];exact hme
 have ht2:=gz.1 ht;have hsent:∀ i,i<s2.all.length→(⟨3,(s2.aH i).aA,(s2.aH i).to,(i:Int)+1⟩:aQ)∈gP (aB ps m):=fun i hi=>by
  have e2:s2.aH i=s2.all[i]:=by simp[az.aH,zz2,hi]
  have:lS (s2.aH i)∈lO 3 (gP (aB ps m)):=by rw[J.all,e2];exact List.mem_map_of_mem (zw9 hi)
  rw[lS,J.no i hi] at this;exact (yN.1 this).1
 intro r h;rcases zy8.1 h with h | h
 ·simp only[gA,zy7,zx5] at h;obtain ⟨n,⟨hn,ht'⟩,rfl⟩:=h;have hn:=zZ.1 (List.mem_of_mem_take hn);obtain ⟨i,hi,rfl⟩:=zy7.1 hn;have ei:((i:Int)+1).toNat-1=i:=by omega
  simp only[o8,ei,beq_iff_eq] at ht';have hil:=hk.cN i hi;have hs:=hsent i hil;have hb:=aq.mid hm (kn hs) (Int.le_refl _);simp only at hb;have hcl:=J.call i hil;simp only[nG,ei,hme2];rw[ht'] at hs hcl;refine ⟨⟨?_,fun _=>by simpa[e9] using hs,fun k =>?_,fun k =>?_,fun k =>?_⟩,by first | rfl | trivial,by first | rfl | trivial⟩
  ·simp only[lh,zz1,gz,bne_iff_ne,ne_eq];refine ⟨by split <;>omega,by omega,ht2,fun e=>hne e.symm,hb.1,hb.2.2⟩
  ·simp only at k ⊢;split at k
   ·rename_i c;simpa[e9] using hcl.1 c
   ·cases k
  ·simp only at k;split at k <;>cases k
  ·simp only at k;split at k <;>cases k
 ·simp only[h4,List.mem_flatMap,zy9] at h;obtain ⟨n,hn,h⟩:=h;simp only[lv] at h;split at h
  ·rename_i x hx;have U:=List.mem_of_find?_eq_some hx;have ab:=List.find?_some hx;simp only[decide_eq_true_eq,dF,iY.mk.injEq] at ab;rw[J.bK] at U;simp only[jn,zx5,decide_eq_true_eq] at U;obtain ⟨af,ar⟩:=U;have hb:=aq.mid hm (kn af) (by omega);rw[zy2.1 h];have hx8:∀ k:Int,x.kind=k→(⟨k,x.aA,to,((n+1:Nat):Int)⟩:aQ)∈gP (aB ps m):=fun k hk=>by
    cases x;simp only at hk ab;rw[←hk,←ab.1,←ab.2];exact af
   refine ⟨⟨?_,fun k =>?_,fun k =>?_,fun k =>?_,fun k =>?_⟩,rfl,hme2⟩
   ·simp only[lh,zz1,gz,bne_iff_ne,ne_eq,hme2];refine ⟨by split <;>omega,by omega,ht2,fun e=>hne e.symm,hb.1,by omega⟩
   ·simp only at k;split at k <;>omega
   ·simp only at k;split at k <;>omega
   ·simp only[hme2] at k ⊢;split at k
    ·cases k
    ·rename_i c;exact hx8 7 (by omega)
   ·simp only[hme2] at k ⊢;split at k
    ·rename_i c;exact hx8 8 c
    ·cases k
  ·cases h
end
structure dL where
 ps:List aJ
 rs:List ca
 bs:List Int
structure fC where
 kind:Int
 jz:Int
 aA:Int
 to:Int
 no:Int
 deriving Inhabited
def cL(n m:Int):Int:=(n.tmod m+m).tmod m
theorem iU(n:Int){m:Int}(hm:0<m):0≤cL n m∧cL n m<m:=by
 have U:=Int.lt_tmod_of_pos n hm;exact ⟨Int.tmod_nonneg _ (by omega),Int.tmod_lt_of_pos _ hm⟩
def mA(p:aJ)(m:Int):List ca:=(List.range 6).flatMap fun k:Nat=>if (k:Int)=m then [] else (gF p k).1
def eN(w:dL)(m:Nat)(r:aJ×Int)(rs:List ca)(bs:List Int):dL×Bool:=(⟨if r.2=0 then w.ps.set m r.1 else w.ps,rs,bs⟩,sW r.2)
def bD(x:fC):Nat:=(cL x.jz 6).toNat
def eB(x:fC):Int:=1+cL x.aA 5
def dM(w:dL)(x:fC):dL×Bool :=
 if cL x.kind 10=0 then if eB x∈w.bs then (w,true) else eN w (bD x) (kT (aB w.ps (bD x)) (eB x)) w.rs (if (kT (aB w.ps (bD x)) (eB x)).2=0 then w.bs++[eB x] else w.bs)
 else if cL x.kind 10=1 then if x.no.tmod 3=0 then eN w (bD x) (oQ (aB w.ps (bD x)) (eB x)) w.rs w.bs else (w,true)
 else if cL x.kind 10=2∨cL x.kind 10=3 then eN w (bD x) ((jo (aB w.ps (bD x)) (eB x) (cL x.to 6)).1,(jo (aB w.ps (bD x)) (eB x) (cL x.to 6)).2.2) w.rs w.bs
 else if cL x.kind 10=4 then if (iB (aB w.ps (bD x))).1=[] then (w,true) else
  eN w (bD x) (ot (aB w.ps (bD x)) ((iB (aB w.ps (bD x))).1.getD (cL x.no (iB (aB w.ps (bD x))).1.length).toNat default).no) w.rs w.bs
 else if cL x.kind 10=5 then eN w (bD x) (ng (aB w.ps (bD x)) x.no) w.rs w.bs
 else if cL x.kind 10=6 then eN w (bD x) (eT (aB w.ps (bD x))) (w.rs++mA (eT (aB w.ps (bD x))).1 (bD x)) w.bs
 else if w.rs=[] then (w,true) else
  eN w (w.rs.getD (cL x.no w.rs.length).toNat default).to.toNat (fJ (aB w.ps (w.rs.getD (cL x.no w.rs.length).toNat default).to.toNat) (w.rs.getD (cL x.no w.rs.length).toNat default)) w.rs w.bs
structure gZ (w:dL):Prop where
 du:Whole w.ps
 jC:∀ b,eG w.ps 1 b≤1∧(0<eG w.ps 1 b→b∈w.bs)
 rV:∀ r∈w.rs,kP r (e9 w.ps)
def iz(p:aJ):Nat:=p.j.countP fun x=>decide (x.kind≤4)
def fP(ps:List aJ):Nat:=fE fun m=>iz (aB ps m)
theorem yH(p:aJ)(x:aQ)(aE f:Int):iz ⟨aE,p.j++[x],f⟩=iz p+if x.kind≤4 then 1 else 0:=by
 simp only[iz,List.countP_append,List.countP_cons,List.countP_nil,zz4,decide_eq_true_eq]
section
variable {ps:List aJ} {rs:List ca} {bs:List Int} (aw:gZ ⟨ps,rs,bs⟩) {m:Nat} (hm:m<6)
include aw hm
theorem Ek{x:aQ}{q:aJ}(h:rZ ps m x q)(hk:x.kind≠1):gZ ⟨ps.set m q,rs,bs⟩∧fP (ps.set m q)=fP ps+if x.kind≤4 then 1 else 0:=by
 obtain ⟨U,ab,_⟩:=aw.du.add hm h;refine ⟨⟨U,fun b =>?_,fun r hr=>by rw[ab];exact aw.rV r hr⟩,?_⟩
 ·have:=n5 (show Whole ps from aw.du) hm (fun p=>dz 1 b p.j) q;have af:dz 1 b q.j=dz 1 b (aB ps m).j:=by rw[h.eq];exact e7 hk _
  have ar:=aw.jC b;simp only[eG] at ar ⊢;rw[show fE (fun a=>dz 1 b (aB (ps.set m q) a).j)=fE (fun a=>dz 1 b (aB ps a).j) by omega];exact ar
 ·have:=n5 (show Whole ps from aw.du) hm iz q;rw[h.eq,yH] at this;rw[h.eq];simp only[fP];omega
theorem Ys{x:aQ}{q:aJ}(h:rZ ps m x q)(hk:x.kind=1)(hb:x.aA∉bs):gZ ⟨ps.set m q,rs,bs++[x.aA]⟩∧fP (ps.set m q)=fP ps+1:=by
 obtain ⟨U,ab,_⟩:=aw.du.add hm h;refine ⟨⟨U,fun b =>?_,fun r hr=>by rw[ab];exact aw.rV r hr⟩,?_⟩
 ·have:=n5 (show Whole ps from aw.du) hm (fun p=>dz 1 b p.j) q;have af:dz 1 b q.j=dz 1 b (aB ps m).j+if x.aA=b then 1 else 0:=by rw[h.eq];exact sq hk _
  obtain ⟨ar,h5⟩:=aw.jC b;simp only[eG] at ar h5 ⊢;by_cases e:x.aA=b
  ·rw[if_pos e] at af;have bf:¬ 0<fE (fun a=>dz 1 b (aB ps a).j):=fun h=>hb (e▸h5 h);exact ⟨by omega,fun _=>by simp[e]⟩
  ·rw[if_neg e] at af;exact ⟨by omega,fun h=>zv7 _ (h5 (by omega))⟩
 ·have:=n5 (show Whole ps from aw.du) hm iz q;rw[h.eq,yH,if_pos (by omega)] at this;rw[h.eq];simp only[fP];omega
theorem El{k:Nat}{q:aJ}(h:um ps m k q):gZ ⟨ps.set m q,rs,bs⟩∧fP (ps.set m q)≤fP ps:=by
 obtain ⟨U,ab,_⟩:=aw.du.jU hm h;have hs:q.j.Sublist (aB ps m).j:=by rw[h.eq];exact List.take_sublist _ _
 refine ⟨⟨U,fun b =>?_,fun r hr=>(aw.rV r hr).mono ab⟩,?_⟩
 ·have:=n5 (show Whole ps from aw.du) hm (fun p=>dz 1 b p.j) q;have af:dz 1 b q.j≤dz 1 b (aB ps m).j:=hs.countP_le;obtain ⟨ar,h5⟩:=aw.jC b;simp only[eG] at ar h5 ⊢;exact ⟨by omega,fun h=>h5 (by omega)⟩
 ·have:=n5 (show Whole ps from aw.du) hm iz q;have af:iz q≤iz (aB ps m):=hs.countP_le;simp only[fP];omega
theorem yh{k b:Int}{r:aJ×Int}(h:qA ps m k b r)(hk:2≤k∧k≤4):(eN ⟨ps,rs,bs⟩ m r rs bs).2=true∧gZ (eN ⟨ps,rs,bs⟩ m r rs bs).1∧fP (eN ⟨ps,rs,bs⟩ m r rs bs).1.ps≤fP ps+1:=by
 refine ⟨h.1,?_⟩;simp only[eN];by_cases e:r.2=0
 ·obtain ⟨x,U,_,ab⟩:=h.2 e;obtain ⟨af,ar⟩:=Ek aw hm ab (by omega);rw[if_pos e];exact ⟨af,by rw[ar];split <;>omega⟩
 ·rw[if_neg e];exact ⟨aw,by omega⟩
end
theorem Zp{α:Type}[Inhabited α]{l:List α}{i:Nat}(h:i<l.length):l.getD i default∈l:=by
 rw[zz2,zx3 h];exact zw9 h
theorem AJ{w:dL}(aw:gZ w)(x:fC):(dM w x).2=true∧gZ (dM w x).1∧fP (dM w x).1.ps≤fP w.ps+1:=by
 obtain ⟨ps,rs,bs⟩:=w;have aq:=aw.du;simp only at aq;have hmod:=iU x.jz (m:=6) (by decide);have hm:bD x<6:=by simp only[bD];omega
 have hbm:=iU x.aA (m:=5) (by decide);have hb:cV 1 9999 (eB x)=true:=gz.2 (by simp only[eB];omega);have htm:=iU x.to (m:=6) (by decide);have ht:cV 0 5 (cL x.to 6)=true:=gz.2 (by omega);have same:((⟨ps,rs,bs⟩:dL),true).2=true∧gZ ((⟨ps,rs,bs⟩:dL),true).1∧fP ((⟨ps,rs,bs⟩:dL),true).1.ps≤fP ps+1:=⟨rfl,aw,by simp⟩
 simp only[dM];split
 ·split
  ·exact same
  ·rename_i hnb;have h:=Oz aq hm hb;refine ⟨h.1,?_⟩;simp only[eN];by_cases e:(kT (aB ps (bD x)) (eB x)).2=0
   ·obtain ⟨y,U,ab,af⟩:=h.2 e;obtain ⟨ar,h5⟩:=Ys aw hm af U (by rw[ab];exact hnb);simp only[if_pos e];rw[ab] at ar;exact ⟨ar,by omega⟩
   ·simp only[if_neg e];exact ⟨aw,by omega⟩
 split
 ·split
  ·exact yh aw hm (OA aq hm hb) ⟨by decide,by decide⟩
  ·exact same
 split
 ·exact yh aw hm (OB aq hm hb ht) ⟨by decide,by decide⟩
 split
 ·split
  ·exact same
  ·obtain ⟨b,ah⟩:=Ox aq hm ((iB (aB ps (bD x))).1.getD (cL x.no (iB (aB ps (bD x))).1.length).toNat default).no;exact yh aw hm ah ⟨by decide,by decide⟩
 split
 ·obtain ⟨k,U,ab⟩:=Oy aq hm x.no;obtain ⟨af,ar⟩:=El aw hm ab;simp only[eN,U,if_true];exact ⟨rfl,af,by omega⟩
 split
 ·obtain ⟨k,U,ab,_⟩:=uR aq hm;obtain ⟨af,ar⟩:=El aw hm ab;simp only[eN,U,if_true];refine ⟨rfl,⟨af.du,af.jC,fun r hr =>?_⟩,by omega⟩;rcases zy8.1 hr with hr | hr
  ·exact af.rV r hr
  ·simp only[mA,List.mem_flatMap,zy9] at hr;obtain ⟨k',hk',hr⟩:=hr;split at hr
   ·cases hr
   ·rename_i hne;have hp:aB (ps.set (bD x) (eT (aB ps (bD x))).1) (bD x)=(eT (aB ps (bD x))).1:=by rw[oJ (by rw[aq.len];exact hm),if_pos rfl]
    have:=uQ af.du hm (to:=k') (gz.2 (by omega)) hne;simp only[hp] at this;exact (this.2 r hr).1
 split
 ·exact same
 ·rename_i hne;have hl:0<rs.length:=List.length_pos_iff.2 hne;have hi:=iU x.no (m:=rs.length) (by omega);have hr:=Zp (l:=rs) (i:=(cL x.no rs.length).toNat) (by omega);generalize rs.getD (cL x.no rs.length).toNat default=r at *;have T:=aw.rV r hr;obtain ⟨_,_,ab,_⟩:=pV T.ok;have hm2:r.to.toNat<6:=by omega
  obtain ⟨af,ar,_⟩:=CQ aq hm2 T (by omega);refine ⟨by simp only[eN];rcases af with af | af <;>rw[af] <;>rfl,?_⟩;simp only[eN];by_cases e:(fJ (aB ps r.to.toNat) r).2=0
  ·rw[if_pos e];rcases ar e with ⟨h5,_⟩ | h5
   ·have:ps.set r.to.toNat (aB ps r.to.toNat)=ps:=by
     rw[←lP (by rw[aq.len];exact hm2)];simp
    rw[h5,this];exact ⟨aw,by simp⟩
   ·have hk:(ep r).kind≠1:=by
     have:=(pV T.ok).1;simp only[ep,je]
     (repeat' split) <;>omega
    obtain ⟨h6,h7⟩:=Ek aw hm2 h5 hk;exact ⟨h6,by simp only[h7];split <;>omega⟩
  ·rw[if_neg e];exact ⟨aw,by simp⟩
theorem ZH{α:Type}[DecidableEq α]{l r:List α}(hl:l.Nodup)(hr:r.Nodup)(h:∀ x∈l,x∈r):l.length≤r.length:=by
 have:(r.filter fun x=>decide (x∈l)).Perm l:=(List.perm_ext_iff_of_nodup (hr.filter _) hl).2 fun a=>by
  simp only[zx5,decide_eq_true_eq];exact ⟨fun h=>h.2,fun ha=>⟨h a ha,ha⟩⟩
 rw[←this.length_eq];exact List.length_filter_le _ _
theorem JB{f g:Nat→Nat}(h:∀ m,m<6→f m≤g m):fE f≤fE g:=by
 have bf:=h 0 (by omega);have U:=h 1 (by omega);have ab:=h 2 (by omega);have af:=h 3 (by omega);have ar:=h 4 (by omega);have h5:=h 5 (by omega);simp only[l9];omega
theorem wW{f:Nat→Nat}{m:Nat}(h:m<6):f m≤fE f:=by
 simp only[l9];have:m=0∨m=1∨m=2∨m=3∨m=4∨m=5:=by omega
 rcases this with rfl | rfl | rfl | rfl | rfl | rfl <;>omega
theorem JA{f:Nat→Nat}{m k:Nat}(h:m<6)(ab:k<6)(hne:m≠k):f m+f k≤fE f:=by
 simp only[l9];have q1:m=0∨m=1∨m=2∨m=3∨m=4∨m=5:=by omega
 have q2:k=0∨k=1∨k=2∨k=3∨k=4∨k=5:=by omega
 rcases q1 with rfl | rfl | rfl | rfl | rfl | rfl <;>rcases q2 with rfl | rfl | rfl | rfl | rfl | rfl <;>omega
theorem Y7(j:List aQ)(h:∀ e∈j,gj e=true):j.length=(j.countP fun x=>decide (x.kind≤4))+((gh j).length+(jn j).length):=by
 induction j with
 |nil=>rfl
 |cons x j ih =>
  have hk:=ih fun e he=>h e (List.mem_cons_of_mem _ he);have hx:=h x List.mem_cons_self;have hr:1≤x.kind∧x.kind≤8:=by
   simp only[gj] at hx;split at hx
   ·omega
   ·split at hx
    ·omega
    ·cases hx
  simp only[gh,jn] at hk ⊢;simp only[zw8,List.countP_cons,zw0,decide_eq_true_eq];have:x.kind≤4∨(x.kind=5∨x.kind=6)∨(x.kind=7∨x.kind=8):=by omega
  rcases this with k | k | k
  ·rw[if_pos k,if_neg (by omega),if_neg (by omega)];omega
  ·rw[if_neg (by omega),if_pos k,if_neg (by omega),zw8];omega
  ·rw[if_neg (by omega),if_neg (by omega),if_pos k,zw8];omega
section
variable {ps:List aJ} (aq:Whole ps)
include aq
theorem AN{a:Nat}(ha:a<6):(aS ps a).all.length≤iz (aB ps a):=by
 have J:=aq.fU ha;have:=congrArg List.length J.all;rw[zz8] at this;rw[←this,lO,iz,←zv4];refine List.countP_mono_left fun x _ h =>?_;simp only[decide_eq_true_eq] at h ⊢;omega
theorem Whole.Y3{m:Nat}(hm:m<6):(aB ps m).j.length≤3*fP ps:=by
 have J:=aq.fU hm;have U:=Y7 (aB ps m).j fun e he=>aq.FJ hm he;have ab:(gh (aB ps m).j).length≤(aS ps m).all.length:=by
  have:=J.pD.length_eq;simp only[zz6,zz8,List.length_range] at this;omega
 have af:(jn (aB ps m).j).length≤fE fun a=>(aS ps a).all.length:=by
  have hn:((jn (aB ps m).j).map fun y=>(y.other.toNat,fb y)).Nodup:=by
   have hw:=J.c9;rw[az.c9,J.bK] at hw;have:=List.pairwise_map.1 hw;refine List.pairwise_map.2 (List.Pairwise.imp_of_mem (fun {x y} hx hy hne e=>hne ?_) this);simp only[jn,zx5,decide_eq_true_eq] at hx hy;obtain ⟨_,o1,n1⟩:=aq.mid hm hx.1 (by omega);obtain ⟨_,o2,n2⟩:=aq.mid hm hy.1 (by omega);simp only[fb,Prod.mk.injEq] at e;simp only[dF,iY.mk.injEq];omega
  have hr:((List.range 6).flatMap fun a=>(List.range (aS ps a).all.length).map fun i=>(a,i)).Nodup:=zm List.nodup_range fun a _=>List.nodup_range;have hl:=ZH hn hr (fun k hk =>?_)
  ·rw[zz8,qF] at hl;simpa using hl
  ·obtain ⟨y,hy,rfl⟩:=zy7.1 hk;simp only[jn,zx5,decide_eq_true_eq] at hy;obtain ⟨_,o1,n1⟩:=aq.mid hm hy.1 (by omega);obtain ⟨i,hi,e1,_⟩:=aq.nU (by omega) (kn ((aq.ju m hm y hy.1).lf hy.2));simp only[List.mem_flatMap,zy9,zy7,Prod.mk.injEq];exact ⟨y.other.toNat,by omega,i,hi,rfl,(ru e1).symm⟩
 have ar:(fE fun a=>(aS ps a).all.length)≤fP ps:=JB fun a ha=>AN aq ha;have h5:=AN aq hm;have h6:iz (aB ps m)≤fP ps:=wW (f:=fun m=>iz (aB ps m)) hm;simp only[iz] at h5 h6 U;omega
end
section
variable {ps:List aJ} (aq:Whole ps) (O:uv ps)
include aq O
theorem ZJ{b:Int}{m a i:Nat}(hm:m<6)(ha:a<6)(h:b∈(aS ps m).here)(hi:i∈(aS ps a).aK)(hb:((aS ps a).aH i).aA=b)(ht:il ps a i=false):False:=by
 have U:=(zd aq O b).1;have ab:1≤pd ps b:=by
  have:=wW (f:=fun m=>jx (aS ps m) b) hm;simp only[jx,if_pos h] at this;exact this
 have af:1≤p7 ps b:=by
  have:=wW (f:=fun a=>(aS ps a).aK.countP fun i=>kq ps b a i && !il ps a i) ha;refine zv9 ?_ this;exact List.countP_pos_iff.2 ⟨i,hi,by simp[kq,hb,ht]⟩
 omega
theorem ZK{b:Int}{a i c k:Nat}(ha:a<6)(hc:c<6)(hi:i∈(aS ps a).aK)(hb:((aS ps a).aH i).aA=b)(ht:il ps a i=false)(hk:k∈(aS ps c).aK)(hb2:((aS ps c).aH k).aA=b)(ht2:il ps c k=false)(hne:a≠c):False:=by
 have U:=(zd aq O b).1;have ab:=JA (f:=fun a=>(aS ps a).aK.countP fun i=>kq ps b a i && !il ps a i) ha hc hne;have af:1≤(aS ps a).aK.countP fun i=>kq ps b a i && !il ps a i:=List.countP_pos_iff.2 ⟨i,hi,by simp[kq,hb,ht]⟩;have ar:1≤(aS ps c).aK.countP fun i=>kq ps b c i && !il ps c i:=List.countP_pos_iff.2 ⟨k,hk,by simp[kq,hb2,ht2]⟩;have h5:p7 ps b=fE fun a=>(aS ps a).aK.countP fun i=>kq ps b a i && !il ps a i:=rfl;omega
end
def qD(ps:List aJ)(a i:Nat):Prop:=∃ y∈(aB ps ((aS ps a).aH i).to.toNat).j,(y.kind=7∨y.kind=8)∧y.other=a∧y.no=(i:Int)+1
theorem Ae{ps:List aJ}{a i:Nat}(h:¬ qD ps a i):il ps a i=false:=by
 simp only[il,decide_eq_false_iff_not];exact fun hh=>h ⟨_,hh,.inl rfl,rfl,rfl⟩
structure iC (ps ps':List aJ):Prop where
 j:∀ a,a<6→∀ e∈(aB ps a).j,e∈(aB ps' a).j
 aK:∀ a,a<6→∀ i∈(aS ps' a).aK,i∈(aS ps a).aK
 all:∀ a,a<6→(aS ps' a).all=(aS ps a).all
 cv:e9 ps'=e9 ps
theorem iC.rfl'(ps:List aJ):iC ps ps:=⟨fun _ _ _ h=>h,fun _ _ _ h=>h,fun _ _=>rfl,rfl⟩
theorem iC.trans{a b c:List aJ}(h:iC a b)(k:iC b c):iC a c:=⟨fun m hm e he=>k.j m hm e (h.j m hm e he),fun m hm i hi=>h.aK m hm i (k.aK m hm i hi),fun m hm=>(k.all m hm).trans (h.all m hm),k.cv.trans h.cv⟩
theorem iC.aH{ps ps':List aJ}(h:iC ps ps'){a:Nat}(ha:a<6)(i:Nat):(aS ps' a).aH i=(aS ps a).aH i:=p6 (h.all a ha) i
theorem iC.known{ps ps':List aJ}(h:iC ps ps'){a i:Nat}(ha:a<6)(ht:((aS ps a).aH i).to.toNat<6)(hk:qD ps a i):qD ps' a i:=by
 obtain ⟨y,hy,U⟩:=hk;exact ⟨y,by rw[h.aH ha];exact h.j _ ht y hy,U⟩
def gQ(ps:List aJ)(r:ca):List aJ:=ps.set r.to.toNat (fJ (aB ps r.to.toNat) r).1
structure eU (ps:List aJ):Prop where
 du:Whole ps
 jC:∀ b,eG ps 1 b≤1
 sB:fP ps≤60
theorem yj{ps:List aJ}(aY:eU ps){r:ca}(T:kP r (e9 ps)):(fJ (aB ps r.to.toNat) r).2=0∧eU (gQ ps r)∧iC ps (gQ ps r) ∧
  (∀ s',eb (aS ps r.to.toNat) (ep r)=some s'→aS (gQ ps r) r.to.toNat=s'∧ep r∈(aB (gQ ps r) r.to.toNat).j)∧(∀ b,eG (gQ ps r) 1 b=eG ps 1 b):=by
 have aq:=aY.du;obtain ⟨hk,_,hto,_⟩:=pV T.ok;have hm:r.to.toNat<6:=by omega
 have hl:r.to.toNat<ps.length:=by rw[aq.len];exact hm
 have hlen:=aq.Y3 hm;have hfew:=aY.sB;obtain ⟨_,ab,af⟩:=CQ aq hm T (by omega);have he:=af (by omega);refine ⟨he,?_⟩;rcases ab he with ⟨ar,h5⟩ | ar
 ·have:gQ ps r=ps:=by
   rw[gQ,ar,←lP hl];simp
  rw[this];exact ⟨aY,iC.rfl' ps,fun s' hs=>(by rw[h5] at hs;cases hs),fun _=>rfl⟩
 ·have hkd:5≤(ep r).kind∧(ep r).kind≤8:=by
   simp only[ep,je]
   (repeat' split) <;>omega
  have hW:gQ ps r=ps.set r.to.toNat (fJ (aB ps r.to.toNat) r).1:=rfl;obtain ⟨h5,h6,h7⟩:=aq.add hm ar;have hp:=oJ hl (fJ (aB ps r.to.toNat) r).1;have hc:∀ b,eG (gQ ps r) 1 b=eG ps 1 b:=fun b=>by
   have:=n5 aq hm (fun p=>dz 1 b p.j) (fJ (aB ps r.to.toNat) r).1;have h8:dz 1 b (fJ (aB ps r.to.toNat) r).1.j=dz 1 b (aB ps r.to.toNat).j:=by rw[ar.eq];exact e7 (by omega) _
   simp only[eG,hW];omega
  have hb:fP (gQ ps r)=fP ps:=by
   have:=n5 aq hm iz (fJ (aB ps r.to.toNat) r).1;have h8:iz (fJ (aB ps r.to.toNat) r).1=iz (aB ps r.to.toNat):=by rw[ar.eq,yH,if_neg (by omega),Nat.add_zero]
   simp only[fP,hW];omega
  have hst:∀ a,a≠r.to.toNat→aS (gQ ps r) a=aS ps a:=fun a ha=>by simp only[aS,hW,hp a,if_neg ha]
  refine ⟨⟨h5,fun b=>by rw[hc];exact aY.jC b,by rw[hb];exact hfew⟩,⟨fun a ha e he' =>?_,fun a ha i hi =>?_,fun a ha =>?_,h6⟩,fun s' hs =>?_,hc⟩
  ·rw[hW,hp a];split
   ·rename_i e2;subst e2;rw[ar.eq];exact zv7 _ he'
   ·exact he'
  ·by_cases e2:a=r.to.toNat
   ·subst e2;rw[hW] at hi;have hstep:=Ab (wD h7).2;revert hi;generalize aS (ps.set r.to.toNat (fJ (aB ps r.to.toNat) r).1) r.to.toNat=s' at hstep;intro hi;cases hstep with
    |done k m hm' _ _ _=>exact zv0 hi
    |gL k m hm' _ _ _ _=>exact zv0 hi
    |take=>exact hi
    |ref=>exact hi
    |_=>omega
   ·rw[hst a e2] at hi;exact hi
  ·by_cases e2:a=r.to.toNat
   ·subst e2;rw[hW];have hstep:=Ab (wD h7).2;generalize aS (ps.set r.to.toNat (fJ (aB ps r.to.toNat) r).1) r.to.toNat=s' at hstep;cases hstep with
    |nT=>omega
    |call=>omega
    |_=>rfl
   ·rw[hst a e2]
  ·rw[←hW] at h7;rw[h7] at hs;refine ⟨Option.some.inj hs,?_⟩;rw[hW,hp,if_pos rfl,ar.eq];exact List.mem_append_right _ (zy2.2 rfl)
def iK(ps:List aJ)(l:List ca):List aJ:=l.foldl gQ ps
theorem sN:∀ (l:List ca) {ps:List aJ},eU ps→(∀ r∈l,kP r (e9 ps))→eU (iK ps l)∧iC ps (iK ps l)∧∀ b,eG (iK ps l) 1 b=eG ps 1 b
 | [],ps,aY,_=>⟨aY,iC.rfl' ps,fun _=>rfl⟩
 |r::l,ps,aY,T=>by
  obtain ⟨_,ab,af,_,h5⟩:=yj aY (T r List.mem_cons_self);obtain ⟨k1,k2,k3⟩:=sN l ab fun q hq=>by rw[af.cv];exact T q (List.mem_cons_of_mem _ hq)
  exact ⟨k1,af.trans k2,fun b=>(k3 b).trans (h5 b)⟩
def rU(ps:List aJ)(m:Nat):List aJ:=ps.set m (eT (aB ps m)).1
def h0(ps:List aJ)(n:Nat):List aJ:=(List.range n).foldl rU ps
def gE(ps:List aJ)(n:Nat):List ca:=(List.range n).flatMap fun m=>mA (eT (aB ps m)).1 m
theorem H8(ps:List aJ)(n:Nat):h0 ps (n+1)=rU (h0 ps n) n:=by simp[h0,List.range_succ]
theorem FU(ps:List aJ)(n:Nat):gE ps (n+1)=gE ps n++mA (eT (aB ps n)).1 n:=by simp[gE,List.range_succ]
structure JC (ps:List aJ) (n:Nat) (q:List aJ):Prop where
 oA:eU q
 AX:∀ m,m<6→aB q m=if m<n then ⟨(aB ps m).aE,(aB ps m).j,(aB ps m).j.length⟩ else aB ps m
 dz:∀ b,eG q 1 b=eG ps 1 b
theorem lB{ps:List aJ}(aY:eU ps):∀ n,n≤6→JC ps n (h0 ps n)
 |0,_=>⟨aY,fun m _=>by rw[if_neg (by omega)];rfl,fun _=>rfl⟩
 |n+1,h=>by
  obtain ⟨F1,ab,af⟩:=lB aY n (by omega);have aq:=F1.du;have hn:n<6:=by omega
  have hl:n<(h0 ps n).length:=by rw[aq.len];exact hn
  obtain ⟨k,k1,k2,k3⟩:=uR aq hn;obtain ⟨k4,k5,_⟩:=aq.jU hn k2;have hs:(eT (aB (h0 ps n) n)).1=⟨(aB ps n).aE,(aB ps n).j,(aB ps n).j.length⟩:=by
   have ar:=ab n hn;rw[if_neg (by omega)] at ar;have h5:=aq.val n hn;rw[ar] at h5 ⊢;simp only[eT,h5]
  have hp:=oJ hl (eT (aB (h0 ps n) n)).1;rw[H8];have hc:∀ (f:aJ→Nat),(∀ p q:aJ,p.j=q.j→f p=f q)→fE (fun m=>f (aB (rU (h0 ps n) n) m))=fE fun m=>f (aB (h0 ps n) m):=fun f hf=>by
   have:=n5 aq hn f (eT (aB (h0 ps n) n)).1;have h8:=hf _ _ k3;rw[rU];omega
  refine ⟨⟨k4,fun b =>?_,?_⟩,fun m hm =>?_,fun b =>?_⟩
  ·have:=hc (fun p=>Go.Proofs.YthbdbocionnfgaaDoor.dz 1 b p.j) fun p q e=>by simp only[e]
   have h9:=F1.jC b;simp only[eG] at h9 ⊢;omega
  ·have:=hc iz fun p q e=>by simp only[iz,e]
   have h9:=F1.sB;simp only[fP] at h9 ⊢;omega
  ·rw[rU,hp m,hs];by_cases e:m=n
   ·subst e;rw[if_pos rfl,if_pos (by omega)]
   ·rw[if_neg e,ab m hm];by_cases e2:m<n
    ·rw[if_pos e2,if_pos (by omega)]
    ·rw[if_neg e2,if_neg (by omega)]
  ·have:=hc (fun p=>Go.Proofs.YthbdbocionnfgaaDoor.dz 1 b p.j) fun p q e=>by simp only[e]
   have h9:=af b;simp only[eG] at h9 ⊢;omega
def fi(ps:List aJ):List aJ:=h0 ps 6
def j2(ps:List aJ):List ca:=gE ps 6
def ij(ps:List aJ):List aJ:=iK (fi ps) (j2 ps)
theorem n7{ps:List aJ}(aY:eU ps){m:Nat}(hm:m<6):aB (fi ps) m=⟨(aB ps m).aE,(aB ps m).j,(aB ps m).j.length⟩∧(eT (aB ps m)).1=aB (fi ps) m∧aS (fi ps) m=aS ps m∧e9 (fi ps) m=(aB ps m).j:=by
 have U:=(lB aY 6 (by omega)).AX m hm;rw[if_pos hm] at U;have ab:(eT (aB ps m)).1=⟨(aB ps m).aE,(aB ps m).j,(aB ps m).j.length⟩:=by simp only[eT,aY.du.val m hm]
 have ho:=(lB aY 6 (by omega)).oA.du.val m hm;refine ⟨U,ab.trans U.symm,?_,?_⟩
 ·have af:=aY.du.val m hm;have e1:=(fe ho).2.2.2.2.2;have e2:=(fe af).2.2.2.2.2;have h1':aB (h0 ps 6) m=⟨(aB ps m).aE,(aB ps m).j,(aB ps m).j.length⟩:=U;rw[h1'] at e1;simp only at e1;rw[e2] at e1;exact (Option.some.inj e1).symm
 ·simp only[e9,fi,U,gP,Int.toNat_natCast,zv3]
theorem yO{ps:List aJ}(aY:eU ps){r:ca} : r∈j2 ps↔∃ m,m<6∧∃ k:Nat,k<6∧k≠m∧r∈(gF (aB (fi ps) m) k).1:=by
 simp only[j2,gE,List.mem_flatMap,zy9,mA];constructor
 ·rintro ⟨m,hm,k,hk,h⟩;split at h
  ·cases h
  ·rename_i hne;rw[(n7 aY hm).2.1] at h;exact ⟨m,hm,k,hk,fun e=>hne (by rw[e]),h⟩
 ·rintro ⟨m,hm,k,hk,hne,h⟩;refine ⟨m,hm,k,hk,?_⟩;rw[if_neg (by omega),(n7 aY hm).2.1];exact h
theorem tx{ps:List aJ}(aY:eU ps):∀ r∈j2 ps,kP r (e9 (fi ps)):=by
 intro r hr;obtain ⟨m,hm,k,hk,hne,h⟩:=(yO aY).1 hr;exact ((uQ (lB aY 6 (by omega)).oA.du hm (to:=k) (gz.2 (by omega)) (by omega)).2 r h).1
theorem qh{ps:List aJ}(aY:eU ps):eU (ij ps)∧iC (fi ps) (ij ps)∧∀ b,eG (ij ps) 1 b=eG ps 1 b:=by
 obtain ⟨U,ab,af⟩:=sN (j2 ps) (lB aY 6 (by omega)).oA (tx aY);exact ⟨U,ab,fun b=>(af b).trans ((lB aY 6 (by omega)).dz b)⟩
theorem Fu{ps:List aJ}(aY:eU ps){r:ca}(hr:r∈j2 ps):∃ v,eU v∧iC (fi ps) v∧iC v (gQ v r)∧iC (gQ v r) (ij ps)∧eU (gQ v r)∧(∀ s',eb (aS v r.to.toNat) (ep r)=some s'→aS (gQ v r) r.to.toNat=s'∧ep r∈(aB (gQ v r) r.to.toNat).j):=by
 obtain ⟨l1,l2,e⟩:=List.append_of_mem hr;have T:=tx aY;have F1:eU (fi ps):=(lB aY 6 (by omega)).oA;obtain ⟨U,ab,_⟩:=sN l1 F1 fun q hq=>T q (by rw[e];exact zv7 _ hq);obtain ⟨_,k2,k3,k4,_⟩:=yj U (r:=r) (by rw[ab.cv];exact T r hr);obtain ⟨_,m2,_⟩:=sN l2 k2 fun q hq=>by rw[k3.cv,ab.cv];exact T q (by rw[e];exact List.mem_append_right _ (List.mem_cons_of_mem _ hq))
 refine ⟨_,U,ab,k3,?_,k2,k4⟩;have:ij ps=iK (gQ (iK (fi ps) l1) r) l2:=by
  simp only[ij,e,iK,List.foldl_append,List.foldl_cons]
 rw[this];exact m2
theorem aaw{s:az}{i:Nat}{x:aQ}(hi:i∈s.aK)(hn:x.no=(i:Int)+1)(ht:(s.aH i).to=x.other)(hb:(s.aH i).aA=x.aA):s.on x=some i:=by
 have ha:s.at x.no=some i:=by
  simp only[az.at,hn];have hs:(s.aK.find? fun j:Nat=>decide ((i:Int)+1=(j:Int)+1)).isSome=true:=by
   rw[List.find?_isSome];exact ⟨i,hi,by simp⟩
  obtain ⟨k,hk⟩:=zx4.1 hs;have:=List.find?_some hk;simp only[decide_eq_true_eq] at this;have:k=i:=by omega
  rw[hk,this]
 simp only[az.on,ha,ht,hb,and_self,if_true]
theorem YR{ps:List aJ}(aY:eU ps){a i:Nat}(ha:a<6)(hi:i<(aS ps a).all.length){y:aQ}(hy:y∈(aB ps ((aS ps a).aH i).to.toNat).j)(hk:y.kind=7∨y.kind=8)(ho:y.other=a)(hn:y.no=(i:Int)+1) :
  (⟨if y.kind=8 then 4 else 2,((aS ps a).aH i).to,a,y.aA,y.no⟩:ca)∈j2 ps∧y.aA=((aS ps a).aH i).aA:=by
 have aq:=aY.du;obtain ⟨t1,t2,t3⟩:=aq.o9 ha hi;have hm:((aS ps a).aH i).to.toNat<6:=by omega
 obtain ⟨_,_,n1⟩:=aq.mid hm hy (by omega);have hs:=kn ((aq.ju _ hm y hy).lf hk);rw[ho] at hs;obtain ⟨i',_,e1,e2,_⟩:=aq.nU (by omega) hs;have:i'=i:=by omega
 subst this;refine ⟨(yO aY).2 ⟨_,hm,a,ha,by omega,?_⟩,e2.symm⟩;have F1:eU (fi ps):=(lB aY 6 (by omega)).oA;obtain ⟨s1,s2,s3,s4⟩:=n7 aY hm;have hme:(aB (fi ps) ((aS ps a).aH i').to.toNat).aE=((aS ps a).aH i').to:=by rw[F1.du.aE _ hm];omega
 have hfl:gP (aB (fi ps) ((aS ps a).aH i').to.toNat)=(aB (fi ps) ((aS ps a).aH i').to.toNat).j:=by
  have:gP (aB (fi ps) ((aS ps a).aH i').to.toNat)=(aB ps ((aS ps a).aH i').to.toNat).j:=s4;rw[this,s1]
 have ho2:=F1.du.val _ hm;have hrd:=(fe ho2).2.2.2.2.2;have hsm:=F1.du.nY hm;have hc:¬ (cV 0 5 (a:Int)=false∨(a:Int)=(aB (fi ps) ((aS ps a).aH i').to.toNat).aE):=by
  rw[hme,show cV 0 5 (a:Int)=true from gz.2 (by omega)];rintro (h | h)
  ·cases h
  ·exact t3 h.symm
 simp only[gF,ho2,if_neg hc,hfl,hrd];refine List.mem_append_right _ ?_;simp only[h4,List.mem_flatMap,zy9];refine ⟨i',by omega,?_⟩;have hsn:y∈(aS (fi ps) ((aS ps a).aH i').to.toNat).bK:=by rw[s3];exact (aq.bK hm).2 ⟨hy,hk⟩
 have hw:dF y=⟨(a:Int),((i'+1:Nat):Int)⟩:=by simp only[dF,ho,hn];rfl
 simp only[lv];cases hf:(aS (fi ps) ((aS ps a).aH i').to.toNat).bK.find? fun x=>decide (dF x=⟨(a:Int),((i'+1:Nat):Int)⟩) with
 |none =>
  have:=List.find?_eq_none.1 hf y hsn;simp[hw] at this
 |some x =>
  have U:=List.mem_of_find?_eq_some hf;have ab:=List.find?_some hf;simp only[decide_eq_true_eq] at ab;rw[s3] at U;obtain ⟨af,ar⟩:=(aq.bK hm).1 U;have h5:dF x=dF y:=ab.trans hw.symm;simp only[dF,iY.mk.injEq] at h5;have:=aq.jC hm af ar hy hk h5.1 h5.2;subst this;refine zy2.2 ?_;rw[hsm,hn,Int.toNat_of_nonneg t1];rfl
theorem tQ{ps:List aJ}(aY:eU ps){a i:Nat}(ha:a<6)(h:i∈(aS (ij ps) a).aK):i∈(aS ps a).aK∧¬ qD ps a i:=by
 obtain ⟨_,ay,_⟩:=qh aY;have hl:=ay.aK a ha i h;have hst:=(n7 aY ha).2.2.1;rw[hst] at hl;refine ⟨hl,?_⟩;rintro ⟨y,hy,hk,ho,hn⟩;have aq:=aY.du;have hil:=(aq.fU ha).ok.cN i hl;obtain ⟨t1,t2,t3⟩:=aq.o9 ha hil;have hm:((aS ps a).aH i).to.toNat<6:=by omega
 obtain ⟨hr,hb⟩:=YR aY ha hil hy hk ho hn;obtain ⟨v,v1,v2,v3,v4,v5,v6⟩:=Fu aY hr;have hat:((a:Int)).toNat=a:=Int.toNat_natCast a;simp only[hat] at v3 v4 v5 v6;have hlv:i∈(aS v a).aK:=v3.aK a ha i (v4.aK a ha i h);have hrat:(aS v a).aH i=(aS ps a).aH i:=by rw[v2.aH ha,p6 (by rw[hst])]
 have hgone:i∉(aS (gQ v ⟨if y.kind=8 then 4 else 2,((aS ps a).aH i).to,a,y.aA,y.no⟩) a).aK:=by
  have hokr:lh ⟨if y.kind=8 then 4 else 2,((aS ps a).aH i).to,a,y.aA,y.no⟩=true:=(tx aY _ hr).ok;have hj:=EK hokr;have hon:∀ k:Int,(aS v a).on ⟨k,y.aA,((aS ps a).aH i).to,y.no⟩=some i:=fun k=>aaw hlv hn (by rw[hrat]) (by rw[hrat,hb]);have hnd:=(v1.du.fU ha).ok.kz;rcases hk with k7 | k8
  ·have e:ep ⟨if y.kind=8 then 4 else 2,((aS ps a).aH i).to,a,y.aA,y.no⟩=⟨5,y.aA,((aS ps a).aH i).to,y.no⟩:=by simp[ep,je,k7]
   have ht:eb (aS v a) (ep ⟨if y.kind=8 then 4 else 2,((aS ps a).aH i).to,a,y.aA,y.no⟩)=some { aS v a with aK:=(aS v a).aK.erase i } :=by
    rw[eb,if_pos hj,e,eE,if_neg (by simp),if_neg (by simp),if_neg (by simp),if_neg (by simp),if_pos rfl,hon]
   rw[(v6 _ ht).1];exact fun hh=>(hnd.mem_erase_iff.1 hh).1 rfl
  ·have e:ep ⟨if y.kind=8 then 4 else 2,((aS ps a).aH i).to,a,y.aA,y.no⟩=⟨6,y.aA,((aS ps a).aH i).to,y.no⟩:=by simp[ep,je,k8]
   have hcl:((aS v a).aH i).dQ=true:=by
    rw[hrat];have hc4:=kn ((aq.ju _ hm y hy).kv k8);rw[ho,hat,hn,hb,Int.toNat_of_nonneg t1] at hc4;exact ((aq.fU ha).call i hil).2 hc4
   have ht:eb (aS v a) (ep ⟨if y.kind=8 then 4 else 2,((aS ps a).aH i).to,a,y.aA,y.no⟩)=some { aS v a with aK:=(aS v a).aK.erase i,here:=gb (aS v a).here y.aA } :=by
    rw[eb,if_pos hj,e,eE,if_neg (by simp),if_neg (by simp),if_neg (by simp),if_neg (by simp),if_neg (by simp),if_pos rfl,hon];simp only[hcl,if_true]
   rw[(v6 _ ht).1];exact fun hh=>(hnd.mem_erase_iff.1 hh).1 rfl
 exact hgone (v4.aK a ha i h)
theorem Y9{ps:List aJ}(aY:eU ps){a i:Nat}(ha:a<6)(hi:i∈(aS ps a).aK):(⟨if ((aS ps a).aH i).dQ then 3 else 1,a,((aS ps a).aH i).to,((aS ps a).aH i).aA,(i:Int)+1⟩:ca)∈j2 ps:=by
 have aq:=aY.du;have hil:=(aq.fU ha).ok.cN i hi;obtain ⟨t1,t2,t3⟩:=aq.o9 ha hil;refine (yO aY).2 ⟨a,ha,((aS ps a).aH i).to.toNat,by omega,by omega,?_⟩;have F1:eU (fi ps):=(lB aY 6 (by omega)).oA;obtain ⟨s1,s2,s3,s4⟩:=n7 aY ha;have hme:(aB (fi ps) a).aE=a:=F1.du.aE _ ha;have hfl:gP (aB (fi ps) a)=(aB (fi ps) a).j:=by
  have:gP (aB (fi ps) a)=(aB ps a).j:=s4;rw[this,s1]
 have ho2:=F1.du.val _ ha;have hrd:=(fe ho2).2.2.2.2.2;have hsm:=F1.du.nY ha;rw[Int.toNat_of_nonneg t1];have hc:¬ (cV 0 5 ((aS ps a).aH i).to=false∨((aS ps a).aH i).to=(aB (fi ps) a).aE):=by
  rw[hme,show cV 0 5 ((aS ps a).aH i).to=true from gz.2 (by omega)];rintro (h | h)
  ·cases h
  ·exact t3 h
 simp only[gF,ho2,if_neg hc,hfl,hrd];refine zv7 _ ?_;simp only[gA,zy7,zx5];have ei:((i:Int)+1).toNat-1=i:=by omega
 refine ⟨(i:Int)+1,⟨?_,?_⟩,?_⟩
 ·rw[zv3];refine zZ.2 ?_;rw[s3];exact zy7.2 ⟨i,hi,rfl⟩
 ·simp[o8,s3]
 ·simp only[nG,ei,s3];rw[aq.nY ha]
theorem abB{ps:List aJ}(aY:eU ps){a i:Nat}(ha:a<6)(hi:i∈(aS ps a).aK)(h:¬ qD (ij ps) a i):∃ k,k∈(aS ps ((aS ps a).aH i).to.toNat).aK∧((aS ps ((aS ps a).aH i).to.toNat).aH k).aA=((aS ps a).aH i).aA:=by
 have aq:=aY.du;have hil:=(aq.fU ha).ok.cN i hi;obtain ⟨t1,t2,t3⟩:=aq.o9 ha hil;have hm:((aS ps a).aH i).to.toNat<6:=by omega
 have hr:=Y9 aY ha hi;obtain ⟨v,v1,v2,v3,v4,v5,v6⟩:=Fu aY hr;simp only at v3 v4 v5 v6;have hst:=(n7 aY ha).2.2.1;have hstm:=(n7 aY hm).2.2.1;have hrat:(aS v a).aH i=(aS ps a).aH i:=by rw[v2.aH ha,p6 (by rw[hst])]
 have hrat1:(aS (gQ v ⟨if ((aS ps a).aH i).dQ then 3 else 1,a,((aS ps a).aH i).to,((aS ps a).aH i).aA,(i:Int)+1⟩) a).aH i=(aS ps a).aH i:=by rw[v3.aH ha,hrat]
 have hkv:¬ qD v a i:=fun hk=>h (v4.known ha (by rw[hrat1];exact hm) (v3.known ha (by rw[hrat];exact hm) hk));have hnt:∀ s',eb (aS v ((aS ps a).aH i).to.toNat) (ep ⟨if ((aS ps a).aH i).dQ then 3 else 1,a,((aS ps a).aH i).to,((aS ps a).aH i).aA,(i:Int)+1⟩)≠some s':=fun s' hs=>by
  obtain ⟨_,ab⟩:=v6 s' hs;refine h (v4.known ha (by rw[hrat1];exact hm) ⟨_,by rw[hrat1];exact ab,?_,rfl,rfl⟩);simp only[ep];split <;>simp[je]
 have hj:=EK (tx aY _ hr).ok;have IV:=v1.du;have hunk:∀ k:Int,(aS v ((aS ps a).aH i).to.toNat).unknown ⟨k,((aS ps a).aH i).aA,a,(i:Int)+1⟩=true:=fun k=>by
  simp only[az.unknown,zz1,bne_iff_ne,ne_eq,Bool.not_eq_true',decide_eq_false_iff_not,IV.nY hm];refine ⟨by omega,fun hw=>hkv ?_⟩;obtain ⟨y,hy,e⟩:=zy7.1 hw;obtain ⟨af,ar⟩:=(IV.bK hm).1 hy;simp only[dF,iY.mk.injEq] at e;exact ⟨y,by rw[hrat];exact af,ar,e.1,e.2⟩
 have hlv:i∈(aS v a).aK:=Classical.byContradiction fun hn=>by
  have J:=IV.fU ha;have hil2:i<(aS v a).all.length:=by rw[v2.all a ha,hst];exact hil
  have hmem:=(J.pD.mem_iff).2 (zy9.2 hil2);rcases zy8.1 hmem with hmem | hmem
  ·exact hn hmem
  ·obtain ⟨e,he,rfl⟩:=zy7.1 hmem;obtain ⟨e1,e2,e3⟩:=J.uW e he;simp only[gh,zx5,decide_eq_true_eq] at he;have hto:((aS v a).aH (fb e)).to.toNat=e.other.toNat:=by rw[e3]
   rcases he.2 with k | k
   ·exact hkv ⟨⟨7,e.aA,a,e.no⟩,by rw[hto];exact kn ((IV.ju a ha e he.1).yV k),.inl rfl,rfl,e1⟩
   ·exact hkv ⟨⟨8,e.aA,a,e.no⟩,by rw[hto];exact kn ((IV.ju a ha e he.1).yW k),.inr rfl,rfl,e1⟩
 rcases hc:((aS ps a).aH i).dQ
 ·have e:ep ⟨if ((aS ps a).aH i).dQ then 3 else 1,a,((aS ps a).aH i).to,((aS ps a).aH i).aA,(i:Int)+1⟩=⟨7,((aS ps a).aH i).aA,a,(i:Int)+1⟩:=by simp[ep,je,hc]
  rw[e] at hnt hj;by_cases hh:((aS ps a).aH i).aA∈(aS v ((aS ps a).aH i).to.toNat).here
  ·exact (ZJ IV v1.jC hm ha hh hlv (by rw[hrat]) (Ae hkv)).elim
  ·rcases hrd:(aS v ((aS ps a).aH i).to.toNat).fx ((aS ps a).aH i).aA
   ·exact absurd (by
     rw[eb,if_pos hj,eE,if_neg (by simp),if_neg (by simp),if_neg (by simp),if_neg (by simp),if_neg (by simp),if_neg (by simp),if_pos rfl,if_pos ⟨hunk 7,hh,hrd⟩]) (hnt _)
   ·obtain ⟨k,hk,hb⟩:=aby hrd;have hk2:=v2.aK _ hm k hk;rw[hstm] at hk2;refine ⟨k,hk2,?_⟩;rw[v2.aH hm,p6 (by rw[hstm])] at hb;exact hb
 ·have e:ep ⟨if ((aS ps a).aH i).dQ then 3 else 1,a,((aS ps a).aH i).to,((aS ps a).aH i).aA,(i:Int)+1⟩=⟨8,((aS ps a).aH i).aA,a,(i:Int)+1⟩:=by simp[ep,je,hc]
  rw[e] at hnt hj;exact absurd (by
   rw[eb,if_pos hj,eE,if_neg (by simp),if_neg (by simp),if_neg (by simp),if_neg (by simp),if_neg (by simp),if_neg (by simp),if_neg (by simp),if_pos rfl,if_pos (hunk 8)]) (hnt _)
theorem acr{ps:List aJ}(aY:eU ps){a:Nat}(ha:a<6):(aS (ij (ij (ij ps))) a).aK=[]:=by
 refine List.eq_nil_iff_forall_not_mem.2 fun i h =>?_;obtain ⟨F1,E1,_⟩:=qh aY;obtain ⟨F2,E2,_⟩:=qh F1;obtain ⟨l2,k2⟩:=tQ F2 ha h;obtain ⟨l1,k1⟩:=tQ F1 ha l2;obtain ⟨l0,k0⟩:=tQ aY ha l1;obtain ⟨c,hc,hb⟩:=abB F1 ha l1 k2;have aq:=aY.du;have hil:=(aq.fU ha).ok.cN i l0;obtain ⟨t1,t2,t3⟩:=aq.o9 ha hil;have lr:(aS (ij ps) a).aH i=(aS ps a).aH i:=by rw[E1.aH ha,p6 (by rw[(n7 aY ha).2.2.1])]
 rw[lr] at hc hb;have hm:((aS ps a).aH i).to.toNat<6:=by omega
 obtain ⟨m0,n0⟩:=tQ aY hm hc;have jH:(aS (ij ps) ((aS ps a).aH i).to.toNat).aH c=(aS ps ((aS ps a).aH i).to.toNat).aH c:=by rw[E1.aH hm,p6 (by rw[(n7 aY hm).2.2.1])]
 rw[jH] at hb;exact ZK aq aY.jC ha hm l0 rfl (Ae k0) m0 hb (Ae n0) (by omega)
theorem PH{ps:List aJ}(aY:eU ps){a:Nat}(ha:a<6):(aS (ij (ij (ij (ij ps)))) a).aK=[]:=by
 refine List.eq_nil_iff_forall_not_mem.2 fun i h =>?_;have F1:=(qh aY).1;have F2:=(qh F1).1;have IJ:=(qh F2).1;have:=(tQ IJ ha h).1;rw[acr aY ha] at this;cases this
end Go.Proofs.YthbdbocionnfgaaDoor
namespace Go.Proofs.YthbdbocionnfgaaDoor
open Go Go.Abs
open Go.Abs.Enc (enc)
def xL:aJ:=⟨0,[],0⟩
def xM:aJ:=⟨0,[⟨1,7,0,0⟩],0⟩
def xN:aJ:=⟨0,[⟨1,7,0,0⟩],1⟩
def pE:aJ:=⟨0,[⟨1,7,0,0⟩,⟨3,7,1,1⟩],1⟩
def pF:aJ:=⟨0,[⟨1,7,0,0⟩,⟨3,7,1,1⟩],2⟩
def xO:aJ:=⟨0,[⟨1,7,0,0⟩,⟨3,7,1,1⟩,⟨5,7,1,1⟩],2⟩
def xP:aJ:=⟨1,[],0⟩
def sx:aJ:=⟨1,[⟨7,7,0,1⟩],0⟩
def xQ:aJ:=⟨1,[⟨7,7,0,1⟩],1⟩
def rf:ca:=⟨1,0,1,7,1⟩
def rh:ca:=⟨2,1,0,7,1⟩
def xR:fF:=⟨⟨#[112,111,117,110,100,32,48,32,49,10,112,111,117,110,100,32,55,10,115,101,110,100,32,55,32,49,32,49,10]⟩⟩
theorem O6:my 0=(xL,0):=by decide +kernel
theorem Pg:my 1=(xP,0):=by decide +kernel
theorem O8:kT xL 7=(xM,0):=by decide +kernel
theorem O9:eT xM=(xN,0):=by decide +kernel
theorem Pa:jo xN 7 1=(pE,⟨1,1,7,false⟩,0):=by decide +kernel
theorem Pb:gF pE 1=([],0):=by decide +kernel
theorem Pc:vX pE=(xR,0):=by decide +kernel
theorem Pd:eT pE=(pF,0):=by decide +kernel
theorem Pe:gF pF 1=([rf],0):=by decide +kernel
theorem Ph:fJ xP rf=(sx,0):=by decide +kernel
theorem Pm:pf [pF,sx] 7=([1],0):=by decide +kernel
theorem Pj:eT sx=(xQ,0):=by decide +kernel
theorem Pk:gF xQ 0=([rh],0):=by decide +kernel
theorem Pf:fJ pF rh=(xO,0):=by decide +kernel
theorem O7:iB xO=([],0):=by decide +kernel
theorem KC(a b c d:Int):(ef [.int .i64 0,.int .i64 0,.int .i64 0,.int .i64 0,.int .i64 0] [(0,.int .i64 a),(2,.int .i64 b),(3,.int .i64 c),(4,.int .i64 d)]).map I.agg=some (enc (⟨a,0,b,c,d⟩:ca)):=by simp[ef,I.bV,I.size];rfl
theorem KD(a b c d:Int):(ef [.int .i64 0,.int .i64 0,.int .i64 0,.int .i64 0,.int .i64 0] [(0,.int .i64 a),(1,.int .i64 b),(3,.int .i64 c),(4,.int .i64 d)]).map I.agg=some (enc (⟨a,b,0,c,d⟩:ca)):=by simp[ef,I.bV,I.size];rfl
theorem KG(r:ca):gx 5 (some [enc r])=some (enc [r]):=lE 5 r rfl
theorem KK(a b:aJ):gx 3 (some [enc a,enc b])=some (enc [a,b]):=sg (ys:=[a,b]) 3 rfl
theorem O1(s:fF)(b:ByteArray)(h:s.b=b):cF .eql (enc s) (.bT b)=some (.bool true):=by
 subst h
 show cF .eql (.bT s.b) (.bT s.b)=_
 simp[cF]
theorem Jb:bp Tryd.prog 6 [] (enc true):=by
 have U:=wO 0;have ab:=wO 1;have af:=Ak xL 7;have ar:=r1 xM;have h5:=wP xN 7 1;have h6:=r2 pE 1;have h7:=IC pE;have h8:=r1 pE;have h9:=r2 pF 1;have h10:=uo xP rf;have h11:=Al [pF,sx] 7;have h12:=r1 sx;have h13:=r2 xQ 0;have h14:=uo pF rh;have h15:=wS xO;rw[O6] at U;rw[Pg] at ab;rw[O8] at af;rw[O9] at ar;rw[Pa] at h5;rw[Pb] at h6;rw[Pc] at h7;rw[Pd] at h8;rw[Pe] at h9;rw[Ph] at h10;rw[Pm] at h11;rw[Pj] at h12;rw[Pk] at h13;rw[Pf] at h14;rw[O7] at h15;simp only at U ab af ar h5 h6 h7 h8 h9 h10 h11 h12 h13 h14 h15;have h16:=Am [rf] [rf];have h17:=Am [rh] [rh];have h18:=ID [1] [1];rw[decide_eq_true rfl] at h16 h17 h18;refine bp.cw Tryd.func6 Ls Mo Nu (t7 rfl) (fun hwf W0 D0 E1 =>?_);simp only[BS,GU,bS];clear hwf;have q3:((0:Int)==0)=true:=rfl;have hst:∀ A n b rest x y z w (q:dG),da A (some 4) n [] b (enc q) rest (some (.agg [.int .i64 x,.int .i64 y,.int .i64 z,.bool w]))=aC rest (A.aZ n (.box (enc q))):=fun A n b rest x y z w q=>o5.1 A n b rest q x y z w;have hst2:∀ A n b rest (q:ca) x y z w u,da A (some 5) n [] b (enc q) rest (some (.agg [.int .i64 x,.int .i64 y,.int .i64 z,.int .i64 w,.int .i64 u]))=aC rest (A.aZ n (.box (enc q))):=fun A n b rest q x y z w u=>oZ.1 A n b rest q x y z w u;have eO:(⟨1,0,1,7,1⟩:ca)=rf:=rfl;have eR:(⟨2,1,0,7,1⟩:ca)=rh:=rfl;have hR:=O0 ⟨1,1,7,false⟩ ⟨1,1,7,false⟩;rw[decide_eq_true rfl] at hR;have hS:cF .eql (enc xR) (.bT ⟨#[112,111,117,110,100,32,48,32,49,10,112,111,117,110,100,32,55,10,115,101,110,100,32,55,32,49,32,49,10]⟩)=some (.bool true):=O1 xR _ rfl;have hL:∀ α:Type,((([]:List α).length:Nat):Int)=0:=fun _=>rfl;have R:=y6 @q3 (y6 @hL (y6 @hst (y6 @hst2 (y6 @KC (y6 @KD (y6 @eO (y6 @eR (y6 @xa (y6 @KG (y6 @KK (y6 @Bc (y6 @hR (y6 @hS (y6 @bA (y6 @bq (y6 @bM (y6 @bz (y6 @bw aI))))))))))))))))))
 repeat' ((first |(with_reducible refine .guard (fun hb =>?_) (fun hb =>?_) <;>try simp only[hb])|refine ae.aM (by decide +kernel) rfl fun K hK =>?_|refine .lead _ (U) ?_|refine .lead _ (ab) ?_|refine .lead _ (af) ?_|refine .lead _ (ar) ?_|refine .lead _ (h5) ?_|refine .lead _ (h6) ?_|refine .lead _ (h7) ?_|refine .lead _ (h8) ?_|refine .lead _ (h9) ?_|refine .lead _ (h10) ?_|refine .lead _ (h11) ?_|refine .lead _ (h12) ?_|refine .lead _ (h13) ?_|refine .lead _ (h14) ?_|refine .lead _ (h15) ?_|refine .flat _ (h16) rfl ?_|refine .flat _ (h17) rfl ?_|refine .flat _ (h18) rfl ?_|(refine .aD [0,1,2,3,4,5,6,7,8,9,10,11,12,13,14,15,16,17,18,19,20,21,22,23,24,25,26] hK ?_;clear hK K)|(with_reducible refine .done (hK _ ?_);clear hK K)|refine ae.of rfl ?_|(with_reducible refine aF.aL (fun h =>?_) (fun h =>?_) <;>try simp only[h])) <;>try simp only[aN,R,simprocAttr])
 all_goals clear R
instance:Enc fC where
 enc g:=.agg [.int .i64 g.kind,.int .i64 g.jz,.int .i64 g.aA,.int .i64 g.to,.int .i64 g.no]
 sz:=5
 bh:=.eS [.one,.one,.one,.one,.one]
 iL:=true
 done g:=by simp only[I.done,I.gf,Bool.and_self]
 size g:=by simp only[I.size,I.sizes]
 jM g:=by simp only[I.bh,I.cZ]
 agg _:=rfl
def db(v r b:I):I:=.agg [v,r,b]
instance:Enc dL where
 enc w:=db (enc w.ps) (enc w.rs) (enc w.bs)
 sz:=3
 bh:=.eS [.one,.one,.one]
 iL:=true
 done w:=by simp only[db,I.done,I.gf,Enc.done,Bool.and_self]
 size w:=by simp only[db,I.size,I.sizes,uU,sv]
 jM w:=by simp only[db,I.bh,I.cZ,ff,xG]
 agg _:=rfl
def eZ(v:I):Prop:=v.bV=true∧cn none v=true∧v.bh=.one∧v.size=1
theorem cO{α:Type}[Enc α](l:List α):eZ (enc l):=⟨eH _,by simp[su,sr],(ff l).trans xG,by rw[uU,sv]⟩
theorem fM(n:Nat)(p:List Nat)(z lo k:Nat):eZ (.view n p z lo k):=⟨rfl,rfl,rfl,rfl⟩
theorem pW(n:Nat):eZ (.nils n):=⟨rfl,rfl,rfl,rfl⟩
theorem vJ(n k:Nat):eZ (.own n k):=⟨rfl,rfl,rfl,rfl⟩
theorem Ih{v r b:I}(hv:eZ v)(hr:eZ r)(hb:eZ b):(db v r b).bh=.eS [.one,.one,.one]:=by simp only[db,I.bh,I.cZ,hv.2.2.1,hr.2.2.1,hb.2.2.1]
theorem Ig{v r b:I}(hv:eZ v)(hr:eZ r)(hb:eZ b):cn (some 3) (db v r b)=true:=by simp[cn,db,I.isAgg,I.size,I.sizes,hv.2.2.2,hr.2.2.2,hb.2.2.2]
theorem iP{v r b:I}(hv:eZ v)(hr:eZ r)(hb:eZ b) :
  (db v r b).dW=some [v,r,b]∧(db v r b).bV=true∧cn (some 3) (db v r b)=true∧cn none v=true∧cn none r=true∧cn none b=true ∧
  (∀ u,dX [v,r,b] 0 0 u=some u)∧(∀ u,dX [v,r,b] 1 1 u=some u)∧(∀ u,dX [v,r,b] 2 2 u=some u) :=
 ⟨rfl,rfl,Ig hv hr hb,hv.2.1,hr.2.1,hb.2.1,fun _=>nx (by simp) (by simp[I.sizes]),fun _=>nx (by simp) (by simp[I.sizes,hv.2.2.2]),fun _=>nx (by simp) (by simp[I.sizes,hv.2.2.2,hr.2.2.2])⟩
theorem acF{v r b v2 jH b2:I}(hv:eZ v)(hr:eZ r)(hb:eZ b)(hv2:eZ v2)(hr2:eZ jH)(hb2:eZ b2)(A:ai)(n:Nat)(c:I)(rest:List aw):da A (some 3) n [] c (db v r b) rest (some (db v2 jH b2))=aC rest (A.aZ n (.box (db v r b))):=by
 rw[dU rfl (Ig hv hr hb) ((Ih hv hr hb).trans (Ih hv2 hr2 hb2).symm),rT]
theorem Ag{v r b u:I}(hv:eZ v)(hu:eZ u)(A:ai)(n:Nat)(rest:List aw):da A none n [0] (db v r b) u rest (some v)=aC rest (A.aZ n (.box (db u r b))):=by
 rw[dU hu.1 hu.2.1 (hu.2.2.1.trans hv.2.2.1.symm)];rfl
theorem acG{v r b u:I}(hv:eZ r)(hu:eZ u)(A:ai)(n:Nat)(rest:List aw):da A none n [1] (db v r b) u rest (some r)=aC rest (A.aZ n (.box (db v u b))):=by
 rw[dU hu.1 hu.2.1 (hu.2.2.1.trans hv.2.2.1.symm)];rfl
theorem acH{v r b u:I}(hv:eZ b)(hu:eZ u)(A:ai)(n:Nat)(rest:List aw):da A none n [2] (db v r b) u rest (some b)=aC rest (A.aZ n (.box (db v r u))):=by
 rw[dU hu.1 hu.2.1 (hu.2.2.1.trans hv.2.2.1.symm)];rfl
theorem uV(w:dL):(enc w:I)=db (enc w.ps) (enc w.rs) (enc w.bs):=rfl
theorem kN{v r b:I}(hv:eZ v)(hr:eZ r)(hb:eZ b)(A:ai)(n:Nat)(c:I)(rest:List aw):da A (some 3) n [] c (db v r b) rest (some (.agg [.nils 3,.nils 5,.nils 1]))=aC rest (A.aZ n (.box (db v r b))) :=
 acF hv hr hb (pW 3) (pW 5) (pW 1) A n c rest
theorem sD{v r b:I}{A:ai}{ps:List aJ}{rs:List ca}{bs:List Int}(U:br true A v=some (enc ps))(ab:br true A r=some (enc rs))(af:br true A b=some (enc bs)):br true A (db v r b)=some (enc (⟨ps,rs,bs⟩:dL)):=by
 simp only[db,br,bZ,U,ab,af];rfl
theorem dj:(∀ g:fC,(enc g).dW=some [.int .i64 g.kind,.int .i64 g.jz,.int .i64 g.aA,.int .i64 g.to,.int .i64 g.no])∧(∀ g:fC,cn (some 5) (enc g)=true)∧(∀ g:dL,cn (some 3) (enc g)=true):=⟨fun _=>rfl,fun _=>by rw[fH];rfl,fun _=>by rw[fH];rfl⟩
def p0:I:=.agg [.int .i64 0,.nils 4,.int .i64 0]
def fy(ps:List aJ)(q:Nat):I:=.agg (ps.map enc++List.replicate q p0)
theorem fX(ps:List aJ)(q:Nat):(fy ps q).dW=some (ps.map enc++List.replicate q p0):=rfl
theorem gG(p:Nat→Bool)(ps:List aJ)(q:Nat):(fy ps q).only p=true:=by
 simp only[fy,I.only,gT,dZ,Bool.true_and]
 induction q with
 |zero=>rfl
 |succ q ih=>simp only[List.replicate_succ,I.bQ,ih,Bool.and_true];rfl
theorem kQ{ps:List aJ}{q i:Nat}(h:i<ps.length):oo i [] (some (ps.map enc++List.replicate q p0))=some (enc (aB ps i)):=by
 simp only[oo,zx0 (show i<(ps.map (enc (α:=aJ))).length by simpa using h),zx7,zx3 h,zy6,qO,I.at,lP h]
theorem lY{ps:List aJ}{q i:Nat}(h:i<ps.length)(A:ai)(n:Nat)(v u:aJ)(rest:List aw):da A (some 3) n [i] (fy ps q) (enc v) rest (some (enc u))=aC rest (A.aZ n (.box (fy (ps.set i v) q))):=by
 rw[dU (eH v) (by rw[fH];rfl) ((ff v).trans (ff u).symm)];have ab:(ps.map (enc (α:=aJ))++List.replicate q p0)[i]?=some (enc ps[i]):=by
  rw[zx0 (by simpa using h)];simp[h]
 simp only[fy,I.eF,ab,List.map_set];rw[List.set_append_left _ _ (by simpa using h)]
theorem kV{n k i:Nat}(h:i<k)(fs:List I):nr n [] 3 0 k 3 (i:Int) (some fs)=some (.ptr n [i]):=by
 have:=EC (m:=n) (sz:=3) (lo:=0) (l:=k) (i:=i) (fs:=fs) h
 rwa [zz4] at this
theorem Pv{ps:List aJ}{q k:Nat}(h:k=ps.length):km 3 0 k (some (ps.map enc++List.replicate q p0))=some (enc ps):=by
 subst h;have ab:((ps.map (enc (α:=aJ))++List.replicate q p0).drop 0).take ps.length=ps.map enc:=by
  rw[List.drop_zero,List.take_append_of_le_length (by simp),List.take_of_length_le (by simp)]
 simp only[km,ab,ja,if_true,iR];rfl
theorem u5{ps:List aJ}{q k n:Nat}(h:k=ps.length){A:ai}(hA:A.o n=some (.box (fy ps q))):br true A (.view n [] 3 0 k)=some (enc ps):=by
 rw[u6,hA];exact Pv h
theorem acv(n:Int){m:Int}(hm:0<m):-m<n.tmod m∧n.tmod m<m:=⟨Int.lt_tmod_of_pos n hm,Int.tmod_lt_of_pos n hm⟩
theorem j8(n m:Int)(U:0<m)(ab:m≤1000000000000):bp Tryd.prog 26 [enc n,enc m] (enc (cL n m)):=by
 refine bp.cw Tryd.func26 K0 LW MX (t7 rfl) (fun hwf W0 D0 E1 =>?_);simp only[Br,Gr,bS,zz4];clear hwf;have hm:=acv n U;have bf:∀ x:Option I,(if m=0 then none else x)=x:=fun x=>if_neg (by omega);have hw:IntKind.i64.wrap (n.tmod m+m)=n.tmod m+m:=jR _ (by omega) (by omega);have R:=y6 @bf (y6 @hw aI)
 repeat' ((first |(with_reducible refine .guard (fun hb =>?_) (fun hb =>?_) <;>try simp only[hb])|refine ae.aM (by decide +kernel) rfl fun K hK =>?_|(refine .aD [0,1,4] hK ?_;clear hK K)|(with_reducible refine .done (hK _ ?_);clear hK K)|refine ae.of rfl ?_|(with_reducible refine aF.aL (fun h =>?_) (fun h =>?_) <;>try simp only[h])) <;>try simp only[aN,R,simprocAttr])
 all_goals clear R
 all_goals rfl
theorem YQ(e:Int):sW e=(e==0||(e==2||(e==92||(e==93||(e==94||e==90))))):=rfl
theorem oa(e:Int):bp Tryd.prog 31 [enc e] (enc (sW e)):=by
 refine bp.cw Tryd.func31 K5 L1 M3 (t7 rfl) (fun hwf W0 D0 E1 =>?_);simp only[Bx,Gw,bS];clear hwf;rw[YQ];rcases U:(e==0) <;>rcases ab:(e==2) <;>rcases af:(e==92) <;>rcases ar:(e==93) <;>rcases h5:(e==94)
 all_goals
  have R:=y6 @U (y6 @ab (y6 @af (y6 @ar (y6 @h5 aI))))
  repeat' ((first |(with_reducible refine .guard (fun hb =>?_) (fun hb =>?_) <;>try simp only[hb])|refine ae.aM (by decide +kernel) rfl fun K hK =>?_|(refine .aD [0,2] hK ?_;clear hK K)|(with_reducible refine .done (hK _ ?_);clear hK K)|refine ae.of rfl ?_|(with_reducible refine aF.aL (fun h =>?_) (fun h =>?_) <;>try simp only[h])) <;>try simp only[aN,R,simprocAttr])
  all_goals clear R
theorem IG(l:List Int)(n:Int):bp Tryd.prog 27 [enc l,enc n] (enc (decide (n∈l))):=by
 refine bp.cw Tryd.func27 K1 LX MY (t7 rfl) (fun hwf W0 D0 E1 =>?_);simp only[Bt,Gs,bS,zz4];have hlen:l.length≤maxLen:=((qz l).1 hwf.1).1;simp only[maxLen] at hlen;clear hwf;have R:=y6 @bq aI
 repeat' ((first |(with_reducible refine .guard (fun hb =>?_) (fun hb =>?_) <;>try simp only[hb])|refine ae.aM (by decide +kernel) rfl fun K hK =>?_|(refine .aD [0,1,4,6,7,8,9,10,15] hK ?_;clear hK K)|(with_reducible refine .done (hK _ ?_);clear hK K)|refine ae.of rfl ?_|(with_reducible refine aF.aL (fun h =>?_) (fun h =>?_) <;>try simp only[h])) <;>try simp only[aN,R,simprocAttr])
 all_goals clear R
 refine ae.loop (fun i:Nat=>au [(1,.int .i64 n),(7,enc l),(8,.int .i64 l.length),(9,.int .i64 i)] []) (fun i=>i≤l.length∧n∉l.take i) (fun i=>l.length-i) 0 ⟨zw5 _,by simp⟩ ?_ (fun i hi =>?_)
 ·refine bn.cB ?_ ?_ ?_ ?_ <;>simp[bX,cA,b6,b8,b9,I.only,b7]
 obtain ⟨hi1,hi2⟩:=hi;by_cases hlt:i<l.length
 ·have hc:=hX hlt;have he:=fun A=>fT (A:=A) 1 hlt rfl;have hw:=fj (i:=i) (by omega);rcases hp:(l[i]==n)
  ·have R:=y6 @hc (y6 @he (y6 @hp (y6 @hw aI)))
   repeat' ((first |(with_reducible refine .guard (fun hb =>?_) (fun hb =>?_) <;>try simp only[hb])|refine ae.aM (by decide +kernel) rfl fun K hK =>?_|(refine .aD [0,1,4,6,7,8,9,10,15] hK ?_;clear hK K)|(with_reducible refine .done (hK _ ?_);clear hK K)|refine ae.of rfl ?_|(with_reducible refine aF.aL (fun h =>?_) (fun h =>?_) <;>try simp only[h])) <;>try simp only[aN,R,simprocAttr])
   all_goals clear R
   refine ⟨i+1,⟨by omega,?_⟩,by omega,?_⟩
   ·rw[zy3 hlt];have:¬ l[i]=n:=by simpa using hp
    simp only[zy8,zy2];exact fun h=>h.elim hi2 fun e=>this e.symm
   ·refine bn.cB ?_ ?_ ?_ ?_ <;>simp[bX,cA,b6,b8,b9,I.only,b7]
  ·have hm:n∈l:=by
    have:l[i]=n:=by simpa using hp
    rw[←this];exact zw9 hlt
   have R:=y6 @hc (y6 @he (y6 @hp aI))
   repeat' ((first |(with_reducible refine .guard (fun hb =>?_) (fun hb =>?_) <;>try simp only[hb])|refine ae.aM (by decide +kernel) rfl fun K hK =>?_|(refine .aD [0,1,4,6,7,8,9,10,15] hK ?_;clear hK K)|(with_reducible refine .done (hK _ ?_);clear hK K)|refine ae.of rfl ?_|(with_reducible refine aF.aL (fun h =>?_) (fun h =>?_) <;>try simp only[h])) <;>try simp only[aN,R,simprocAttr])
   all_goals clear R
   simp[hm]
 ·have hc:=hJ hlt;have hge:i=l.length:=by omega
  have R:=y6 @hc aI
  repeat' ((first |(with_reducible refine .guard (fun hb =>?_) (fun hb =>?_) <;>try simp only[hb])|refine ae.aM (by decide +kernel) rfl fun K hK =>?_|(refine .aD [0,1,4,6,7,8,9,10,15] hK ?_;clear hK K)|(with_reducible refine .done (hK _ ?_);clear hK K)|refine ae.of rfl ?_|(with_reducible refine aF.aL (fun h =>?_) (fun h =>?_) <;>try simp only[h])) <;>try simp only[aN,R,simprocAttr])
  all_goals clear R
  rw[hge,zv3] at hi2;simp[hi2]
end Go.Proofs.YthbdbocionnfgaaDoor
namespace Go.Abs
open Go Go.RowKit Go.ChangeShapes
open Enc (enc)
theorem YW{P:Program}{f:FuncId}{fn:Func}{s:ChangeSpec}{H:Type}{enc0:TypeId×Value→H}{W:World}{ds gs:List (DataW H)}{before:List MemPlace}{xs:List I}{tb:TypeId}{v0:Value}{t0:TypeId}{d0:DataW H}{gl:List MemPlace}{again handsOn lK:Bool}
  (hl:laidOutB P=true) (hpar:fn.params.toList=[t0]) (hds:ds=[d0]) (hgs:gs=[]) (hbef:before=gl)
  (hvars:s.vars=[]) (hfn:s.fn H [d0] = { results:=[.lit (.bool true)],args:=[d0] }) (hres:fn.resultTypes = #[tb]) (htb:P.underlying tb=some .bool)
  (hW:DataW.Whole enc0 P fn.params.toList s.vars false W #[v0].toList ds gs before)
  (bf:DataW.Trod enc0 P W 0 (fun _=>true) true t0 v0 d0 gl)
  (hr:∀ t∈[t0],P.readableRec t=true∧t<P.types.size)
  (hctr:bp P f xs (enc true)) (hlaid:iD P W (fun _=>False)) (hv:aO W (oj W) E0 xs [v0]) :
  Calls P f #[v0] W fun e W'=>∃ v,e=.returned v∧s.post enc0 P fn false lK handsOn again W #[v0] v W':=by
 subst hds hgs;refine (hctr.2 W (oj W) [v0] hlaid (fun _ _ h=>h) hv).mono fun e W' ⟨v,D',he,hrv,hb,_,_⟩=>⟨v,he,?_⟩
 have hvb:v=.bool true:=lU hrv;subst hvb;have hlt:∀ x∈before,x.block<W.heap.size:=fun x hx=>by simpa using hW.lt x hx
 rw[hbef] at hlt;refine aaP (pa:=gl++[]) (pv:=[]) hW (fun _ _ _ =>?_) (fun sp hsp =>?_) (fun _ _ =>?_) (by rw[hbef];simp) hb ?_
 ·simp only[zy1,hfn,hres];exact trodAll_mk1 (shut_bool htb true)
 ·simp only[zy1,hfn,hpar];rw[hbef] at hsp;have bm:∀ {t:TypeId} {v:Value} {d:DataW H} {p:List MemPlace},t∈[t0]→DataW.Trod enc0 P W 0 (fun _=>true) true t v d p→(∀ x∈p,x∈gl)→DataW.Trod enc0 P W' 0 sp true t v d p:=fun ht h hp =>
   WideElems.Trod_stays hl (hr _ ht).1 (hr _ ht).2 h (fun x hx=>hb.same (hlt x (hp x hx))) (fun x hx=>hsp x (hp x hx))
  exact trodAll_mk1 (bm (by simp) bf fun x hx=>by simp[hx])
 ·simp only[zy1,hfn,hvars];rfl
 ·intro j t r hj hv';rw[hres] at hj hv'
  match j,hj,hv' with
  |0,hj,hv' =>
   simp[Value.resultList] at hj hv';subst hj;subst hv';simp[Value.okWide,htb,Cell.okWide,Cell.ok]
end Go.Abs
namespace Go.Proofs.YthbdbocionnfgaaDoor
open Go Go.Abs Go.ChangeShapes Go.WideShapes Go.RowKit
open Go.Abs.Enc (enc)
theorem Tryd.own:ownKnob Tryd.prog.godebug=none:=by kernel_rfl
theorem Tryd.YU:laidOutB Tryd.prog=true:=by kernel_rfl
theorem tm:mW Tryd.prog 3 Int:=aaA (by kernel_rfl) (by kernel_rfl)
theorem ZL:mW Tryd.prog 43 fC:=⟨by kernel_rfl,by decide,fun h=>by
 obtain ⟨vs,hv,hr⟩:=aaC [(3,0),(3,1),(3,2),(3,3),(3,4)]
  [(1,fun v=>∃ a:Int,v=enc a),(1,fun v=>∃ a:Int,v=enc a),(1,fun v=>∃ a:Int,v=enc a),(1,fun v=>∃ a:Int,v=enc a),(1,fun v=>∃ a:Int,v=enc a)]
  (by kernel_rfl) (by simp only[tn];exact ⟨trivial,tm.bo,trivial,tm.bo,trivial,tm.bo,trivial,tm.bo,trivial,tm.bo,trivial⟩) (by kernel_rfl) h
 obtain ⟨v0,vs0,e0,bf,hv0⟩:=r8 hv;obtain ⟨a0,f0⟩:∃ a:Int,v0=enc a:=bf;obtain ⟨v1,vs1,e1,U,hv1⟩:=r8 hv0;obtain ⟨a1,f1⟩:∃ a:Int,v1=enc a:=U;obtain ⟨v2,vs2,e2,ab,hv2⟩:=r8 hv1;obtain ⟨a2,f2⟩:∃ a:Int,v2=enc a:=ab;obtain ⟨v3,vs3,e3,af,hv3⟩:=r8 hv2;obtain ⟨a3,f3⟩:∃ a:Int,v3=enc a:=af;obtain ⟨v4,vs4,e4,ar,hv4⟩:=r8 hv3;obtain ⟨a4,f4⟩:∃ a:Int,v4=enc a:=ar;have e5:=JP hv4;rw[e0,e1,e2,e3,e4,e5,f0,f1,f2,f3,f4] at hr;exact ⟨⟨a0,a1,a2,a3,a4⟩,hr⟩⟩
theorem ZM:mW Tryd.prog 22 (List fC):=aaB (by kernel_rfl) ZL (by kernel_rfl)
theorem abG{w:World}{D:aX}{E:bj}{x:I}{a:Value}(hx:∃ cs,bI x a cs∧ao w D E x cs):aO w D E [x] [a]:=by
 obtain ⟨c1,U,ab⟩:=hx;simp only[aO];exact ⟨a,[],c1,rfl,U,ab,rfl⟩
def rv : List (String × DataW Unit) := [("math/bits.deBruijn32tab", Rows.laid_math_bits_deBruijn32tab), ("math/bits.deBruijn64tab", Rows.laid_math_bits_deBruijn64tab), ("internal/strconv.uint64pow10", Rows.laid_internal_strconv_uint64pow10)]
def Iq:List Int:=[1,10,100,1000,10000,100000,1000000,10000000,100000000,1000000000,10000000000,100000000000,1000000000000,10000000000000,100000000000000,1000000000000000,10000000000000000,100000000000000000,1000000000000000000,10000000000000000000]
theorem Xy : Tryd.prog.globalNamed "internal/strconv.uint64pow10" = some 0 := by kernel_rfl
theorem aco:(Tryd.prog.globals[0]?).map (·.type)=some 151:=by kernel_rfl
theorem aas{W:World}(h:laidMetH Tryd.prog rv W):iD Tryd.prog W (fun _=>False):=by
 rw[MakeChecks.laidMetH_plain _ _ _ (by kernel_rfl)] at h;obtain ⟨g', t', cs, fuel, p, hg', ht', hvar, ah⟩ := Lib.laidMet.reads h (n := "internal/strconv.uint64pow10") (d := Rows.laid_internal_strconv_uint64pow10) (by simp [rv])
 obtain rfl:=Option.some.inj (Xy.symm.trans hg');obtain rfl:=Option.some.inj (aco.symm.trans ht');have hd':DataW.trod (fun _=>()) Tryd.prog W 0 (fun _=>true) false fuel 151 cs.toList=some (Lib.tabData .u64 Iq,p):=ah;have hc:=Lib.cells_of_tab (n:=20) (e:=133) (YC (by kernel_rfl)) (by kernel_rfl) (by kernel_rfl) (by kernel_rfl) hd';intro g hg;refine ⟨id,?_⟩
 show W.var? Tryd.prog "internal/strconv.uint64pow10" = _
 rw[hvar];have:cs=(Iq.map fun z=>Value.int .u64 z).toArray:=by rw[←hc]
 rw[this];rfl
end Go.Proofs.YthbdbocionnfgaaDoor
namespace Go.Proofs.YthbdbocionnfgaaDoor
open Go Go.Abs
open Go.Abs.Enc (enc)
theorem acw(l:List aQ)(b:Int):(l.filter fun x => !(x.aA != b))=l.filter fun x=>x.aA==b:=by
 congr 1;funext x;simp[bne]
def mQ(p:aJ)(b:Int):List aQ×Int:=match cP p with
 |none=>([],91)
 |some _=>if cV 1 9999 b=true then (p.j.filter fun x=>x.aA==b,0) else ([],1)
theorem IF(p:aJ)(b:Int):bp Tryd.prog 23 [enc p,enc b] (.tuple [enc (mQ p b).1,enc (mQ p b).2]):=by
 refine bp.cw Tryd.func23 KY LU MV (t7 rfl) (fun hwf W0 D0 E1 =>?_);simp only[Bp,Gp,bS,zz4];clear hwf;have hF1:=r5 p;have hB:=ph b;have hv:∀ k n,(I.int k n).bV=true:=fun _ _=>rfl;simp only[pB] at hF1;cases ho:cP p with
 |none =>
  rw[ho] at hF1;rw[show mQ p b=([],91) by simp only[mQ,ho]];have R:=y6 @hv (y6 @bA (y6 @bq aI))
  repeat' ((first |(with_reducible refine .guard (fun hb =>?_) (fun hb =>?_) <;>try simp only[hb])|refine ae.aM (by decide +kernel) rfl fun K hK =>?_|refine .flat _ (hF1) rfl ?_|(refine .aD [0,1,2,3,4,5,6,10,14] hK ?_;clear hK K)|(with_reducible refine .done (hK _ ?_);clear hK K)|refine ae.of rfl ?_|(with_reducible refine aF.aL (fun h =>?_) (fun h =>?_) <;>try simp only[h])) <;>try simp only[aN,R,simprocAttr])
  all_goals clear R
  all_goals rfl
 |some s =>
 rw[ho] at hF1
 dsimp only at hF1
 rcases q1:cV 1 9999 b
 ·rw[q1] at hB;rw[show mQ p b=([],1) by simp only[mQ,ho,q1];rfl];have R:=y6 @hv (y6 @bA (y6 @bq aI))
  repeat' ((first |(with_reducible refine .guard (fun hb =>?_) (fun hb =>?_) <;>try simp only[hb])|refine ae.aM (by decide +kernel) rfl fun K hK =>?_|refine .flat _ (hF1) rfl ?_|refine .flat _ (hB) rfl ?_|(refine .aD [0,1,2,3,4,5,6,10,14] hK ?_;clear hK K)|(with_reducible refine .done (hK _ ?_);clear hK K)|refine ae.of rfl ?_|(with_reducible refine aF.aL (fun h =>?_) (fun h =>?_) <;>try simp only[h])) <;>try simp only[aN,R,simprocAttr])
  all_goals clear R
  all_goals rfl
 rw[q1] at hB;rw[show mQ p b=(p.j.filter fun x=>x.aA==b,0) by simp only[mQ,ho,q1];rfl];have hl:=(fe ho).2.2.2.1;have hall:([I.ptr 3 []].all fun y=>y.bV)=true:=rfl;have hfe:∀ A,bZ false A [enc p.j]=some [enc p.j]:=fun A=>by simp only[bZ,lJ]
 have ah:I.gf [.ref (enc b)]=true:=by simp[I.gf,I.done,kR]
 have R:=y6 @hall (y6 @hv (y6 @bA (y6 @bq aI)))
 repeat' ((first |(with_reducible refine .guard (fun hb =>?_) (fun hb =>?_) <;>try simp only[hb])|refine ae.aM (by decide +kernel) rfl fun K hK =>?_|refine .flat _ (hF1) rfl ?_|refine .flat _ (hB) rfl ?_|refine aW.CC (by omega) rfl (hfe _) rfl (fun v os' hcj =>?_)|(refine .aD [0,1,2,3,4,5,6,10,14] hK ?_;clear hK K)|(with_reducible refine .done (hK _ ?_);clear hK K)|refine ae.of rfl ?_|(with_reducible refine aF.aL (fun h =>?_) (fun h =>?_) <;>try simp only[h])) <;>try simp only[aN,R,zz3,simprocAttr])
 all_goals clear R
 have hF3:bp Tryd.prog 48 [enc ([]:List aQ),.func 50 [.ref (enc b)]] (enc ([]:List aQ)):=IZ [.ref (enc b)] ah;rcases hcj with ⟨hz,hv2,rfl⟩ | ⟨hne,m,rfl,rfl⟩
 ·rw[hz];have hfin:∀ aR A,br aR A (.nils 4)=some (enc ([]:List aQ))∧br aR A (.c0 4)=some (enc ([]:List aQ)):=fun aR A=>⟨by simp only[br];rfl,by simp only[br];rfl⟩
  rcases hv2 with rfl | rfl
  ·have R:=y6 @hall (y6 @hv (y6 @bA (y6 @bq aI)))
   repeat' ((first |(with_reducible refine .guard (fun hb =>?_) (fun hb =>?_) <;>try simp only[hb])|refine ae.aM (by decide +kernel) rfl fun K hK =>?_|(refine .aD [0,1,2,3,4,5,6,10,14] hK ?_;clear hK K)|(with_reducible refine .done (hK _ ?_);clear hK K)|refine ae.of rfl ?_|(with_reducible refine aF.aL (fun h =>?_) (fun h =>?_) <;>try simp only[h])) <;>try simp only[aN,R,zz3,zy5,simprocAttr])
   all_goals clear R
   refine .jv [3] (enc ([]:List aQ)) rfl hF3 ?_ ?_ ?_
   ·try simp only[kW,zw0,List.filter_nil,List.contains_cons,Nat.reduceBEq,Bool.true_or,BEq.rfl,hfin,bL,simprocAttr]
   ·simp[dY,b8,ak.only,b7]
   ·try simp only[jX,dY,zw0,List.filter_nil,List.contains_cons,Nat.reduceBEq,Bool.true_or,BEq.rfl,zz7,zx8,bL,simprocAttr]
    have R:=y6 @hv (y6 @bA (y6 @bq aI))
    repeat' ((first |(with_reducible refine .guard (fun hb =>?_) (fun hb =>?_) <;>try simp only[hb])|refine ae.aM (by decide +kernel) rfl fun K hK =>?_|(refine .aD [0,1,2,3,4,5,6,10,14] hK ?_;clear hK K)|(with_reducible refine .done (hK _ ?_);clear hK K)|refine ae.of rfl ?_|(with_reducible refine aF.aL (fun h =>?_) (fun h =>?_) <;>try simp only[h])) <;>try simp only[aN,R,simprocAttr])
    all_goals clear R
    rw[hz];rfl
  ·have R:=y6 @hall (y6 @hv (y6 @bA (y6 @bq aI)))
   repeat' ((first |(with_reducible refine .guard (fun hb =>?_) (fun hb =>?_) <;>try simp only[hb])|refine ae.aM (by decide +kernel) rfl fun K hK =>?_|(refine .aD [0,1,2,3,4,5,6,10,14] hK ?_;clear hK K)|(with_reducible refine .done (hK _ ?_);clear hK K)|refine ae.of rfl ?_|(with_reducible refine aF.aL (fun h =>?_) (fun h =>?_) <;>try simp only[h])) <;>try simp only[aN,R,zz3,zy5,simprocAttr])
   all_goals clear R
   refine .jv [3] (enc ([]:List aQ)) rfl hF3 ?_ ?_ ?_
   ·try simp only[kW,zw0,List.filter_nil,List.contains_cons,Nat.reduceBEq,Bool.true_or,BEq.rfl,hfin,bL,simprocAttr]
   ·simp[dY,b8,ak.only,b7]
   ·try simp only[jX,dY,zw0,List.filter_nil,List.contains_cons,Nat.reduceBEq,Bool.true_or,BEq.rfl,zz7,zx8,bL,simprocAttr]
    have R:=y6 @hv (y6 @bA (y6 @bq aI))
    repeat' ((first |(with_reducible refine .guard (fun hb =>?_) (fun hb =>?_) <;>try simp only[hb])|refine ae.aM (by decide +kernel) rfl fun K hK =>?_|(refine .aD [0,1,2,3,4,5,6,10,14] hK ?_;clear hK K)|(with_reducible refine .done (hK _ ?_);clear hK K)|refine ae.of rfl ?_|(with_reducible refine aF.aL (fun h =>?_) (fun h =>?_) <;>try simp only[h])) <;>try simp only[aN,R,simprocAttr])
    all_goals clear R
    rw[hz];rfl
 ·have R:=y6 @hall (y6 @hv (y6 @bA (y6 @bq aI)))
  repeat' ((first |(with_reducible refine .guard (fun hb =>?_) (fun hb =>?_) <;>try simp only[hb])|refine ae.aM (by decide +kernel) rfl fun K hK =>?_|(refine .aD [0,1,2,3,4,5,6,10,14] hK ?_;clear hK K)|(with_reducible refine .done (hK _ ?_);clear hK K)|refine ae.of rfl ?_|(with_reducible refine aF.aL (fun h =>?_) (fun h =>?_) <;>try simp only[h])) <;>try simp only[aN,R,zz3,zy5,simprocAttr])
  all_goals clear R
  have hne2:0<(p.j++List.replicate m fK).length:=by
   have:=List.length_pos_iff.2 hne;rw[zz6];omega
  refine .bP true [(1000000,7)] (kH 1000000 (p.j++List.replicate m fK)) [.view 1000000 [] 4 0 p.j.length,.func 50 [.ref (enc b)]] (CP p.j (fun x=>x.aA != b) (p.j++List.replicate m fK).length) rfl
   (IY p.j (List.replicate m fK) hl hne2 [.ref (enc b)] ah (fun x=>x.aA != b) (fun x _=>I3 x b)) ⟨?_,?_⟩ ⟨.inl ⟨?_,?_,rfl⟩,.inr ?_,trivial⟩ ?_ ?_
  ·intro n x h;simp only[kH,aj] at h;split at h
   ·rename_i hn';subst hn';simp only[u8] at h;subst h;exact ⟨by simp only[qi,zD,oS,bL,simprocAttr],vw _ _,rfl⟩
   ·cases h
  ·intro a b ha hb _;rw[iw.1 ha,iw.1 hb]
  ·try simp only[zD,simprocAttr]
  ·exact iw.2 rfl
  ·try simp only[jg,kH,qi,bB,dY,zw0,List.filter_nil,zz7,zx8,List.contains_cons,List.contains_nil,Nat.reduceBEq,Bool.or_false,BEq.rfl,bL,simprocAttr]
  ·rintro x os' ⟨us,rfl,rfl,u1,u2⟩;exact gJ.one (fun p=>vw p _) (fun _=>by simp only[I.dS];exact Y0 us) (iw.2 rfl) (fun _=>rfl)
  ·rintro x os' ⟨us,rfl,rfl,u1,u2⟩
   try simp only[kH,qi,zD,oS,zz3,zy5,bL,simprocAttr]
   have u1':us.take (p.j.filter fun x => !(x.aA != b)).length=p.j.filter fun x => !(x.aA != b):=u1;have hfv:km 4 0 (p.j.filter fun x => !(x.aA != b)).length (some (us.map enc))=some (enc (p.j.filter fun x=>x.aA==b)):=by
    rw[sC (α:=aQ) (sz:=4) rfl,u1',acw]
   have R:=y6 @hfv (y6 @bA (y6 @bq aI))
   repeat' ((first |(with_reducible refine .guard (fun hb =>?_) (fun hb =>?_) <;>try simp only[hb])|refine ae.aM (by decide +kernel) rfl fun K hK =>?_|(refine .aD [0,1,2,3,4,5,6,10,14] hK ?_;clear hK K)|(with_reducible refine .done (hK _ ?_);clear hK K)|refine ae.of rfl ?_|(with_reducible refine aF.aL (fun h =>?_) (fun h =>?_) <;>try simp only[h])) <;>try simp only[aN,R,simprocAttr])
   all_goals clear R
def gM(i:Nat):List aJ:=(List.range i).map fun k:Nat=>⟨(k:Int),[],0⟩
def eX:dL:=⟨gM 6,[],[]⟩
theorem Ke(i:Nat):gM (i+1)=gM i++[⟨(i:Int),[],0⟩]:=by simp[gM,List.range_succ]
theorem py(i:Nat):(gM i).length=i:=by simp[gM]
def wT(i:Nat):ai:=au [(0,.ptr 0 []),(1,.bool false),(2,.ptr 2 []),(3,.int .i64 i)] [(905,.bW 36 3 ((gM i).map enc)),(2,.box (db (.own 905 i) (.nils 5) (.nils 1))),(0,.box (.agg [.nils 3,.nils 5,.nils 1]))]
theorem Pp{xs:List aJ}{k:Nat}(h:k=xs.length):kl k (some (.bW 36 3 (xs.map enc)))=some (enc xs):=by subst h;exact pG 3 rfl rfl
theorem gw(p:Nat→Bool)(v r b:I):(db v r b).only p=(v.only p&&(r.only p&&b.only p)):=by simp[db,I.only,I.bQ]
theorem Ir:bp Tryd.prog 10 [] (.tuple [enc eX,.bool true]):=by
 refine bp.cw Tryd.func10 KM LH MI (t7 rfl) (fun hwf W0 D0 E1 =>?_);simp only[Bd,Gc,bS];clear hwf;have R:=aI
 repeat' ((first |(with_reducible refine .guard (fun hb =>?_) (fun hb =>?_) <;>try simp only[hb])|refine ae.aM (by decide +kernel) rfl fun K hK =>?_|(refine .aD [0,1,2,3,4,5,7,16] hK ?_;clear hK K)|(with_reducible refine .done (hK _ ?_);clear hK K)|refine ae.of rfl ?_|(with_reducible refine aF.aL (fun h =>?_) (fun h =>?_) <;>try simp only[h])) <;>try simp only[aN,R,simprocAttr])
 all_goals clear R
 refine ae.loop wT (fun i=>i≤6) (fun i=>6-i) 0 (by omega) ?_ (fun i hi =>?_)
 ·refine bn.AK 2 905 36 3 3 [0] _ rfl rfl rfl ?_;simp only[wT];refine bn.cB ?_ ?_ ?_ ?_ <;>simp[bX,cA,b6,b8,av,b9,ct,I.only,I.bQ,ak.only,dZ]
  all_goals first | rfl | exact ⟨rfl,rfl⟩
 simp only[wT];have hT:=iP (vJ 905 i) (pW 5) (pW 1);by_cases hlt:i<6
 ·have hc:decide ((i:Int)<6)=true:=by simp;omega
  have hw:=fj (i:=i) (by omega);have hN:=wO (i:Int);rw[show my (i:Int)=(⟨(i:Int),[],0⟩,0) by simp only[my];rw[if_pos (gz.2 (by omega))]] at hN;simp only at hN;obtain ⟨r,hr⟩:∃ r:aJ,r=⟨(i:Int),[],0⟩:=⟨_,rfl⟩
  rw[←hr] at hN;have hbs:gx 3 (some [enc r])=some (enc [r]):=lE 3 _ rfl;have hap:=fun (A:ai) d rest=>qN (A:=A) (d:=d) 36 3 40 905 (l:=i) (es:=gM i) (ys:=[r]) (rest:=rest) (py i).symm rfl (by simp) (by simp[maxLen,py];omega) (by simp[py];omega);have hl1:(gM i++[r]).length=i+1:=by simp[py]
  simp only[hl1] at hap;have hs0:=Ag (r:=.nils 5) (b:=.nils 1) (vJ 905 i) (vJ 905 (i+1));have hn:∀ a:Int,(a != a)=false:=fun a=>by simp
  have R:=y6 @hc (y6 @hw (y6 @hT (y6 @hbs (y6 @hap (y6 @hs0 (y6 @hn (y6 @bA (y6 @bq aI))))))))
  repeat' ((first |(with_reducible refine .guard (fun hb =>?_) (fun hb =>?_) <;>try simp only[hb])|refine ae.aM (by decide +kernel) rfl fun K hK =>?_|refine .lead _ (hN) ?_|(refine .aD [0,1,2,3,4,5,7,16] hK ?_;clear hK K)|(with_reducible refine .done (hK _ ?_);clear hK K)|refine ae.of rfl ?_|(with_reducible refine aF.aL (fun h =>?_) (fun h =>?_) <;>try simp only[h])) <;>try simp only[aN,R,simprocAttr])
  all_goals clear R
  refine ⟨i+1,by omega,by omega,?_⟩;rw[Ke,←hr];clear hr hN hap hbs hs0;refine bn.cB ?_ ?_ ?_ ?_ <;>simp[*,bX,cA,b6,b8,av,b9,ct,I.only,I.bQ,ak.only,dZ,gT,b7,gw]
 ·have he:i=6:=by omega
  have hc:decide ((i:Int)<6)=false:=by simp;omega
  have hs:=kN (v:=.own 905 i) (r:=.nils 5) (b:=.nils 1) (vJ 905 i) (pW 5) (pW 1);have hf:∀ ts os,aj os 905=some (.bW 36 3 ((gM i).map enc))→br true (au ts os) (db (.own 905 i) (.nils 5) (.nils 1))=some (enc eX):=fun ts os h=>by
   refine sD ?_ (by simp only[br];rfl) (by simp only[br];rfl);rw[De]
   show kl i (aj os 905)=_
   rw[h,Pp (py i).symm,he]
  have R:=y6 @hc (y6 @hT (y6 @hs (y6 @hf (y6 @bq aI))))
  repeat' ((first |(with_reducible refine .guard (fun hb =>?_) (fun hb =>?_) <;>try simp only[hb])|refine ae.aM (by decide +kernel) rfl fun K hK =>?_|(refine .aD [0,1,2,3,4,5,7,16] hK ?_;clear hK K)|(with_reducible refine .done (hK _ ?_);clear hK K)|refine ae.of rfl ?_|(with_reducible refine aF.aL (fun h =>?_) (fun h =>?_) <;>try simp only[h])) <;>try simp only[aN,R,simprocAttr])
  all_goals clear R
def r9(k b:Int)(l:List aJ):Bool:=l.any fun p=>p.j.any fun x=>decide (x.aA=b)&&decide (x.kind=k)
def mY(k:Int)(l:List aQ):Bool:=l.any fun x=>x.kind==k
theorem AO{k b:Int}{ps:List aJ}{i:Nat}(h:i<ps.length):r9 k b (ps.take (i+1))=(r9 k b (ps.take i)||mY k ((aB ps i).j.filter fun x=>x.aA==b)):=by
 rw[zy3 h,lP h];simp only[r9,List.any_append,List.any_cons,List.any_nil,Bool.or_false,mY,List.any_filter]
 congr 1
theorem AP{k:Int}{l:List aQ}{i:Nat}(h:i<l.length):mY k (l.take (i+1))=(mY k (l.take i)||l[i].kind==k):=by
 rw[zy3 h];simp only[mY,List.any_append,List.any_cons,List.any_nil,Bool.or_false]
def qG(ps:List aJ)(b:Int)(l:List Int)(r:List dG)(ts:List (Nat×I))(t:Nat×Bool×Bool):ai :=
 au ([(1,.int .i64 b),(4,.bool false),(5,enc l),(7,enc r),(53,enc ps),(54,.int .i64 ps.length),(55,.int .i64 t.1),(9,.bool t.2.1),(10,.bool t.2.2)]++ts) []
theorem ab6(A:ai)(n:Nat)(b:I)(q:aQ)(x y z w:Int)(rest:List aw):da A (some 4) n [] b (enc q) rest (some (.agg [.int .i64 x,.int .i64 y,.int .i64 z,.int .i64 w]))=aC rest (A.aZ n (.box (enc q))):=dU (eH _) (by rw[fH];rfl) (ff _)
theorem Ax(w:dL)(b:Int)(aq:Whole w.ps)(O:uv w.ps)(hb:cV 1 9999 b=true):bp Tryd.prog 8 [enc w,enc b] (enc true):=by
 refine bp.cw Tryd.func8 Lw Ms NH (t7 rfl) (fun hwf W0 D0 E1 =>?_);simp only[BW,G6,bS,zz4];clear hwf;obtain ⟨ps,rs,bs⟩:=w;simp only at aq O;have hT:=iP (cO ps) (cO rs) (cO bs);have hW:=Al ps b;have hR:=IE ps b;obtain ⟨w1,w2⟩:=aq.acK hb;have lr:=aq.aa8 b;rw[aq.AM hb] at hR;rw[w2] at hW;simp only at hR;obtain ⟨o1,o2⟩:=zd aq O b;rw[←w1,←lr] at o1 o2;generalize (pf ps b).1=l at *;generalize mD (ka ps) b (ka ps)=r at *;have hn0:∀ a:Int,(a != a)=false:=fun a=>by simp
 have c1:decide ((l.length:Int)>1)=false:=decide_eq_false (by omega);have hlen:=aq.len;have c2:((l.length:Int)==1)=true→decide ((r.length:Int)>0)=false:=fun h=>decide_eq_false (by have:=eq_of_beq h;omega);simp only[uV];rcases q1:((l.length:Int)==1)
 all_goals
  have R:=y6 @hT (y6 @hn0 (y6 @c1 (y6 @c2 (y6 @q1 (y6 @bA (y6 @bq aI))))))
  repeat' ((first |(with_reducible refine .guard (fun hb =>?_) (fun hb =>?_) <;>try simp only[hb])|refine ae.aM (by decide +kernel) rfl fun K hK =>?_|refine .lead _ (hW) ?_|refine .lead _ (hR) ?_|(refine .aD [0,1,2,4,5,6,7,8,9,10,12,13,14,16,51,53,54,55,56,66,67,68,69,70,91] hK ?_;clear hK K)|(with_reducible refine .done (hK _ ?_);clear hK K)|refine ae.of rfl ?_|(with_reducible refine aF.aL (fun h =>?_) (fun h =>?_) <;>try simp only[h])) <;>try simp only[aN,R,simprocAttr])
  all_goals clear R
  refine ae.loop (qG ps b l r []) (fun t=>t.1≤ps.length∧t.2.1=r9 1 b (ps.take t.1)∧t.2.2=r9 2 b (ps.take t.1)) (fun t=>ps.length-t.1) (0,false,false) ⟨zw5 _,rfl,rfl⟩ ?_ ?_
  ·simp only[qG,zy1];refine bn.cB ?_ ?_ ?_ ?_ <;>simp[bX,cA,b6,b8,b9,I.only,b7]
 all_goals
  rintro ⟨i,f,g⟩ ⟨hi,hf,hg⟩;simp only at hi hf hg;simp only[qG,zy1];by_cases hlt:i<ps.length
  rotate_left
  ·have hlc:=hJ hlt;have hge:i=ps.length:=by omega
   rw[hge,zv3] at hf hg;have hfin:f=true→g=false→((l.length:Int)+(r.length:Int)==1)=true:=fun U ab=>by
    have:=o2 (hf.symm.trans U) (hg.symm.trans ab);simp;omega
   have hwr:IntKind.i64.wrap ((l.length:Int)+(r.length:Int))=(l.length:Int)+(r.length:Int):=jR _ (by omega) (by omega);rcases f
   ·have R:=y6 @hlc (y6 @bA (y6 @bq aI))
    repeat' ((first |(with_reducible refine .guard (fun hb =>?_) (fun hb =>?_) <;>try simp only[hb])|refine ae.aM (by decide +kernel) rfl fun K hK =>?_|(refine .aD [0,1,2,4,5,6,7,8,9,10,12,13,14,16,51,53,54,55,56,66,67,68,69,70,91] hK ?_;clear hK K)|(with_reducible refine .done (hK _ ?_);clear hK K)|refine ae.of rfl ?_|(with_reducible refine aF.aL (fun h =>?_) (fun h =>?_) <;>try simp only[h])) <;>try simp only[aN,R,simprocAttr])
    all_goals clear R
   ·rcases g
    ·have ar:=hfin rfl rfl;have R:=y6 @hlc (y6 @hwr (y6 @ar (y6 @bA (y6 @bq aI))))
     repeat' ((first |(with_reducible refine .guard (fun hb =>?_) (fun hb =>?_) <;>try simp only[hb])|refine ae.aM (by decide +kernel) rfl fun K hK =>?_|(refine .aD [0,1,2,4,5,6,7,8,9,10,12,13,14,16,51,53,54,55,56,66,67,68,69,70,91] hK ?_;clear hK K)|(with_reducible refine .done (hK _ ?_);clear hK K)|refine ae.of rfl ?_|(with_reducible refine aF.aL (fun h =>?_) (fun h =>?_) <;>try simp only[h])) <;>try simp only[aN,R,simprocAttr])
     all_goals clear R
    ·have R:=y6 @hlc (y6 @bA (y6 @bq aI))
     repeat' ((first |(with_reducible refine .guard (fun hb =>?_) (fun hb =>?_) <;>try simp only[hb])|refine ae.aM (by decide +kernel) rfl fun K hK =>?_|(refine .aD [0,1,2,4,5,6,7,8,9,10,12,13,14,16,51,53,54,55,56,66,67,68,69,70,91] hK ?_;clear hK K)|(with_reducible refine .done (hK _ ?_);clear hK K)|refine ae.of rfl ?_|(with_reducible refine aF.aL (fun h =>?_) (fun h =>?_) <;>try simp only[h])) <;>try simp only[aN,R,simprocAttr])
     all_goals clear R
  have hlc:=hX hlt;have he:=fun A=>fT (A:=A) 3 hlt rfl;have hw:=fj (i:=i) (by omega);have hs1:=AO (k:=1) (b:=b) hlt;have hs2:=AO (k:=2) (b:=b) hlt;rw[←hf] at hs1;rw[←hg] at hs2;have hTr:=IF (aB ps i) b;have hjl:=(fe (aq.val i (by omega))).2.2.2.1;rw[show mQ (aB ps i) b=((aB ps i).j.filter fun x=>x.aA==b,0) by simp only[mQ,aq.val i (by omega),hb,if_true]] at hTr;simp only at hTr;have htl:((aB ps i).j.filter fun x=>x.aA==b).length≤200:=zv9 (List.length_filter_le _ _) hjl;rw[lP hlt] at he;generalize ((aB ps i).j.filter fun x=>x.aA==b)=tr at *;have R:=y6 @hlc (y6 @he (y6 @hn0 (y6 @bA (y6 @bq aI))))
  repeat' ((first |(with_reducible refine .guard (fun hb =>?_) (fun hb =>?_) <;>try simp only[hb])|refine ae.aM (by decide +kernel) rfl fun K hK =>?_|refine .lead _ (hTr) ?_|(refine .aD [0,1,2,4,5,6,7,8,9,10,12,13,14,16,51,53,54,55,56,66,67,68,69,70,91] hK ?_;clear hK K)|(with_reducible refine .done (hK _ ?_);clear hK K)|refine ae.of rfl ?_|(with_reducible refine aF.aL (fun h =>?_) (fun h =>?_) <;>try simp only[h])) <;>try simp only[aN,R,simprocAttr])
  all_goals clear R
  refine ae.loop (fun t:Nat×Bool×Bool=>qG ps b l r [(67,enc tr),(68,.int .i64 tr.length),(69,.int .i64 t.1)] (i,t.2)) (fun t=>t.1≤tr.length∧t.2.1=(f||mY 1 (tr.take t.1))∧t.2.2=(g||mY 2 (tr.take t.1))) (fun t=>tr.length-t.1) (0,f,g) ⟨zw5 _,by simp[mY],by simp[mY]⟩ ?_ ?_
  ·simp only[qG,zz3,zy5];clear hf hg;refine bn.cB ?_ ?_ ?_ ?_ <;>simp[bX,cA,b6,b8,b9,I.only,b7]
  rintro ⟨k,f2,g2⟩ ⟨hk,hf2,hg2⟩;simp only at hk hf2 hg2;simp only[qG,zz3,zy5];by_cases hkt:k<tr.length
  rotate_left
  ·have hkc:=hJ hkt;have hge:k=tr.length:=by omega
   rw[hge,zv3] at hf2 hg2;have R:=y6 @hkc (y6 @hw (y6 @bA (y6 @bq aI)))
   repeat' ((first |(with_reducible refine .guard (fun hb =>?_) (fun hb =>?_) <;>try simp only[hb])|refine ae.aM (by decide +kernel) rfl fun K hK =>?_|(refine .aD [0,1,2,4,5,6,7,8,9,10,12,13,14,16,51,53,54,55,56,66,67,68,69,70,91] hK ?_;clear hK K)|(with_reducible refine .done (hK _ ?_);clear hK K)|refine ae.of rfl ?_|(with_reducible refine aF.aL (fun h =>?_) (fun h =>?_) <;>try simp only[h])) <;>try simp only[aN,R,simprocAttr])
   all_goals clear R
   refine ⟨(i+1,f2,g2),⟨by simp only;omega,by simp only;rw[hs1];exact hf2,by simp only;rw[hs2];exact hg2⟩,by simp only;omega,?_⟩;simp only[];clear hf hg hf2 hg2;refine bn.cB ?_ ?_ ?_ ?_ <;>simp[bX,cA,b6,b8,b9,I.only,b7]
  have hkc:=hX hkt;have hke:=fun A=>fT (A:=A) 4 hkt rfl;have hkw:=fj (i:=k) (by omega);have ht1:=AP (k:=1) hkt;have ht2:=AP (k:=2) hkt;generalize tr[k]=x at *;rcases f2 <;>rcases g2 <;>rcases p1:(x.kind==1) <;>rcases p2:(x.kind==2)
  all_goals
   have R:=y6 @hkc (y6 @hke (y6 @hkw (y6 @p1 (y6 @p2 (y6 @ab6 (y6 @bA (y6 @bq aI)))))))
   repeat' ((first |(with_reducible refine .guard (fun hb =>?_) (fun hb =>?_) <;>try simp only[hb])|refine ae.aM (by decide +kernel) rfl fun K hK =>?_|(refine .aD [0,1,2,4,5,6,7,8,9,10,12,13,14,16,51,53,54,55,56,66,67,68,69,70,91] hK ?_;clear hK K)|(with_reducible refine .done (hK _ ?_);clear hK K)|refine ae.of rfl ?_|(with_reducible refine aF.aL (fun h =>?_) (fun h =>?_) <;>try simp only[h])) <;>try simp only[aN,R,simprocAttr])
   all_goals clear R
  all_goals
   first
    |(refine ⟨(k+1,false,false),⟨by simp only;omega,by simp only;rw[ht1,←Bool.or_assoc,←hf2,p1];rfl,by simp only;rw[ht2,←Bool.or_assoc,←hg2,p2];rfl⟩,by simp only;omega,?_⟩)
    |(refine ⟨(k+1,true,false),⟨by simp only;omega,by simp only;rw[ht1,←Bool.or_assoc,←hf2,p1];rfl,by simp only;rw[ht2,←Bool.or_assoc,←hg2,p2];rfl⟩,by simp only;omega,?_⟩)
    |(refine ⟨(k+1,false,true),⟨by simp only;omega,by simp only;rw[ht1,←Bool.or_assoc,←hf2,p1];rfl,by simp only;rw[ht2,←Bool.or_assoc,←hg2,p2];rfl⟩,by simp only;omega,?_⟩)
    |(refine ⟨(k+1,true,true),⟨by simp only;omega,by simp only;rw[ht1,←Bool.or_assoc,←hf2,p1];rfl,by simp only;rw[ht2,←Bool.or_assoc,←hg2,p2];rfl⟩,by simp only;omega,?_⟩)
   simp only[];clear hf hg hf2 hg2 ht1 ht2 hs1 hs2;refine bn.cB ?_ ?_ ?_ ?_ <;>simp[bX,cA,b6,b8,b9,I.only,b7]
end Go.Proofs.YthbdbocionnfgaaDoor
namespace Go.Abs
open Go Go.RowKit
theorem tc(ρ:Nat→Nat):∀ (ts:List (Nat×I)) (t:Nat),bC (ts.map fun q=>(q.1,q.2.bd ρ)) t=(bC ts t).bd ρ
 | [],_=>rfl
 |(k,v)::ts,t=>by
  simp only[zz7,bC];split
  ·rfl
  ·exact tc ρ ts t
theorem bn.bd{ts:List (Nat×I)}{os:List (Nat×ak)}(ρ:List (Nat×Nat))(inj:∀ m m',av os m=true→av os m'=true→bB ρ m=bB ρ m'→m=m')(sm:∀ m,av os m=true→bB ρ m<1000000∨bB ρ m=m)
  (hT:b6 (av os) ts) (hO:∀ n x,aj os n=some x→x.only (av os)=true):bn (au ts os) (au (ts.map fun q=>(q.1,q.2.bd (bB ρ))) (dc ρ os)):=by
 rintro c a w ⟨D,E,hs⟩
 let E':bj:=fun n=>match pre ρ os n with | some m=>E m | none=>none
 have ay:∀ m,av os m=true→E' (bB ρ m)=E m:=fun m hm=>by
  show (match pre ρ os (bB ρ m) with | some m=>E m | none=>none)=E m
  cases hp:pre ρ os (bB ρ m) with
  |none=>exact absurd rfl (vW hp hm)
  |some m' =>
   obtain ⟨k1,k2⟩:=jG hp;rw[inj m' m k1 hm k2]
 refine ⟨D,E',hs.sz,hs.eC,fun t =>?_,hs.dK,hs.c6,hs.aK,fun n =>?_,fun n m e e' b U ab af ar =>?_,fun n e hn =>?_,hs.eL,hs.cT,hs.eY,hs.fA⟩
 ·simp only[au,tc];exact (bl.bd (p:=av os) ay (vL hT t)).2 (hs.dO t)
 ·have hl:=rD ρ os [] n;rw[zy1] at hl;simp only[au,hl];cases hp:pre ρ os n with
  |none =>
   show (match pre ρ os n with | some m=>E m | none=>none)=none
   rw[hp]
  |some m =>
   obtain ⟨k1,k2⟩:=jG hp;have hEn:E' n=E m:=by rw[←k2];exact ay m k1
   cases hx:aj os m with
   |none=>simp[av,hx] at k1
   |some x =>
    have ho:=hs.bP m;have hon:=hO m x hx;simp only[au,hx] at ho;simp only[hx,zy6];cases x with
    |box x =>
     simp only[ak.bd,cS];obtain ⟨b,cs,T,q1,q2,q3,q4,q5⟩:=ho;exact ⟨b,cs,T,by rw[hEn,wg];exact q1,q2,q3,(ao.bd (p:=av os) ay x _ (by simpa[ak.only] using hon)).2 q4,q5⟩
    |bW T sz es =>
     simp only[ak.bd,cS];obtain ⟨aP,q1,q2,q3⟩:=ho;refine ⟨aP,by rw[hEn,qb];exact q1,fun e he =>?_,?_⟩
     ·rw[qd] at he;obtain ⟨e',he',rfl⟩:=zy7.1 he;rw[rO];exact q2 e' he'
     ·cases aP with
      |none=>simp only at q3 ⊢;rw[q3];rfl
      |some bc =>
       obtain ⟨b,cap⟩:=bc;obtain ⟨cs,pr,rest,g1,g2,g3,g4,g5,g6,g7,g8⟩:=q3;exact ⟨cs,pr,rest,g1,g2,g3,(aU.bd (p:=av os) ay es _ (by simpa[ak.only] using hon)).2 g4,g5,by rw[qb];exact g6,g7,g8⟩
    |dJ T xs =>
     simp only[ak.bd,cS];obtain ⟨aP,q1,q2,q3⟩:=ho;exact ⟨aP,by rw[hEn];exact q1,q2,q3⟩
    |dI x =>
     simp only[ak.bd,cS];obtain ⟨b,q1,q2⟩:=ho;exact ⟨b,by rw[hEn];exact q1,q2⟩
    |bE ks vs =>
     simp only[ak.bd,cS];obtain ⟨b,es,ck,q1,q2,q3,q4,q5,q6,q7⟩:=ho;simp only[ak.only,zz1] at hon;exact ⟨b,es,ck,by rw[hEn];exact q1,q2,q3,q4,(aO.bd (p:=av os) ay ks _ hon.1).2 q5,(aO.bd (p:=av os) ay vs _ hon.2).2 q6,q7⟩
    |it ks vs left cur =>
     simp only[ak.bd,cS];obtain ⟨r,b,es,ck,si,se,la,q1,q2,q3,q4,q5,q6,q7⟩:=ho;simp only[ak.only,zz1] at hon;exact ⟨r,b,es,ck,si,se,la,by rw[hEn];exact q1,q2,q3,q4,(aO.bd (p:=av os) ay ks _ hon.1).2 q5,(aO.bd (p:=av os) ay vs _ hon.2).2 q6,q7⟩
 ·have key:∀ n e,E' n=some e→∃ m,pre ρ os n=some m∧E m=some e:=fun n e h=>by
   have h':(match pre ρ os n with | some m=>E m | none=>none)=some e:=h;cases hp:pre ρ os n with
   |none=>rw[hp] at h';cases h'
   |some m=>rw[hp] at h';exact ⟨m,rfl,h'⟩
  obtain ⟨n',p1,p2⟩:=key n e U;obtain ⟨m',p3,p4⟩:=key m e' ab;have:=hs.cQ n' m' e e' b p2 p4 af ar;rw[←(jG p1).2,←(jG p3).2,this]
 ·cases hp:pre ρ os n with
  |none =>
   left
   show (match pre ρ os n with | some m=>E m | none=>none)=none
   rw[hp]
  |some m =>
   obtain ⟨k1,k2⟩:=jG hp;have hEn:E' n=E m:=by rw[←k2];exact ay m k1
   rcases sm m k1 with h | h
   ·have:=(hs.eL n (by rw[hn];simp)).2;omega
   ·rw[hEn];have:m=n:=by omega
    subst this;exact hs.dR m e hn
theorem bn.Hn{ts ts':List (Nat×I)}{os os':List (Nat×ak)}(ρ:List (Nat×Nat))(inj:∀ m m',av os m=true→av os m'=true→bB ρ m=bB ρ m'→m=m')(sm:∀ m,av os m=true→bB ρ m<1000000∨bB ρ m=m)
  (hT:b6 (av os) ts) (hO:∀ n x,aj os n=some x→x.only (av os)=true) (h:bn (au (ts.map fun q=>(q.1,q.2.bd (bB ρ))) (dc ρ os)) (au ts' os')):bn (au ts os) (au ts' os') :=
 (bn.bd ρ inj sm hT hO).trans h
end Go.Abs
namespace Go.Proofs.YthbdbocionnfgaaDoor
open Go Go.Abs
open Go.Abs.Enc (enc)
section
variable {α:Type} [Enc α] {P:Program} {hs:List FuncId} {Y:Value→List I→List (Nat×ak)→cE→Prop} {K:ai→Prop} {rest:List aw} {d e esz bytes:Nat}
def js(esz:Nat)(v:I)(os:List (Nat×ak))(l:List α)(S:List Nat):Prop:=(l=[]∧v=.c0 esz)∨∃ n q,n∈S∧v=.view n [] esz 0 l.length∧aj os n=some (.box (.agg ((l++q).map enc)))
theorem AS{A:ai}{q:Nat}(z:I){l:List α}(hsz:Enc.sz α=esz)(hl:l≠[])(hf:A.o d=none)(hb:l.length*bytes≤140737488355328)(hml:l.length≤maxLen) :
  ∃ p:Nat→Prop,fG A (some d) e esz bytes z (enc l) rest (.c0 q)=.any p fun m=>aC rest ((A.aZ d (.box (.agg (l.map enc++List.replicate m z)))).a8 (some d) (.view d [] esz 0 l.length)):=by
 have hne:l.map (enc (α:=α))≠[]:=by simpa using hl
 have U:eI A esz (.c0 q)=some []:=rfl;refine ⟨fun m=>l.length+m≤maxLen,?_⟩;simp only[fG,U,mL A esz l hsz,fp,if_neg hne,gK,hf,List.length_nil,zz4,zz8,if_pos (y6 hb hml),zy5]
theorem J2{A:ai}(z:I)(hsz:Enc.sz α=esz){n l:Nat}{xs ys:List α}(hy:ys≠[])(ho:A.o n=some (.box (.agg (xs.map enc))))(hl:l≤xs.length)(hr:xs.length<l+ys.length)(hf:A.o d=none)(hb:(l+ys.length)*bytes≤140737488355328)(hml:l+ys.length≤maxLen) :
  ∃ p:Nat→Prop,fG A (some d) e esz bytes z (enc ys) rest (.view n [] esz 0 l)=.any p fun m=>aC rest ((A.aZ d (.box (.agg ((xs.take l).map enc++(ys.map enc++List.replicate m z))))).a8 (some d) (.view d [] esz 0 (l+ys.length))):=by
 have U:=tX (A:=A) (esz:=esz) (lo:=0) (k:=l) ho (by omega);have ab:(I.agg (xs.map (enc (α:=α)))).at []=some (.agg (xs.map enc)):=rfl;have ar:(xs.take l).length=l:=by rw[zx9];omega
 refine ⟨fun m=>l+ys.length+m≤maxLen,?_⟩;simp only[fG,U,List.drop_zero,mL A esz ys hsz,fp];rw[if_neg (by simpa using hy)];simp only[ho,ab,zz8,zz4];rw[if_neg (by omega)];simp only[gK,hf,zz8,ar];rw[if_pos ⟨hb,hml⟩]
theorem Yu(z:α){ts:List (Nat×I)}{os:List (Nat×ak)}{v:I}{l ys:List α}{S:List Nat}(hsz:Enc.sz α=esz)(hg:js esz v os l S)(hf:aj os d=none)(hb:(l.length+ys.length)*bytes≤140737488355328)(hml:l.length+ys.length≤maxLen) :
  (∃ v' os',fG (au ts os) (some d) e esz bytes (enc z) (enc ys) rest v=aC rest (au ((d,v')::ts) os')∧js esz v' os' (l++ys) (d::S)∧∀ m,m∉d::S→aj os' m=aj os m) ∨
  (∃ p,∃ v':Nat→I,∃ os':Nat→List (Nat×ak),fG (au ts os) (some d) e esz bytes (enc z) (enc ys) rest v=.any p (fun m=>aC rest (au ((d,v' m)::ts) (os' m)))∧∀ k,js esz (v' k) (os' k) (l++ys) (d::S)∧∀ m,m∉d::S→aj (os' k) m=aj os m):=by
 by_cases hy:ys=[]
 ·subst hy;rw[zy1];rcases hg with ⟨rfl,rfl⟩ | ⟨n,q,hn,rfl,ho⟩
  ·exact .inl ⟨.c0 esz,os,J3 _ hsz,.inl ⟨rfl,rfl⟩,fun _ _=>rfl⟩
  ·refine .inl ⟨_,os,?_,.inr ⟨n,q,List.mem_cons_of_mem _ hn,rfl,ho⟩,fun _ _=>rfl⟩;have U:=tX (A:=au ts os) (esz:=esz) (lo:=0) (k:=l.length) ho (by simp);simp only[fG,U,mL _ esz ([]:List α) hsz,fp,zx8,if_true];rfl
 ·rcases hg with ⟨rfl,rfl⟩ | ⟨n,q,hn,rfl,ho⟩
  ·obtain ⟨p,U⟩:=AS (A:=au ts os) (rest:=rest) (e:=e) (q:=esz) (enc z) hsz hy hf (by simpa using hb) (by simpa using hml);refine .inr ⟨p,fun m=>.view d [] esz 0 ys.length,fun m=>(d,.box (.agg (ys.map enc++List.replicate m (enc z))))::os,U,fun k=>⟨.inr ⟨d,List.replicate k z,List.mem_cons_self,by simp,?_⟩,fun m hm =>?_⟩⟩
   ·simp[aj]
   ·rw[ct,if_neg (fun h=>by rw[h] at hm;exact hm List.mem_cons_self)]
  ·by_cases hr:l.length+ys.length≤(l++q).length
   ·have U:=AT (A:=au ts os) (rest:=rest) (d:=some d) (e:=e) (bytes:=bytes) (esz:=esz) (enc z) hsz hy ho hr;have e1:(l++q).take l.length++(ys++(l++q).drop (l.length+ys.length))=(l++ys)++q.drop ys.length:=by simp[List.drop_append]
    rw[e1] at U;refine .inl ⟨_,(n,.box (.agg (((l++ys)++q.drop ys.length).map enc)))::os,U,.inr ⟨n,q.drop ys.length,List.mem_cons_of_mem _ hn,by simp,by simp[aj]⟩,fun m hm =>?_⟩;rw[ct,if_neg (fun h=>by rw[h] at hm;exact hm (List.mem_cons_of_mem _ hn))]
   ·obtain ⟨p,U⟩:=J2 (A:=au ts os) (rest:=rest) (d:=d) (e:=e) (bytes:=bytes) (esz:=esz) (enc z) hsz hy ho (by simp) (by omega) hf hb hml;refine .inr ⟨p,fun m=>.view d [] esz 0 (l.length+ys.length),fun m=>(d,.box (.agg (((l++q).take l.length).map enc++(ys.map enc++List.replicate m (enc z)))))::os,U,fun k=>⟨.inr ⟨d,List.replicate k z,List.mem_cons_self,by simp,?_⟩,fun m hm =>?_⟩⟩
    ·simp[aj]
    ·rw[ct,if_neg (fun h=>by rw[h] at hm;exact hm List.mem_cons_self)]
theorem aW.sM(z:α){ts:List (Nat×I)}{os:List (Nat×ak)}{v:I}{l ys:List α}{S:List Nat}(hsz:Enc.sz α=esz)(hg:js esz v os l S)(hf:aj os d=none)(hb:(l.length+ys.length)*bytes≤140737488355328)(hml:l.length+ys.length≤maxLen)
  (h:∀ v' os',js esz v' os' (l++ys) (d::S)→(∀ m,m∉d::S→aj os' m=aj os m)→aW P Y false K (aC rest (au ((d,v')::ts) os'))):aW P Y false K (fG (au ts os) (some d) e esz bytes (enc z) (enc ys) rest v):=by
 rcases Yu (rest:=rest) (e:=e) z hsz hg hf hb hml (ts:=ts) with ⟨v',os',U,ab,af⟩ | ⟨p,v',os',U,ab⟩
 ·rw[U];exact h v' os' ab af
 ·rw[U];exact .any rfl fun m _=>h _ _ (ab m).1 (ab m).2
theorem En(os:List (Nat×ak))(S:List Nat):js esz (.c0 esz) os ([]:List α) S:=.inl ⟨rfl,rfl⟩
theorem yi{v:I}{os:List (Nat×ak)}{l:List α}{S:List Nat}{A:ai}(hsz:Enc.sz α=esz)(h:js esz v os l S)(hA:∀ m∈S,A.o m=aj os m):br true A v=some (enc l):=by
 rcases h with ⟨rfl,rfl⟩ | ⟨n,q,hn,rfl,ho⟩
 ·simp only[br,iR,zx8,hsz]
 ·have U:br true A (.view n [] esz 0 l.length)=km esz 0 l.length (some ((l++q).map enc)):=by
   rw[u6,hA n hn,ho];rfl
  rw[U,sC hsz,List.take_left]
end
theorem aW.my{P:Program}{Y:Value→List I→List (Nat×ak)→cE→Prop}{K:ai→Prop}{rest:List aw}{d e q:Nat}{ts:List (Nat×I)}{os:List (Nat×ak)}{ps:List aJ}(hl:ps≠[])(hf:aj os d=none)(hb:ps.length≤1000)
  (h:∀ m,aW P Y false K (aC rest (au ((d,.view d [] 3 0 ps.length)::ts) ((d,.box (fy ps m))::os)))):aW P Y false K (fG (au ts os) (some d) e 3 40 (.agg [.int .i64 0,.nils 4,.int .i64 0]) (enc ps) rest (.c0 q)):=by
 obtain ⟨p,U⟩:=AS (A:=au ts os) (rest:=rest) (d:=d) (e:=e) (esz:=3) (bytes:=40) (q:=q) p0 (l:=ps) rfl hl hf (by omega) (by simp only[maxLen];omega);have ab:fG (au ts os) (some d) e 3 40 (.agg [.int .i64 0,.nils 4,.int .i64 0]) (enc ps) rest (.c0 q)=_:=U;rw[ab];exact .any rfl fun m _=>h m
def mb(w:dL)(x:fC)(m:Nat)(b k:Int)(q:Nat):ai :=
 au [(2,.ptr 2 []),(3,.ptr 3 []),(4,.ptr 4 []),(5,.bool false),(6,.int .i64 m),(7,.int .i64 b),(8,.int .i64 k),(9,.ptr 9 []),(10,.int .i64 0)]
  [(9,.box (enc (aB w.ps m))),(20,.box (fy w.ps q)),(4,.box (.agg [.nils 3,.nils 5,.nils 1])),(3,.box (enc x)),(2,.box (db (.view 20 [] 3 0 w.ps.length) (enc w.rs) (enc w.bs)))]
theorem fN(A:ai)(n:Nat)(b:I)(q:aJ)(x y:Int)(rest:List aw):da A (some 3) n [] b (enc q) rest (some (.agg [.int .i64 x,.nils 4,.int .i64 y]))=aC rest (A.aZ n (.box (enc q))):=dU (eH _) (by rw[fH];rfl) (ff _)
theorem oN{W0:World}{D0:aX}{n:Nat}{own E0:_}(y:bH)(Q:Exit→ai→Prop)(w:dL)(x:fC)(hl:w.ps.length=6)
  (h:∀ q,ae { P:=Tryd.prog,eX:=W0,D0:=D0,n:=n,own:=own,E0:=E0,Y:=dq,ly:=none } y Q (mb w x (bD x) (eB x) (cL x.to 6) q)) :
  ae { P:=Tryd.prog,eX:=W0,D0:=D0,n:=n,own:=own,E0:=E0,Y:=dq,ly:=none } (.seq (.cj none Dv) (.seq (.cj none Dw) (.seq (.cj none Dy) (.seq (.cj none Dz) (.seq (.cj none DA) (.seq (.cj none DB) (.seq (.cj none DC) y))))))) Q (au [(0,enc w),(1,enc x)] []):=by
 obtain ⟨ps,rs,bs⟩:=w;simp only at hl;have hT:=iP (cO ps) (cO rs) (cO bs);have hT1:=iP (fM 20 [] 3 0 ps.length) (cO rs) (cO bs);have hS:=Ag (r:=enc rs) (b:=enc bs) (cO ps) (fM 20 [] 3 0 ps.length);have hmod:=iU x.jz (m:=6) (by decide);have hm:cL x.jz 6=(bD x:Int):=by simp only[bD];omega
 have hbm:=iU x.aA (m:=5) (by decide);have hwb:IntKind.i64.wrap (1+cL x.aA 5)=eB x:=jR _ (by omega) (by omega);have hF1:=j8 x.jz 6 (by decide) (by decide);have hF2:=j8 x.aA 5 (by decide) (by decide);have hF3:=j8 x.to 6 (by decide) (by decide);rw[hm] at hF1;have hi:bD x<ps.length:=by rw[hl];simp only[bD];omega
 have hv:=kV (n:=20) hi;have hat:=fun q=>kQ (q:=q) hi;have hne:ps≠[]:=fun e=>by rw[e] at hl;cases hl
 simp only[mb] at h;simp only[uV];have R:=y6 @hT (y6 @hT1 (y6 @hS (y6 @hwb (y6 @hv (y6 @hat (y6 @fX (y6 @fN (y6 @dj (y6 @bA (y6 @bq (y6 @dk aI)))))))))))
 repeat' ((first |(with_reducible refine .guard (fun hb =>?_) (fun hb =>?_) <;>try simp only[hb])|refine ae.aM (by decide +kernel) rfl fun K hK =>?_|refine .flat _ (hF1) rfl ?_|refine .flat _ (hF2) rfl ?_|refine .flat _ (hF3) rfl ?_|refine aW.my hne rfl (by omega) (fun q =>?_)|(refine .aD [0,1,2,3,4,5,6,7,8,9,10,11,12,13,14,15,16,39,43,67,72,81,90,95,103,114,127,145,154,166,171,187] hK ?_;clear hK K)|(with_reducible refine .done (hK _ ?_);clear hK K)|refine ae.of rfl ?_|(with_reducible refine aF.aL (fun h =>?_) (fun h =>?_) <;>try simp only[h])) <;>try simp only[aN,R,simprocAttr])
 all_goals clear R
 refine ae.sub ?_ (h q);clear h hT hT1 hS hat;refine bn.cB ?_ ?_ ?_ ?_ <;>simp[*,bX,cA,b6,b8,av,b9,ct,I.only,I.bQ,ak.only,b7,gw,gG]
theorem lW{ps:List aJ}(h:ps.length=6)(i:Nat)(p:aJ):(ps.set i p).length=6:=by rw[List.length_set,h]
theorem iT{ps:List aJ}{rs:List ca}{bs:List Int}{q:Nat}(h:ps.length=6)(ts:List (Nat×I))(os:List (Nat×ak))(hA:aj os 20=some (.box (fy ps q))):br true (au ts os) (db (.view 20 [] 3 0 6) (enc rs) (enc bs))=some (enc (⟨ps,rs,bs⟩:dL)) :=
 sD (u5 h.symm hA) (by simp only[lJ]) (by simp only[lJ])
theorem Iu(w:dL)(x:fC)(aw:gZ w)(hk:cL x.kind 10=1):bp Tryd.prog 11 [enc w,enc x] (.tuple [enc (dM w x).1,enc (dM w x).2]):=by
 refine bp.cw Tryd.func11 oq ou oy (t7 rfl) (fun hwf W0 D0 E1 =>?_);simp only[na,nE,bS,zz4];clear hwf;have aq:=aw.du;refine oN _ _ w x aq.len (fun q =>?_);obtain ⟨ps,rs,bs⟩:=w;simp only at aq;have hmod:=iU x.jz (m:=6) (by decide);have hm6:bD x<6:=by simp only[bD];omega
 have hi:bD x<ps.length:=by rw[aq.len];exact hm6
 have hl:=aq.len;have hF0:=j8 x.kind 10 (by decide) (by decide);rw[hk] at hF0;simp only[mb,hl];have hT1:=iP (fM 20 [] 3 0 6) (cO rs) (cO bs);have hS4:=kN (fM 20 [] 3 0 6) (cO rs) (cO bs);have hst:=lY (q:=q) hi;have hat:=kQ (q:=q) hi;have hv:=kV (n:=20) hm6;have hf0:=fun ts os=>iT (rs:=rs) (bs:=bs) (q:=q) hl ts os;have hf1:=fun (p:aJ) ts os=>iT (rs:=rs) (bs:=bs) (q:=q) (lW hl (bD x) p) ts os;have hA:dM ⟨ps,rs,bs⟩ x=if x.no.tmod 3=0 then eN ⟨ps,rs,bs⟩ (bD x) (oQ (aB ps (bD x)) (eB x)) rs bs else (⟨ps,rs,bs⟩,true):=by simp only[dM,hk];rfl
 have hF:=IH (aB ps (bD x)) (eB x);rcases q1:(x.no.tmod 3 != 0)
 ·have q2:x.no.tmod 3=0:=by simpa using q1
  rw[hA,if_pos q2];simp only[eN];generalize oQ (aB ps (bD x)) (eB x)=r at *;obtain ⟨p',e⟩:=r;simp only at hF ⊢;have hKn:=oa e;rcases q3:(e==0)
  ·have q4:¬ e=0:=by simpa using q3
   rw[if_neg q4];have R:=y6 @hT1 (y6 @hS4 (y6 @hst (y6 @hat (y6 @hv (y6 @hf0 (y6 @q1 (y6 @q3 (y6 @fX (y6 @fN (y6 @dj (y6 @bA (y6 @bq (y6 @dk aI)))))))))))))
   repeat' ((first |(with_reducible refine .guard (fun hb =>?_) (fun hb =>?_) <;>try simp only[hb])|refine ae.aM (by decide +kernel) rfl fun K hK =>?_|refine .flat _ (hF0) rfl ?_|refine .flat _ (hKn) rfl ?_|refine .lead _ (hF) ?_|(refine .aD [0,1,2,3,4,5,6,7,8,9,10,11,12,13,14,15,16,39,43,67,72,81,90,95,103,114,127,145,154,166,171,187] hK ?_;clear hK K)|(with_reducible refine .done (hK _ ?_);clear hK K)|refine ae.of rfl ?_|(with_reducible refine aF.aL (fun h =>?_) (fun h =>?_) <;>try simp only[h])) <;>try simp only[aN,R,simprocAttr])
   all_goals clear R
  ·have q4:e=0:=by simpa using q3
   rw[if_pos q4];have hf2:=hf1 p';have R:=y6 @hT1 (y6 @hS4 (y6 @hst (y6 @hat (y6 @hv (y6 @hf2 (y6 @q1 (y6 @q3 (y6 @fX (y6 @fN (y6 @dj (y6 @bA (y6 @bq (y6 @dk aI)))))))))))))
   repeat' ((first |(with_reducible refine .guard (fun hb =>?_) (fun hb =>?_) <;>try simp only[hb])|refine ae.aM (by decide +kernel) rfl fun K hK =>?_|refine .flat _ (hF0) rfl ?_|refine .flat _ (hKn) rfl ?_|refine .lead _ (hF) ?_|(refine .aD [0,1,2,3,4,5,6,7,8,9,10,11,12,13,14,15,16,39,43,67,72,81,90,95,103,114,127,145,154,166,171,187] hK ?_;clear hK K)|(with_reducible refine .done (hK _ ?_);clear hK K)|refine ae.of rfl ?_|(with_reducible refine aF.aL (fun h =>?_) (fun h =>?_) <;>try simp only[h])) <;>try simp only[aN,R,simprocAttr])
   all_goals clear R
 ·have q2:¬ x.no.tmod 3=0:=by simpa using q1
  rw[hA,if_neg q2];have R:=y6 @hT1 (y6 @hS4 (y6 @hst (y6 @hat (y6 @hv (y6 @hf0 (y6 @q1 (y6 @fX (y6 @fN (y6 @dj (y6 @bA (y6 @bq (y6 @dk aI))))))))))))
  repeat' ((first |(with_reducible refine .guard (fun hb =>?_) (fun hb =>?_) <;>try simp only[hb])|refine ae.aM (by decide +kernel) rfl fun K hK =>?_|refine .flat _ (hF0) rfl ?_|(refine .aD [0,1,2,3,4,5,6,7,8,9,10,11,12,13,14,15,16,39,43,67,72,81,90,95,103,114,127,145,154,166,171,187] hK ?_;clear hK K)|(with_reducible refine .done (hK _ ?_);clear hK K)|refine ae.of rfl ?_|(with_reducible refine aF.aL (fun h =>?_) (fun h =>?_) <;>try simp only[h])) <;>try simp only[aN,R,simprocAttr])
  all_goals clear R
end Go.Proofs.YthbdbocionnfgaaDoor
