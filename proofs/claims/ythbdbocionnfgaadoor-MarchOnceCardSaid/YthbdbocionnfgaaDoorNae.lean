/-
  A part of the proof that the law MarchOnce returns true for every input; three tables of Go's library start as the text lays them (the card ties them); conditions: none beyond the statement's own. (part 5 of 7)
-/
import Derived.Shelf.Strconv.Itoa3
import Derived.Lib.ItoaLen
import Derived.Test.YthbdbocionnfgaaDoorRows
import Derived.Test.YthbdbocionnfgaaDoorCards
import Derived.Test.YthbdbocionnfgaaDoorTie
import Derived.LaidMore
import Derived.MakeChecks
import Derived.Lib.LaidTab
import Derived.Lib.LaidU8
import Derived.Test.YthbdbocionnfgaaDoorNad
set_option linter.unusedSimpArgs false
set_option linter.unusedVariables false
set_option maxHeartbeats 16000000
set_option maxRecDepth 100000
namespace Go.Proofs.YthbdbocionnfgaaDoor
open Go Go.Abs
open Go.Abs.Enc (enc)
def nq(s:az):List dI:=(bY s.bu).map fun n=>s.bh (n.toNat-1)
def iX(p:aW):List dI×Int:=match cK p with
 |none=>([],91)
 |some s=>(nq s,0)
theorem I0{s:az}{n:Int}(h:n∈s.bu):∃ j,s.at n=some j∧n=(j:Int)+1∧j∈s.aQ:=by
 obtain ⟨j,hj,rfl⟩:=zy5.1 h;have hs:(s.at ((j:Int)+1)).isSome=true:=by
  simp only[az.at,List.find?_isSome];exact ⟨j,hj,by simp⟩
 obtain ⟨k,hk⟩:=zx1.1 hs;obtain ⟨U,ab⟩:=iw hk;exact ⟨k,hk,ab,U⟩
theorem GQ{l:List Int}{n:Int} : n∈bY l↔n∈l:=by simp[bY]
theorem GP(l:List Int):(bY l).length=l.length:=by simp[bY]
theorem yS:∀ {l:List aI} {s s':az},fO s l=some s'→s'.aQ.length≤s.aQ.length+l.length
 | [],s,s',h=>by cases h;simp
 |x::l,s,s',h=>by
  simp only[fO] at h;cases hx:eS s x with
  |none=>rw[hx] at h;cases h
  |some s2 =>
   rw[hx] at h;have U:=yS h;have he:∀ b,(s.aQ.erase b).length≤s.aQ.length:=fun b=>List.length_erase_le;have ab:s2.aQ.length≤s.aQ.length+1:=by
    simp only[eS] at hx;split at hx
    ·simp only[eM] at hx
     (repeat' split at hx) <;>first
      |(cases hx;done)
      |(cases hx;exact Nat.le_trans (he _) (Nat.le_succ _))
      |(cases hx;exact Nat.le_succ _)
      |(cases hx;simp)
    ·cases hx
   simp only[zv1];omega
theorem ym{p:aW}{s:az}(h:cK p=some s):s.aQ.length≤200:=by
 obtain ⟨_,_,_,aq,_,h6⟩:=fF h;have:=yS h6;simp only[eh,List.length_nil] at this;omega
theorem xU(s:az){i:Nat}(h:i<(bY s.bu).length):fu (.i .i64) .nilp (.int .i64 (bY s.bu)[i]) (s.bu.map enc) (s.aQ.map fun i=>.ref (enc (s.bh i)))=some (.ref (enc (s.bh ((bY s.bu)[i].toNat-1))),true):=by
 have hm:(bY s.bu)[i]∈s.bu:=GQ.1 (zw7 h);obtain ⟨j,hj,e,_⟩:=I0 hm;rw[uM (s:=s) (fun i=>.ref (enc (s.bh i))),hj];have:(bY s.bu)[i].toNat-1=j:=by omega
 simp only[this]
theorem Od{xs:List dI} : jS xs.length (some (.bU 49 4 (xs.map enc)))=some (enc xs):=oY 4 rfl rfl
def v7(p:aW)(s:az)(t:Nat×List dI):ai :=
 au [(1,.ptr 1 []),(4,c7 s),(6,.own 905 t.2.length),(18,enc (bY s.bu)),(19,.int .i64 (bY s.bu).length),(20,.int .i64 t.1)] [(905,.bU 49 4 (t.2.map enc)),(1,.box (enc p))]
theorem zD(p:aW):bm Tryd.prog 9 [enc p] (.tuple [enc (iX p).1,enc (iX p).2]):=by
 refine bm.cg Tryd.func9 Ko Li Mt (u8 rfl) (fun hwf W0 bO E1 =>?_);simp only[A8,F4,bQ];clear hwf;have hF:=oH p;simp only[iX];cases ho:cK p with
 |none =>
  rw[ho] at hF;simp only[ji] at hF;have R:=y6 @bE (y6 @bp (y6 @bJ (y6 @bw (y6 @br aK))))
  repeat' ((first |(with_reducible refine .guard (fun hb =>?_) (fun hb =>?_) <;>try simp only[hb])|refine ae.aM (by decide +kernel) rfl fun K hK =>?_|refine .lead _ (hF) ?_|(refine .aD [0,1,2,3,4,5,6,8,15,18,19,20,21] hK ?_;clear hK K)|(with_reducible refine .done (hK _ ?_);clear hK K)|refine ae.of rfl ?_|(with_reducible refine aF.aL (fun h =>?_) (fun h =>?_) <;>try simp only[h])) <;>try simp only[aN,R,simprocAttr])
  all_goals clear R
  rfl
 |some s =>
  have hl:=ym ho;have hN:=vV s (by omega);have hlen:(bY s.bu).length=s.aQ.length:=by simp[bY,az.bu]
  have hrl:(nq s).length=(bY s.bu).length:=by simp[nq]
  have hso:∀ p,(c7 s).only p=true:=fun p=>kD p _ (nC s);rw[ho] at hF;simp only[ji] at hF;have R:=y6 @ZB (y6 @dh (y6 @bE (y6 @bp (y6 @bJ (y6 @bw (y6 @br aK))))))
  repeat' ((first |(with_reducible refine .guard (fun hb =>?_) (fun hb =>?_) <;>try simp only[hb])|refine ae.aM (by decide +kernel) rfl fun K hK =>?_|refine .lead _ (hF) ?_|refine .lead _ (hN) ?_|(refine .aD [0,1,2,3,4,5,6,8,15,18,19,20,21] hK ?_;clear hK K)|(with_reducible refine .done (hK _ ?_);clear hK K)|refine ae.of rfl ?_|(with_reducible refine aF.aL (fun h =>?_) (fun h =>?_) <;>try simp only[h])) <;>try simp only[aN,R,simprocAttr])
  all_goals clear R
  refine ae.loop (v7 p s) (fun t=>t.1≤(bY s.bu).length∧t.2=(nq s).take t.1) (fun t=>(bY s.bu).length-t.1) (0,[]) ⟨zw4 _,rfl⟩ ?_ ?_
  ·refine bt.tP 6 905 49 4 4 rfl rfl ?_;simp only[v7];refine bt.c8 ?_ ?_ ?_ ?_ <;>simp[*,cn,cY,cu,cB,av,cw,cW,I.only,I.b6,ao.only,cv]
  rintro ⟨i,xs⟩ ⟨hi,hxs⟩;simp only at hi hxs;have htl:xs.length=i:=by rw[hxs,zx7];omega
  simp only[v7];by_cases hlt:i<(bY s.bu).length
  ·have hc:=h0 hlt;have he:=fun A=>fT (A:=A) 1 hlt rfl;have hw:=gl (i:=i) (by omega);have hlk:=xU s hlt;obtain ⟨r,hr⟩:∃ r,r=s.bh ((bY s.bu)[i].toNat-1):=⟨_,rfl⟩
   rw[←hr] at hlk;have hbs:fV 4 (some [enc r])=some (enc [r]):=kO 4 _ rfl;have hap:=fun (A:ai) d rest=>qf (A:=A) (d:=d) 49 4 32 905 (l:=xs.length) (es:=xs) (ys:=[r]) (rest:=rest) rfl rfl (by simp) (by simp[maxLen];omega) (by simp;omega);have htk:(nq s).take (i+1)=xs++[r]:=by
    have hik:i<(nq s).length:=by rw[hrl];exact hlt
    rw[zy0 hik,hxs,hr];simp[nq]
   have R:=y6 @hc (y6 @he (y6 @hw (y6 @hlk (y6 @hbs (y6 @hap (y6 @dh (y6 @bE (y6 @bp (y6 @bJ (y6 @bw (y6 @br aK)))))))))))
   repeat' ((first |(with_reducible refine .guard (fun hb =>?_) (fun hb =>?_) <;>try simp only[hb])|refine ae.aM (by decide +kernel) rfl fun K hK =>?_|(refine .aD [0,1,2,3,4,5,6,8,15,18,19,20,21] hK ?_;clear hK K)|(with_reducible refine .done (hK _ ?_);clear hK K)|refine ae.of rfl ?_|(with_reducible refine aF.aL (fun h =>?_) (fun h =>?_) <;>try simp only[h])) <;>try simp only[aN,R,simprocAttr])
   all_goals clear R
   refine ⟨(i+1,xs++[r]),⟨by simp only;omega,htk.symm⟩,by simp only;omega,?_⟩;simp only;clear hxs htk htl;refine bt.c8 ?_ ?_ ?_ ?_ <;>simp[*,cn,cY,cu,cB,av,cw,cW,I.only,I.b6,ao.only,eN,j0,cv]
  ·have hge:i=(bY s.bu).length:=by omega
   have hc:=hE hlt;have htk:xs=nq s:=by rw[hxs];exact List.take_of_length_le (by omega)
   rw[←htk];have R:=y6 @hc (y6 @Od (y6 @dh (y6 @bE (y6 @bp (y6 @bJ (y6 @bw (y6 @br aK)))))))
   repeat' ((first |(with_reducible refine .guard (fun hb =>?_) (fun hb =>?_) <;>try simp only[hb])|refine ae.aM (by decide +kernel) rfl fun K hK =>?_|(refine .aD [0,1,2,3,4,5,6,8,15,18,19,20,21] hK ?_;clear hK K)|(with_reducible refine .done (hK _ ?_);clear hK K)|refine ae.of rfl ?_|(with_reducible refine aF.aL (fun h =>?_) (fun h =>?_) <;>try simp only[h])) <;>try simp only[aN,R,simprocAttr])
   all_goals clear R
def sn(s:az)(w:jI):Int:=match s.bN.find? fun x=>decide (ec x=w) with
 |some x=>x.kind
 |none=>0
theorem Xh(s:az)(a b:Int):∃ x:aI,x.kind=sn s ⟨a,b⟩∧∃ t,fu (.bl [.i .i64,.i .i64]) (.agg [.int .i64 0,.int .i64 0,.int .i64 0,.int .i64 0]) (.agg [.int .i64 a,.int .i64 b]) (s.db.map enc) (s.bN.map enc)=some (enc x,t):=by
 have h:=xT ug ec (fun x:aI=>enc x) (.agg [.int .i64 0,.int .i64 0,.int .i64 0,.int .i64 0]) ⟨a,b⟩ s.bN;have e:(enc (⟨a,b⟩:jI):I)=.agg [.int .i64 a,.int .i64 b]:=rfl;rw[e] at h;have e2:(fun x:aI=>decide ((⟨a,b⟩:jI)=ec x))=fun x=>decide (ec x=⟨a,b⟩):=by
  funext x;rw[Bool.eq_iff_iff];simp[eq_comm]
 rw[e2] at h;simp only[sn];cases hf:s.bN.find? fun x=>decide (ec x=⟨a,b⟩) with
 |none=>rw[hf] at h;exact ⟨ft,rfl,false,h⟩
 |some x=>rw[hf] at h;exact ⟨x,rfl,true,h⟩
theorem xp(a b c d:Int):r0 0 0 none (some [.int .i64 a,.int .i64 b,.int .i64 c,.int .i64 d])=some (.int .i64 a):=rfl
theorem qj(a b:Int):(dY [.int .i64 0,.int .i64 0] [(0,.int .i64 a),(1,.int .i64 b)]).map I.agg=some (.agg [.int .i64 a,.int .i64 b]):=by simp[dY,I.bT,I.size]
instance:Enc az where
 enc s:=c7 s
 sz:=1
 bd:=.one
 im:=false
 done s:=by simp only[c7,I.done,BN]
 size _:=rfl
 jq _:=rfl
 agg _:=rfl
theorem wX(s:az):(enc s:I)=c7 s:=rfl
def aS(l:List aW)(i:Nat):aW:=l.getD i default
theorem mZ{l:List aW}{i:Nat}(h:i<l.length):l[i]=aS l i:=by simp[aS,zz0,h]
def iM(l:List aW)(i:Nat):Bool:=(cK (aS l i)).isSome&&(i==0||decide ((aS l (i-1)).aB<(aS l i).aB))
def qd(l:List aW):Bool:=(List.range l.length).all (iM l)
def mg(l:List aW):List az:=l.filterMap cK
def gF(l:List aW)(b:Int):List az×Int:=if qd l then (if c6 1 9999 b then (mg l,0) else ([],1)) else ([],96)
theorem EG{p:aW}(h:(cK p).isSome=true):0≤p.aB∧p.aB≤5:=by
 obtain ⟨s,hs⟩:=zx1.1 h;have h5:=(fF hs).2.2.2.2.1;simp only[iF,c6,t8,decide_eq_true_eq] at h5;exact h5.1
theorem WA{l:List aW}{n:Nat}(h:∀ j,j<n→iM l j=true):∀ j,j<n→(j:Int)≤(aS l j).aB:=by
 intro j
 induction j with
 |zero =>
  intro hj;have aZ:=h 0 hj;simp only[iM,t8] at aZ;exact (EG aZ.1).1
 |succ j ih =>
  intro hj;have U:=ih (by omega);have ab:=h (j+1) hj;simp only[iM,t8,Bool.or_eq_true,beq_iff_eq,decide_eq_true_eq] at ab;rcases ab.2 with af | af
  ·omega
  ·have:j+1-1=j:=rfl;rw[this] at af;omega
theorem Df{l:List aW}{n:Nat}(h:∀ j,j<n→iM l j=true):n≤6:=by
 rcases Nat.lt_or_ge 6 n with hn | hn
 ·have U:=WA h 6 hn;have ab:=h 6 hn;simp only[iM,t8] at ab;have:=(EG ab.1).2;omega
 ·exact hn
theorem aag{l:List aW}{i:Nat}(h:i<l.length):mg (l.take (i+1))=mg (l.take i)++(match cK (aS l i) with | some s=>[s] | none=>[]):=by
 rw[zy0 h,mZ h];simp only[mg,List.filterMap_append,List.filterMap_cons,List.filterMap_nil];cases cK (aS l i) <;>rfl
theorem GV(l:List aW):(mg l).length≤l.length:=List.length_filterMap_le _ _
theorem Cn{xs:List az} : jS xs.length (some (.bU 68 1 (xs.map enc)))=some (enc xs):=oY 1 rfl rfl
def v8(l:List aW)(b:Int)(t:Nat×List az):ai :=
 au [(0,enc l),(1,.int .i64 b),(6,.own 905 t.2.length),(11,enc l),(12,.int .i64 l.length),(13,.int .i64 t.1)] [(905,.bU 68 1 (t.2.map enc))]
theorem zw(l:List aW)(b:Int):bm Tryd.prog 45 [enc l,enc b] (.tuple [enc (gF l b).1,enc (gF l b).2]):=by
 refine bm.cg Tryd.func45 J9 K2 L4 (u8 rfl) (fun hwf W0 bO E1 =>?_);simp only[AR,FE,bQ,zz1];have hlen:l.length≤maxLen:=((pY l).1 hwf.1).1;simp only[maxLen] at hlen;clear hwf;have R:=y6 @bE (y6 @bp (y6 @bJ (y6 @bw (y6 @br aK))))
 repeat' ((first |(with_reducible refine .guard (fun hb =>?_) (fun hb =>?_) <;>try simp only[hb])|refine ae.aM (by decide +kernel) rfl fun K hK =>?_|(refine .aD [0,1,4,5,6,7,8,9,10,11,12,13,14,39,47] hK ?_;clear hK K)|(with_reducible refine .done (hK _ ?_);clear hK K)|refine ae.of rfl ?_|(with_reducible refine aF.aL (fun h =>?_) (fun h =>?_) <;>try simp only[h])) <;>try simp only[aN,R,simprocAttr])
 all_goals clear R
 refine ae.loop (v8 l b) (fun t=>t.1≤l.length∧(∀ j,j<t.1→iM l j=true)∧t.2=mg (l.take t.1)) (fun t=>l.length-t.1) (0,[]) ⟨zw4 _,by simp,rfl⟩ ?_ ?_
 ·refine bt.tP 6 905 68 1 1 rfl rfl ?_;simp only[v8];refine bt.c8 ?_ ?_ ?_ ?_ <;>simp[cn,cY,cu,cB,av,cw,cW,I.only,I.b6,ao.only,cv]
  all_goals rfl
 rintro ⟨i,xs⟩ ⟨hi,hg,hxs⟩;simp only at hi hg hxs;have hi6:=Df hg;have hxl:xs.length≤i:=by
  rw[hxs];refine Nat.le_trans (GV _) ?_;rw[zx7];omega
 simp only[v8];by_cases hlt:i<l.length
 ·have hc:=h0 hlt;have he:=fun A=>fT (A:=A) 3 hlt rfl;rw[mZ hlt] at he;have hw:=gl (i:=i) (by omega);have hF:=oH (aS l i);have hbad:iM l i=false→gF l b=([],96):=fun h=>by
   have:qd l=false:=by
    simp only[qd,List.all_eq_false];exact ⟨i,zy9.2 hlt,by simp[h]⟩
   simp[gF,this]
  cases ho:cK (aS l i) with
  |none =>
   rw[ho] at hF;simp only[ji] at hF;rw[hbad (by simp[iM,ho])];have R:=y6 @hc (y6 @he (y6 @bE (y6 @bp (y6 @bJ (y6 @bw (y6 @br aK))))))
   repeat' ((first |(with_reducible refine .guard (fun hb =>?_) (fun hb =>?_) <;>try simp only[hb])|refine ae.aM (by decide +kernel) rfl fun K hK =>?_|refine .lead _ (hF) ?_|(refine .aD [0,1,4,5,6,7,8,9,10,11,12,13,14,39,47] hK ?_;clear hK K)|(with_reducible refine .done (hK _ ?_);clear hK K)|refine ae.of rfl ?_|(with_reducible refine aF.aL (fun h =>?_) (fun h =>?_) <;>try simp only[h])) <;>try simp only[aN,R,simprocAttr])
   all_goals clear R
   rfl
  |some s =>
   rw[ho] at hF;simp only[ji] at hF;have hbs:fV 1 (some [c7 s])=some (enc [s]):=kO 1 s rfl;have hap:=fun (A:ai) d rest=>qf (A:=A) (d:=d) 68 1 8 905 (l:=xs.length) (es:=xs) (ys:=[s]) (rest:=rest) rfl rfl (by simp) (by simp[maxLen];omega) (by simp;omega);have hst:mg (l.take (i+1))=xs++[s]:=by rw[aag hlt,ho,hxs]
   have hso:∀ p,(c7 s).only p=true:=fun p=>kD p _ (nC s);by_cases aZ:i=0
   ·have hz:decide ((i:Int)>0)=false:=by simp;omega
    have hgi:iM l i=true:=by simp only[iM,ho];simp[aZ]
    have R:=y6 @hc (y6 @he (y6 @hz (y6 @hw (y6 @hbs (y6 @hap (y6 @bE (y6 @dh (y6 @bp (y6 @bJ (y6 @bw (y6 @br aK)))))))))))
    repeat' ((first |(with_reducible refine .guard (fun hb =>?_) (fun hb =>?_) <;>try simp only[hb])|refine ae.aM (by decide +kernel) rfl fun K hK =>?_|refine .lead _ (hF) ?_|(refine .aD [0,1,4,5,6,7,8,9,10,11,12,13,14,39,47] hK ?_;clear hK K)|(with_reducible refine .done (hK _ ?_);clear hK K)|refine ae.of rfl ?_|(with_reducible refine aF.aL (fun h =>?_) (fun h =>?_) <;>try simp only[h])) <;>try simp only[aN,R,simprocAttr])
    all_goals clear R
    refine ⟨(i+1,xs++[s]),⟨by simp only;omega,fun j hj =>?_,hst.symm⟩,by simp only;omega,?_⟩
    ·by_cases e:j=i
     ·rw[e];exact hgi
     ·exact hg j (by simp only at hj;omega)
    ·simp only;clear hxs hst;refine bt.c8 ?_ ?_ ?_ ?_ <;>simp[*,cn,cY,cu,cB,av,cw,cW,I.only,I.b6,ao.only,eN,j0,cv]
   ·have hz:decide ((i:Int)>0)=true:=by simp;omega
    have hw1:IntKind.i64.wrap ((i:Int)-1)=((i-1:Nat):Int):=by rw[jv _ (by omega) (by omega)];omega
    have he1:∀ A,kq A 3 ((i-1:Nat):Int) (enc l)=some (.ref (enc (aS l (i-1)))):=fun A=>by
     have hlt1:i-1<l.length:=by omega
     have:=fT (A:=A) 3 hlt1 rfl;rw[mZ hlt1] at this;exact this
    rcases q:decide ((aS l (i-1)).aB≥(aS l i).aB)
    ·have hgi:iM l i=true:=by
      have:(aS l (i-1)).aB<(aS l i).aB:=by have:=of_decide_eq_false q;omega
      simp[iM,ho,this]
     have R:=y6 @hc (y6 @he (y6 @hz (y6 @hw1 (y6 @he1 (y6 @q (y6 @hw (y6 @hbs (y6 @hap (y6 @bE (y6 @dh (y6 @bp (y6 @bJ (y6 @bw (y6 @br aK))))))))))))))
     repeat' ((first |(with_reducible refine .guard (fun hb =>?_) (fun hb =>?_) <;>try simp only[hb])|refine ae.aM (by decide +kernel) rfl fun K hK =>?_|refine .lead _ (hF) ?_|(refine .aD [0,1,4,5,6,7,8,9,10,11,12,13,14,39,47] hK ?_;clear hK K)|(with_reducible refine .done (hK _ ?_);clear hK K)|refine ae.of rfl ?_|(with_reducible refine aF.aL (fun h =>?_) (fun h =>?_) <;>try simp only[h])) <;>try simp only[aN,R,simprocAttr])
     all_goals clear R
     refine ⟨(i+1,xs++[s]),⟨by simp only;omega,fun j hj =>?_,hst.symm⟩,by simp only;omega,?_⟩
     ·by_cases e:j=i
      ·rw[e];exact hgi
      ·exact hg j (by simp only at hj;omega)
     ·simp only;clear hxs hst;refine bt.c8 ?_ ?_ ?_ ?_ <;>simp[*,cn,cY,cu,cB,av,cw,cW,I.only,I.b6,ao.only,eN,j0,cv]
    ·have hgi:iM l i=false:=by
      have:¬ (aS l (i-1)).aB<(aS l i).aB:=by have:=of_decide_eq_true q;omega
      simp[iM,this,aZ]
     rw[hbad hgi];have R:=y6 @hc (y6 @he (y6 @hz (y6 @hw1 (y6 @he1 (y6 @q (y6 @hw (y6 @hbs (y6 @hap (y6 @bE (y6 @dh (y6 @bp (y6 @bJ (y6 @bw (y6 @br aK))))))))))))))
     repeat' ((first |(with_reducible refine .guard (fun hb =>?_) (fun hb =>?_) <;>try simp only[hb])|refine ae.aM (by decide +kernel) rfl fun K hK =>?_|refine .lead _ (hF) ?_|(refine .aD [0,1,4,5,6,7,8,9,10,11,12,13,14,39,47] hK ?_;clear hK K)|(with_reducible refine .done (hK _ ?_);clear hK K)|refine ae.of rfl ?_|(with_reducible refine aF.aL (fun h =>?_) (fun h =>?_) <;>try simp only[h])) <;>try simp only[aN,R,simprocAttr])
     all_goals clear R
     rfl
 ·have hge:i=l.length:=by omega
  have hc:=hE hlt;have hx2:xs=mg l:=by rw[hxs,hge,List.take_length]
  have hgood:qd l=true:=zx2.2 fun j hj=>hg j (by have:=zy9.1 hj;omega);have hB:=oI b;simp only[gF,hgood,if_true,←hx2];rw[hge];rw[hge] at hc;rcases q:c6 1 9999 b
  ·rw[q] at hB;have R:=y6 @hc (y6 @Cn (y6 @bE (y6 @bp (y6 @bJ (y6 @bw (y6 @br aK))))))
   repeat' ((first |(with_reducible refine .guard (fun hb =>?_) (fun hb =>?_) <;>try simp only[hb])|refine ae.aM (by decide +kernel) rfl fun K hK =>?_|refine .flat _ (hB) rfl ?_|(refine .aD [0,1,4,5,6,7,8,9,10,11,12,13,14,39,47] hK ?_;clear hK K)|(with_reducible refine .done (hK _ ?_);clear hK K)|refine ae.of rfl ?_|(with_reducible refine aF.aL (fun h =>?_) (fun h =>?_) <;>try simp only[h])) <;>try simp only[aN,R,simprocAttr])
   all_goals clear R
   rfl
  ·rw[q] at hB;have R:=y6 @hc (y6 @Cn (y6 @bE (y6 @bp (y6 @bJ (y6 @bw (y6 @br aK))))))
   repeat' ((first |(with_reducible refine .guard (fun hb =>?_) (fun hb =>?_) <;>try simp only[hb])|refine ae.aM (by decide +kernel) rfl fun K hK =>?_|refine .flat _ (hB) rfl ?_|(refine .aD [0,1,4,5,6,7,8,9,10,11,12,13,14,39,47] hK ?_;clear hK K)|(with_reducible refine .done (hK _ ?_);clear hK K)|refine ae.of rfl ?_|(with_reducible refine aF.aL (fun h =>?_) (fun h =>?_) <;>try simp only[h])) <;>try simp only[aN,R,simprocAttr])
   all_goals clear R
def oG(l:List aW)(b:Int):List Int×Int:=(((gF l b).1.filter fun s=>decide (b∈s.here)).map (·.aB),(gF l b).2)
theorem aaf{l:List aW}{b:Int}{s:az}(h:s∈(gF l b).1):∃ p∈l,cK p=some s:=by
 simp only[gF] at h;split at h
 ·split at h
  ·simp only[mg,List.mem_filterMap] at h;exact h
  ·cases h
 ·cases h
theorem zQ(l:List aW)(b:Int):(gF l b).1.length≤6:=by
 simp only[gF];split
 ·rename_i hg;split
  ·have U:=Df (l:=l) (n:=l.length) fun j hj=>zx2.1 hg j (zy9.2 hj);exact Nat.le_trans (GV l) U
  ·simp
 ·simp
def rm(all:List az)(b:Int):List Int:=(all.filter fun s=>decide (b∈s.here)).map (·.aB)
theorem aaF(all:List az)(b:Int){i:Nat}(h:i<all.length):rm (all.take (i+1)) b=rm (all.take i) b++if b∈all[i].here then [all[i].aB] else []:=by
 rw[zy0 h];simp only[rm,List.filter_append,zy8,zw0,List.filter_nil,decide_eq_true_eq]
 congr 1
 split <;>rfl
def vZ(all:List az)(e b:Int)(t:Nat×List Int):ai :=
 au [(1,.int .i64 b),(7,.int .i64 e),(8,.own 905 t.2.length),(17,enc all),(18,.int .i64 all.length),(19,.int .i64 t.1)] [(905,.bU 3 1 (t.2.map enc))]
theorem Oc{xs:List Int} : jS xs.length (some (.bU 3 1 (xs.map enc)))=some (enc xs):=oY 1 rfl rfl
theorem zp(l:List aW)(b:Int):bm Tryd.prog 19 [enc l,enc b] (.tuple [enc (oG l b).1,enc (oG l b).2]):=by
 refine bm.cg Tryd.func19 JL KF LF (u8 rfl) (fun hwf W0 bO E1 =>?_);simp only[Au,Ff,bQ,zz1];clear hwf;have hF:=zw l b;have hal:=zQ l b;simp only[oG];generalize (gF l b).1=all at *;generalize (gF l b).2=e at *;have R:=y6 @bE (y6 @bp (y6 @bJ (y6 @bw (y6 @br aK))))
 repeat' ((first |(with_reducible refine .guard (fun hb =>?_) (fun hb =>?_) <;>try simp only[hb])|refine ae.aM (by decide +kernel) rfl fun K hK =>?_|refine .lead _ (hF) ?_|(refine .aD [0,1,4,5,6,7,8,10,17,18,19,20,28] hK ?_;clear hK K)|(with_reducible refine .done (hK _ ?_);clear hK K)|refine ae.of rfl ?_|(with_reducible refine aF.aL (fun h =>?_) (fun h =>?_) <;>try simp only[h])) <;>try simp only[aN,R,simprocAttr])
 all_goals clear R
 refine ae.loop (vZ all e b) (fun t=>t.1≤all.length∧t.2=rm (all.take t.1) b) (fun t=>all.length-t.1) (0,[]) ⟨zw4 _,rfl⟩ ?_ ?_
 ·refine bt.tP 8 905 3 1 1 rfl rfl ?_;simp only[vZ];refine bt.c8 ?_ ?_ ?_ ?_ <;>simp[cn,cY,cu,cB,av,cw,cW,I.only,I.b6,ao.only,cv]
  all_goals rfl
 rintro ⟨i,xs⟩ ⟨hi,hxs⟩;simp only at hi hxs;have hxl:xs.length≤i:=by
  rw[hxs,rm,zz7];refine Nat.le_trans (List.length_filter_le _ _) ?_;rw[zx7];omega
 simp only[vZ];by_cases hlt:i<all.length
 ·have hc:=h0 hlt;have he:=fun A=>fT (A:=A) 1 hlt rfl;have hw:=gl (i:=i) (by omega);have hsn:=aaF all b hlt;rw[←hxs] at hsn;obtain ⟨s,hs⟩:∃ s,s=all[i]:=⟨_,rfl⟩
  rw[←hs] at he hsn;simp only[wX] at he;have hlk:=gw eU b s.here;rw[eJ] at hlk;have hbs:fV 1 (some [.int .i64 s.aB])=some (enc [s.aB]):=kO 1 s.aB rfl;have hap:=fun (A:ai) d rest=>qf (A:=A) (d:=d) 3 1 8 905 (l:=xs.length) (es:=xs) (ys:=[s.aB]) (rest:=rest) rfl rfl (by simp) (by simp[maxLen];omega) (by simp;omega);rcases q:decide (b∈s.here)
  ·have hh:b∉s.here:=of_decide_eq_false q;rw[if_neg hh,zy3] at hsn;have R:=y6 @hc (y6 @he (y6 @hw (y6 @hlk (y6 @q (y6 @dh (y6 @bE (y6 @bp (y6 @bJ (y6 @bw (y6 @br aK))))))))))
   repeat' ((first |(with_reducible refine .guard (fun hb =>?_) (fun hb =>?_) <;>try simp only[hb])|refine ae.aM (by decide +kernel) rfl fun K hK =>?_|(refine .aD [0,1,4,5,6,7,8,10,17,18,19,20,28] hK ?_;clear hK K)|(with_reducible refine .done (hK _ ?_);clear hK K)|refine ae.of rfl ?_|(with_reducible refine aF.aL (fun h =>?_) (fun h =>?_) <;>try simp only[h])) <;>try simp only[aN,R,simprocAttr])
   all_goals clear R
   refine ⟨(i+1,xs),⟨by simp only;omega,hsn.symm⟩,by simp only;omega,?_⟩;simp only;clear hxs hsn;refine bt.c8 ?_ ?_ ?_ ?_ <;>simp[cn,cY,cu,cB,av,cw,cW,I.only,ao.only,eN,cv]
  ·have hh:b∈s.here:=of_decide_eq_true q;rw[if_pos hh] at hsn;have R:=y6 @hc (y6 @he (y6 @hw (y6 @hlk (y6 @q (y6 @hbs (y6 @hap (y6 @dh (y6 @bE (y6 @bp (y6 @bJ (y6 @bw (y6 @br aK))))))))))))
   repeat' ((first |(with_reducible refine .guard (fun hb =>?_) (fun hb =>?_) <;>try simp only[hb])|refine ae.aM (by decide +kernel) rfl fun K hK =>?_|(refine .aD [0,1,4,5,6,7,8,10,17,18,19,20,28] hK ?_;clear hK K)|(with_reducible refine .done (hK _ ?_);clear hK K)|refine ae.of rfl ?_|(with_reducible refine aF.aL (fun h =>?_) (fun h =>?_) <;>try simp only[h])) <;>try simp only[aN,R,simprocAttr])
   all_goals clear R
   refine ⟨(i+1,xs++[s.aB]),⟨by simp only;omega,hsn.symm⟩,by simp only;omega,?_⟩;simp only;clear hxs hsn;refine bt.c8 ?_ ?_ ?_ ?_ <;>simp[cn,cY,cu,cB,av,cw,cW,I.only,I.b6,ao.only,eN,j0,cv,eJ]
 ·have hge:i=all.length:=by omega
  have hc:=hE hlt;have hx2:xs=rm all b:=by rw[hxs,hge,List.take_length]
  rw[show ((all.filter fun s=>decide (b∈s.here)).map (·.aB))=xs from hx2.symm];have R:=y6 @hc (y6 @Oc (y6 @bE (y6 @bp (y6 @bJ (y6 @bw (y6 @br aK))))))
  repeat' ((first |(with_reducible refine .guard (fun hb =>?_) (fun hb =>?_) <;>try simp only[hb])|refine ae.aM (by decide +kernel) rfl fun K hK =>?_|(refine .aD [0,1,4,5,6,7,8,10,17,18,19,20,28] hK ?_;clear hK K)|(with_reducible refine .done (hK _ ?_);clear hK K)|refine ae.of rfl ?_|(with_reducible refine aF.aL (fun h =>?_) (fun h =>?_) <;>try simp only[h])) <;>try simp only[aN,R,simprocAttr])
  all_goals clear R
end Go.Proofs.YthbdbocionnfgaaDoor
namespace Go.Proofs.YthbdbocionnfgaaDoor
open Go Go.Abs Go.Shelf
open Go.Abs.Enc (enc)
def W9:Go.Shelf.Ren:=⟨fun | 171=>55 | 243=>72 | 246=>86 | 283=>93 | 284=>94 | 285=>95 | 286=>96 | 129=>83 | 317=>98 | 318=>99 | 319=>100 | 320=>101 | 337=>102 | 338=>103 | n=>n,fun | 3=>3 | 9=>9 | 2=>2 | 4=>4 | 171=>142 | 0=>0 | 53=>133 | 37=>144 | 5=>5 | 173=>145 | 212=>151 | 51=>131 | 20=>20 | 213=>152 | 46=>120 | 232=>153 | 233=>154 | n=>n,fun | 17=>0 | 18=>1 | 19=>2 | n=>n⟩
theorem W8:Go.Proofs.LaysM.n171 Tryd.prog W9 := {
 mixed:=by kernel_rfl
 f129:=Tryd.func83.trans (congrArg some (by kernel_rfl))
 f171:=Tryd.func55.trans (congrArg some (by kernel_rfl))
 f243:=Tryd.func72.trans (congrArg some (by kernel_rfl))
 f246:=Tryd.func86.trans (congrArg some (by kernel_rfl))
 f283:=Tryd.func93.trans (congrArg some (by kernel_rfl))
 f284:=Tryd.func94.trans (congrArg some (by kernel_rfl))
 f285:=Tryd.func95.trans (congrArg some (by kernel_rfl))
 f286:=Tryd.func96.trans (congrArg some (by kernel_rfl))
 f317:=Tryd.func98.trans (congrArg some (by kernel_rfl))
 f318:=Tryd.func99.trans (congrArg some (by kernel_rfl))
 f319:=Tryd.func100.trans (congrArg some (by kernel_rfl))
 f320:=Tryd.func101.trans (congrArg some (by kernel_rfl))
 f337:=Tryd.func102.trans (congrArg some (by kernel_rfl))
 f338:=Tryd.func103.trans (congrArg some (by kernel_rfl))
 t0:=Tryd.underlying0
 a0:=Tryd.isAgg0
 z0:=Tryd.sizeOf0
 v0:=Tryd.zeroValue0
 t2:=Tryd.underlying2
 a2:=Tryd.isAgg2
 z2:=Tryd.sizeOf2
 v2:=Tryd.zeroValue2
 t3:=Tryd.underlying3
 a3:=Tryd.isAgg3
 z3:=Tryd.sizeOf3
 v3:=Tryd.zeroValue3
 t4:=Tryd.underlying4
 a4:=Tryd.isAgg4
 z4:=Tryd.sizeOf4
 v4:=Tryd.zeroValue4
 t5:=Tryd.underlying5
 a5:=Tryd.isAgg5
 z5:=Tryd.sizeOf5
 v5:=Tryd.zeroValue5
 t9:=Tryd.underlying9
 a9:=Tryd.isAgg9
 z9:=Tryd.sizeOf9
 v9:=Tryd.zeroValue9
 t20:=Tryd.underlying20
 a20:=Tryd.isAgg20
 z20:=Tryd.sizeOf20
 v20:=Tryd.zeroValue20
 t37:=Tryd.underlying144
 a37:=Tryd.isAgg144
 z37:=Tryd.sizeOf144
 v37:=Tryd.zeroValue144
 t46:=Tryd.underlying120
 a46:=Tryd.isAgg120
 z46:=Tryd.sizeOf120
 v46:=Tryd.zeroValue120
 t51:=Tryd.underlying131
 a51:=Tryd.isAgg131
 z51:=Tryd.sizeOf131
 v51:=Tryd.zeroValue131
 t53:=Tryd.underlying133
 a53:=Tryd.isAgg133
 z53:=Tryd.sizeOf133
 v53:=Tryd.zeroValue133
 t171:=Tryd.underlying142
 a171:=Tryd.isAgg142
 z171:=Tryd.sizeOf142
 v171:=Tryd.zeroValue142
 t173:=Tryd.underlying145
 a173:=Tryd.isAgg145
 z173:=Tryd.sizeOf145
 v173:=Tryd.zeroValue145
 t212:=Tryd.underlying151
 a212:=Tryd.isAgg151
 z212:=Tryd.sizeOf151
 v212:=Tryd.zeroValue151
 t213:=Tryd.underlying152
 a213:=Tryd.isAgg152
 z213:=Tryd.sizeOf152
 t232:=Tryd.underlying153
 a232:=Tryd.isAgg153
 z232:=Tryd.sizeOf153
 v232:=Tryd.zeroValue153
 t233:=Tryd.underlying154
 a233:=Tryd.isAgg154
 z233:=Tryd.sizeOf154
 v233:=Tryd.zeroValue154
 g17:=by kernel_rfl
 g18:=by kernel_rfl
 g19:=by kernel_rfl
 i0:=by kernel_rfl
 i2:=by kernel_rfl
 i3:=by kernel_rfl
 i4:=by kernel_rfl
 i5:=by kernel_rfl
 i9:=by kernel_rfl
 i20:=by kernel_rfl
 i37:=by kernel_rfl
 i46:=by kernel_rfl
 i51:=by kernel_rfl
 i53:=by kernel_rfl
 i171:=by kernel_rfl
 i173:=by kernel_rfl
 i212:=by kernel_rfl
 i232:=by kernel_rfl
 i233:=by kernel_rfl
 m17:=by kernel_rfl
 m18:=by kernel_rfl
 m19:=by kernel_rfl }
open Go.RowKit Go.Sort Go.Lib in
theorem strconv_Itoa (n : Int) (aZ : -9223372036854775808 ≤ n) (U : n ≤ 9223372036854775807) (w : World) (htab : Lib.TabIs Tryd.prog w "internal/strconv.uint64pow10" .u64 Lib.pow10Tab) :
  Calls Tryd.prog 55 #[.int .i64 n] w fun e w'=>e=.returned (.string ⟨(Lib.itoa n).toArray⟩)∧∃ k os,w'=grow (w.drewN k) os:=Any.strconv_Itoa W8 n aZ U w htab
structure fo where
 b:ByteArray
 deriving DecidableEq
instance:Enc fo where
 enc s:=.bR s.b
 sz:=1
 bd:=.one
 im:=false
 done _:=rfl
 size _:=by simp[I.size]
 jq _:=by simp[I.bd]
 agg _:=rfl
def n0(n:Int):fo:=⟨⟨(Lib.itoa n).toArray⟩⟩
open Go.Sort Go.RowKit in
theorem Ac(w:World)(k:Nat)(os:Array Obj):Go.RowKit.Below w.heap.size w (grow (w.drewN k) os) :=
 ⟨rfl,rfl,rfl,by simp,fun i hi=>by rw[heap_grow_old _ _ (by simpa using hi)];rfl⟩
theorem HW(n:Int):bm Tryd.prog 55 [enc n] (enc (n0 n)):=by
 refine ⟨Kg,fun w D vs hl hD hv =>?_⟩;have hv':aG w D dn [.int .i64 n] vs:=hv;simp only[aG] at hv';obtain ⟨v,rest,cs,rfl,U,ab,rfl⟩:=hv';obtain ⟨rfl,af,aq⟩:=eY (jY U ab);have h3':-9223372036854775808≤n:=af;have h4':n≤9223372036854775807:=aq;have hg:Tryd.prog.globalNamed xQ=some 0:=by kernel_rfl
 have htab:=(hl _ hg).2;refine (strconv_Itoa n h3' h4' w htab).mono ?_;rintro e w' ⟨rfl,k,os,rfl⟩;refine ⟨_,D,rfl,⟨[.string ⟨(Lib.itoa n).toArray⟩],by simp[bG,I.isAgg,enc],?_⟩,Ac w k os,fun b o ah=>Nat.lt_of_lt_of_le (hD b o ah) (Ac w k os).size,fun _ _ h _=>h⟩;have hlen:=Lib.itoa_length_le n h3' h4'
 show al _ _ _ (.bR _) _
 simp only[al];refine ⟨rfl,?_⟩
 show (Lib.itoa n).toArray.size≤maxLen
 simp only[List.size_toArray,maxLen];omega
end Go.Proofs.YthbdbocionnfgaaDoor
namespace Go.Proofs.YthbdbocionnfgaaDoor
open Go Go.Abs
open Go.Abs.Enc (enc)
def pO:fo:=⟨⟨#[32]⟩⟩
def sE:fo:=⟨⟨#[10]⟩⟩
def jP(a b:fo):fo:=⟨a.b++b.b⟩
theorem rL(a b:fo):(jP a b).b.size=a.b.size+b.b.size:=by simp[jP]
theorem tO(a b:fo)(h:a.b.size+b.b.size≤9223372036854775807):cC .add (.bR a.b) (.bR b.b)=some (.bR (jP a b).b):=by
 simp only[cC,if_pos h,jP]
theorem DE{n:Int}(h:IntKind.i64.min≤n∧n≤IntKind.i64.max):(n0 n).b.size≤21:=by
 have:=Lib.itoa_length_le n h.1 h.2
 show (Lib.itoa n).toArray.size≤21
 simpa using this
def kb(w:fo)(l:List Int)(i:Nat):fo:=(l.take i).foldl (fun a n=>jP a (jP pO (n0 n))) w
def nu(w:fo)(l:List Int):fo:=jP (kb w l l.length) sE
theorem Gw(w:fo){l:List Int}{i:Nat}(h:i<l.length):kb w l (i+1)=jP (kb w l i) (jP pO (n0 l[i])):=by
 simp only[kb,zy0 h,List.foldl_append,List.foldl_cons,List.foldl_nil]
theorem yQ(w:fo){l:List Int}(hl:∀ x∈l,IntKind.i64.min≤x∧x≤IntKind.i64.max):∀ i,i≤l.length→(kb w l i).b.size≤w.b.size+22*i
 |0,_=>by simp[kb]
 |i+1,h=>by
  have U:=yQ w hl i (by omega);have ab:=DE (hl l[i] (zw7 _));rw[Gw w (by omega),rL,rL];have af:pO.b.size=1:=rfl;omega
theorem vW(w:fo)(l:List Int)(hb:w.b.size+22*l.length≤1000000000000):bm Tryd.prog 40 [enc w,enc l] (enc (nu w l)):=by
 refine bm.cg Tryd.func40 J4 KY LZ (u8 rfl) (fun hwf W0 bO E1 =>?_);simp only[AN,FA,bQ,zz1];have hlen:l.length≤maxLen:=((pY l).1 hwf.2.1).1;have hwl:∀ x∈l,IntKind.i64.min≤x∧x≤IntKind.i64.max:=fun x hx=>((pY l).1 hwf.2.1).2 x hx;simp only[maxLen] at hlen;have hs:=yQ w hwl;refine .gy (by decide +kernel) fun K hK =>?_;simp only[CQ,bK,simprocAttr];refine .done (hK _ ?_);clear hK K;refine ae.seq ?_;refine .gy (by decide +kernel) fun K hK =>?_;simp only[CR,bK,simprocAttr]
 try simp only[oF,bK,simprocAttr]
 refine .done (hK _ ?_);clear hK K;refine ae.block (ae.loop (fun i:Nat=>au [(0,enc (kb w l i)),(7,enc l),(8,.int .i64 l.length),(9,.int .i64 i)] []) (fun i=>i≤l.length) (fun i=>l.length-i) 0 (zw4 _) ?_ (fun i hi =>?_))
 ·refine bt.c8 ?_ ?_ ?_ ?_ <;>simp[cn,cY,cu,cB,cw,I.only,cv]
  all_goals rfl
 ·refine .gy (by decide +kernel) fun K hK =>?_;simp only[CS,bK,simprocAttr];refine .done (hK _ ?_);clear hK K;refine ae.seq ?_;refine ae.jW ?_;simp only[aF,bK,simprocAttr];refine ⟨fun h =>?_,fun h =>?_⟩
  ·have hlt:i<l.length:=by simpa using h
   refine ae.skip ?_;try simp only[eb,simprocAttr]
   refine ae.seq (ae.block ?_);refine .gy (by decide +kernel) fun K hK =>?_;simp only[CT,bK,simprocAttr]
   try simp only[fT 1 hlt rfl,bK,simprocAttr]
   refine .done (hK _ ?_);clear hK K;refine .kI (by decide +kernel) fun K hK =>?_;simp only[CU,bK,simprocAttr];refine .flat _ (HW l[i]) rfl ?_;have U:=DE (hwl l[i] (zw7 _));have ab:=hs i hi;have af:pO.b.size=1:=rfl
   try simp only[show (I.bR ⟨#[32]⟩)=I.bR pO.b from rfl,show (enc (n0 l[i]):I)=.bR (n0 l[i]).b from rfl,show (enc (kb w l i):I)=.bR (kb w l i).b from rfl,tO pO (n0 l[i]) (by omega),tO (kb w l i) (jP pO (n0 l[i])) (by rw[rL];omega),bK,simprocAttr]
   refine .done (hK _ ?_);clear hK K;try simp only[eb,jL]
   refine .kI (by decide +kernel) fun K hK =>?_;simp only[CV,bK,simprocAttr];refine .done (hK _ ?_);clear hK K;try simp only[eb]
   refine ⟨i+1,by omega,by omega,?_⟩;rw[jv _ (by omega) (by omega),Gw w hlt];refine bt.c8 ?_ ?_ ?_ ?_ <;>simp[cn,cY,cu,cB,cw,I.only,cv]
   all_goals rfl
  ·have hge:i=l.length:=by simp at h;omega
   subst hge;refine ae.exit ?_;try simp only[eb,jL,simprocAttr]
   have ab:=hs l.length (zz5 _);have af:sE.b.size=1:=rfl;refine .gy (by decide +kernel) fun K hK =>?_;simp only[CW,bK,simprocAttr]
   try simp only[show (I.bR ⟨#[10]⟩)=I.bR sE.b from rfl,show (enc (kb w l l.length):I)=.bR (kb w l l.length).b from rfl,tO (kb w l l.length) sE (by omega),bK,simprocAttr]
   refine .done (hK _ ?_);clear hK K;refine ae.ret ?_;simp only[bK,simprocAttr];rfl
def mn:List fo:=[⟨⟨#[]⟩⟩,⟨⟨#[112,111,117,110,100]⟩⟩,⟨⟨#[114,101,108,101,97,115,101]⟩⟩,⟨⟨#[115,101,110,100]⟩⟩,⟨⟨#[99,97,108,108]⟩⟩,⟨⟨#[100,111,110,101]⟩⟩,⟨⟨#[98,97,99,107]⟩⟩,⟨⟨#[116,97,107,101]⟩⟩,⟨⟨#[114,101,102,117,115,101]⟩⟩]
theorem Jy:fV 1 (some [I.bR ⟨#[]⟩,I.bR ⟨#[112,111,117,110,100]⟩,I.bR ⟨#[114,101,108,101,97,115,101]⟩,I.bR ⟨#[115,101,110,100]⟩,I.bR ⟨#[99,97,108,108]⟩,I.bR ⟨#[100,111,110,101]⟩,I.bR ⟨#[98,97,99,107]⟩,I.bR ⟨#[116,97,107,101]⟩,I.bR ⟨#[114,101,102,117,115,101]⟩])=some (enc mn):=by
 have h:fV 1 (some (mn.map (enc (α:=fo))))=some (enc mn):=by
  simp only[fV];rw[if_pos ⟨by simp[Enc.size];exact fun _ _=>rfl,iJ _⟩];rfl
 exact h
theorem zu:bm Tryd.prog 41 [] (enc mn):=by
 refine bm.cg Tryd.func41 J5 KZ L0 (u8 rfl) (fun hwf W0 bO E1 =>?_);simp only[AO,FB,bQ];have R:=y6 @Jy aK
 repeat' ((first |(with_reducible refine .guard (fun hb =>?_) (fun hb =>?_) <;>try simp only[hb])|refine ae.aM (by decide +kernel) rfl fun K hK =>?_|(refine .aD [0] hK ?_;clear hK K)|(with_reducible refine .done (hK _ ?_);clear hK K)|refine ae.of rfl ?_|(with_reducible refine aF.aL (fun h =>?_) (fun h =>?_) <;>try simp only[h])) <;>try simp only[aN,R,simprocAttr])
 all_goals clear R
 all_goals rfl
def wY:fo:=⟨⟨#[]⟩⟩
def px:fo:=⟨⟨#[112,111,117,110,100]⟩⟩
def kM(k:Int):fo:=mn.getD k.toNat wY
def n5(x:aI):fo:=if x.kind≤2 then nu (kM x.kind) [x.aC] else nu (kM x.kind) [x.aC,x.other,x.no]
def nc(p:aW)(i:Nat):fo:=(p.j.take i).foldl (fun a x=>jP a (n5 x)) (nu px [p.aB,p.cq])
def vi(p:aW):fo×Int:=match cK p with
 |none=>(wY,91)
 |some _=>(nc p p.j.length,0)
theorem He(k:Int):(kM k).b.size≤7:=by
 have h:∀ x∈mn,x.b.size≤7:=by decide
 simp only[kM,zz0];cases hk:mn[k.toNat]? with
 |none=>exact zw4 _
 |some x=>exact h x (List.mem_of_getElem? hk)
theorem yR(w:fo){l:List Int}(hl:∀ x∈l,IntKind.i64.min≤x∧x≤IntKind.i64.max):(nu w l).b.size≤w.b.size+22*l.length+1:=by
 have:=yQ w hl l.length (zz5 _);rw[nu,rL];have:sE.b.size=1:=rfl;omega
theorem xG{n:Int}(h:-100000≤n∧n≤100000):IntKind.i64.min≤n∧n≤IntKind.i64.max:=by
 have U:IntKind.i64.min=-9223372036854775808:=by decide
 have ab:IntKind.i64.max=9223372036854775807:=by decide
 omega
theorem Ew{x:aI}(h:gU x=true):(1≤x.kind∧x.kind≤8)∧(1≤x.aC∧x.aC≤9999)∧(0≤x.other∧x.other≤5)∧(0≤x.no∧x.no≤200):=by
 simp only[gU,c6] at h;split at h
 ·simp only[t8,decide_eq_true_eq,beq_iff_eq] at h;omega
 ·split at h
  ·simp only[t8,decide_eq_true_eq] at h;omega
  ·cases h
theorem DU{x:aI}(h:gU x=true):(n5 x).b.size≤74:=by
 obtain ⟨_,ab,af,aq⟩:=Ew h;have hw:=He x.kind;simp only[n5];split
 ·have:=yR (kM x.kind) (l:=[x.aC]) (by simp only[zy1,forall_eq];exact xG (by omega));simp only[zv1,List.length_nil] at this;omega
 ·have:=yR (kM x.kind) (l:=[x.aC,x.other,x.no]) (by
   intro y hy;simp only[zw9,List.not_mem_nil,or_false] at hy;rcases hy with rfl | rfl | rfl <;>exact xG (by omega))
  simp only[zv1,List.length_nil] at this;omega
theorem Gy:∀ {l:List aI} {s s':az},fO s l=some s'→∀ x∈l,gU x=true
 | [],_,_,_,x,hx=>by cases hx
 |y::l,s,s',h,x,hx=>by
  simp only[fO] at h;cases hy:eS s y with
  |none=>rw[hy] at h;cases h
  |some s2 =>
   rw[hy] at h;rcases zw9.1 hx with rfl | hx
   ·simp only[eS] at hy;split at hy
    ·assumption
    ·cases hy
   ·exact Gy h x hx
theorem EH{p:aW}{s:az}(h:cK p=some s):∀ x∈p.j,gU x=true:=Gy (fF h).2.2.2.2.2
theorem EX(p:aW){i:Nat}(h:i<p.j.length):nc p (i+1)=jP (nc p i) (n5 p.j[i]):=by
 simp only[nc,zy0 h,List.foldl_append,List.foldl_cons,List.foldl_nil]
theorem EW{p:aW}{s:az}(ho:cK p=some s):∀ i,i≤p.j.length→(nc p i).b.size≤50+74*i
 |0,_=>by
  have h5:=(fF ho).2.2.2.2.1;have aq:=(fF ho).2.2.2.1;simp only[iF,c6,t8,decide_eq_true_eq] at h5;have:=yR px (l:=[p.aB,p.cq]) (by
   intro y hy;simp only[zw9,List.not_mem_nil,or_false] at hy;rcases hy with rfl | rfl <;>exact xG (by omega))
  have hp:px.b.size=5:=rfl;simp only[zv1,List.length_nil] at this
  show (nu px [p.aB,p.cq]).b.size≤_
  omega
 |i+1,h=>by
  have U:=EW ho i (by omega);have ab:=DU (EH ho p.j[i] (zw7 _));rw[EX p (by omega),rL];omega
theorem Ak(a:Int):fV 1 (some [.int .i64 a])=some (enc [a]):=rJ (ys:=[a]) 1 rfl
theorem Jz(a b:Int):fV 1 (some [.int .i64 a,.int .i64 b])=some (enc [a,b]):=rJ (ys:=[a,b]) 1 rfl
theorem JA(a b c:Int):fV 1 (some [.int .i64 a,.int .i64 b,.int .i64 c])=some (enc [a,b,c]):=rJ (ys:=[a,b,c]) 1 rfl
theorem WN{k:Int}(h:1≤k∧k≤8)(A:ai):kq A 1 k (enc mn)=some (.ref (enc (kM k))):=by
 have hk:k.toNat<mn.length:=by show k.toNat<9;omega
 have:=fT (A:=A) (l:=mn) (k:=k.toNat) 1 hk rfl;have e:((k.toNat:Nat):Int)=k:=by omega
 rw[e] at this;rw[this];simp[kM,zz0,hk]
def zJ(p:aW)(i:Nat):ai :=
 au [(1,.ptr 1 []),(5,enc (nc p i)),(20,enc p.j),(21,.int .i64 p.j.length),(22,.int .i64 i)] [(1,.box (enc p))]
theorem Hu(p:aW):bm Tryd.prog 17 [enc p] (.tuple [enc (vi p).1,enc (vi p).2]):=by
 refine bm.cg Tryd.func17 JJ KD LC (u8 rfl) (fun hwf W0 bO E1 =>?_);simp only[Ar,Fc,bQ];clear hwf;have hF:=rz p;simp only[oU] at hF;simp only[vi];have e0:(I.bR ⟨#[]⟩)=enc wY:=rfl;have e1:(I.bR ⟨#[112,111,117,110,100]⟩)=enc px:=rfl;cases ho:cK p with
 |none =>
  rw[ho] at hF;have R:=y6 @bE (y6 @bp (y6 @bJ (y6 @bw (y6 @br aK))))
  repeat' ((first |(with_reducible refine .guard (fun hb =>?_) (fun hb =>?_) <;>try simp only[hb])|refine ae.aM (by decide +kernel) rfl fun K hK =>?_|refine .lead _ (hF) ?_|(refine .aD [0,1,2,3,4,5,7,11,20,21,22,23,28] hK ?_;clear hK K)|(with_reducible refine .done (hK _ ?_);clear hK K)|refine ae.of rfl ?_|(with_reducible refine aF.aL (fun h =>?_) (fun h =>?_) <;>try simp only[h])) <;>try simp only[aN,R,simprocAttr])
  all_goals clear R
  all_goals rfl
 |some s =>
  have hjl:=(fF ho).2.2.2.1;have hok:=EH ho;have hsz:=EW ho;have hp:px.b.size=5:=rfl;have hR:=vW px [p.aB,p.cq] (by simp[hp]);rw[ho] at hF;have R:=y6 @Jz (y6 @bE (y6 @bp (y6 @bJ (y6 @bw (y6 @br aK)))))
  repeat' ((first |(with_reducible refine .guard (fun hb =>?_) (fun hb =>?_) <;>try simp only[hb])|refine ae.aM (by decide +kernel) rfl fun K hK =>?_|refine .lead _ (hF) ?_|refine .flat _ (hR) rfl ?_|(refine .aD [0,1,2,3,4,5,7,11,20,21,22,23,28] hK ?_;clear hK K)|(with_reducible refine .done (hK _ ?_);clear hK K)|refine ae.of rfl ?_|(with_reducible refine aF.aL (fun h =>?_) (fun h =>?_) <;>try simp only[h])) <;>try simp only[aN,R,simprocAttr])
  all_goals clear R
  refine ae.loop (zJ p) (fun i=>i≤p.j.length) (fun i=>p.j.length-i) 0 (zw4 _) ?_ ?_
  ·refine bt.c8 ?_ ?_ ?_ ?_ <;>simp[cn,cY,cu,cB,av,cw,cW,I.only,ao.only,cv]
   all_goals rfl
  intro i hi;simp only[zJ];have hsi:=hsz i hi;by_cases hlt:i<p.j.length
  ·have hc:=h0 hlt;have he:=fun A=>fT (A:=A) 4 hlt rfl;have hw:=gl (i:=i) (by omega);have hst:∀ A rest b,da A (some 4) 7 [] b (enc p.j[i]) rest (some (.agg [.int .i64 0,.int .i64 0,.int .i64 0,.int .i64 0]))=aA rest (A.aV 7 (.box (enc p.j[i]))):=fun A rest b=>dS (eF _) (by rw[fB];rfl) (fg _);have hoki:=hok p.j[i] (zw7 hlt);have hls:=DU hoki;obtain ⟨hk,hk2⟩:=Ew hoki;have hwd:=WN hk;have hps:=EX p hlt;have hww:=He p.j[i].kind;generalize p.j[i]=x at *;have hadd:∀ l:fo,l.b.size≤74→cC .add (enc (nc p i)) (enc l)=some (enc (jP (nc p i) l)):=fun l h=>tO (nc p i) l (by omega);rcases q:decide (x.kind≤2)
   ·have hh:¬ x.kind≤2:=of_decide_eq_false q;have hl:n5 x=nu (kM x.kind) [x.aC,x.other,x.no]:=by simp[n5,hh]
    rw[hl] at hls hps;have hR2:=vW (kM x.kind) [x.aC,x.other,x.no] (by simp;omega);have had:=hadd _ hls;have R:=y6 @hc (y6 @he (y6 @hw (y6 @hst (y6 @hwd (y6 @q (y6 @had (y6 @JA (y6 @bE (y6 @bp (y6 @bJ (y6 @bw (y6 @br aK))))))))))))
    repeat' ((first |(with_reducible refine .guard (fun hb =>?_) (fun hb =>?_) <;>try simp only[hb])|refine ae.aM (by decide +kernel) rfl fun K hK =>?_|refine .lead _ (zu) ?_|refine .flat _ (hR2) rfl ?_|(refine .aD [0,1,2,3,4,5,7,11,20,21,22,23,28] hK ?_;clear hK K)|(with_reducible refine .done (hK _ ?_);clear hK K)|refine ae.of rfl ?_|(with_reducible refine aF.aL (fun h =>?_) (fun h =>?_) <;>try simp only[h])) <;>try simp only[aN,R,simprocAttr])
    all_goals clear R
    refine ⟨i+1,by omega,by omega,?_⟩;rw[hps];refine bt.c8 ?_ ?_ ?_ ?_ <;>simp[cn,cY,cu,cB,av,cw,cW,I.only,ao.only,cv]
    all_goals rfl
   ·have hh:x.kind≤2:=of_decide_eq_true q;have hl:n5 x=nu (kM x.kind) [x.aC]:=by simp[n5,hh]
    rw[hl] at hls hps;have hR2:=vW (kM x.kind) [x.aC] (by simp;omega);have had:=hadd _ hls;have R:=y6 @hc (y6 @he (y6 @hw (y6 @hst (y6 @hwd (y6 @q (y6 @had (y6 @Ak (y6 @bE (y6 @bp (y6 @bJ (y6 @bw (y6 @br aK))))))))))))
    repeat' ((first |(with_reducible refine .guard (fun hb =>?_) (fun hb =>?_) <;>try simp only[hb])|refine ae.aM (by decide +kernel) rfl fun K hK =>?_|refine .lead _ (zu) ?_|refine .flat _ (hR2) rfl ?_|(refine .aD [0,1,2,3,4,5,7,11,20,21,22,23,28] hK ?_;clear hK K)|(with_reducible refine .done (hK _ ?_);clear hK K)|refine ae.of rfl ?_|(with_reducible refine aF.aL (fun h =>?_) (fun h =>?_) <;>try simp only[h])) <;>try simp only[aN,R,simprocAttr])
    all_goals clear R
    refine ⟨i+1,by omega,by omega,?_⟩;rw[hps];refine bt.c8 ?_ ?_ ?_ ?_ <;>simp[cn,cY,cu,cB,av,cw,cW,I.only,ao.only,cv]
    all_goals rfl
  ·have hge:i=p.j.length:=by omega
   have hc:=hE hlt;subst hge;have R:=y6 @hc (y6 @bE (y6 @bp (y6 @bJ (y6 @bw (y6 @br aK)))))
   repeat' ((first |(with_reducible refine .guard (fun hb =>?_) (fun hb =>?_) <;>try simp only[hb])|refine ae.aM (by decide +kernel) rfl fun K hK =>?_|(refine .aD [0,1,2,3,4,5,7,11,20,21,22,23,28] hK ?_;clear hK K)|(with_reducible refine .done (hK _ ?_);clear hK K)|refine ae.of rfl ?_|(with_reducible refine aF.aL (fun h =>?_) (fun h =>?_) <;>try simp only[h])) <;>try simp only[aN,R,simprocAttr])
   all_goals clear R
theorem cj.tz{P:Program}{Y:Value→List I→List (Nat×ao)→cA→Prop}{hs:List FuncId}{K:ai→Prop}{v:Value}{vs:List I}{dst:Option Nat}{rest:List aw}{ts:List (Nat×I)}{os osk ow:List (Nat×ao)}{In Ix:List (Nat×ao)→Prop}
  (hY:Y v vs osk (fun r os2=>(r=.bool true∧In os2)∨(r=.bool false∧Ix os2))) (hk:e7 os osk) (hi:∀ os',In os'→e7 os os') (hx:∀ os',Ix os'→e7 os os') (hcl:I.b9 vs=true) (how:∀ m,av ow m=true→m<1000000)
  (U:∀ os2,In os2→cj P Y hs K (aA rest ((au ts (ow++os2)).aX dst (.bool true)))) (ab:∀ os2,Ix os2→cj P Y hs K (aA rest ((au ts (ow++os2)).aX dst (.bool false)))) :
  cj P Y hs K (.lE v vs dst rest (au ts (ow++osk))):=by
 refine .Hf osk vs _ hY (gE.fX hk how) (tT vs hcl) ?_ ?_
 ·rintro r os' (⟨rfl,h⟩ | ⟨rfl,h⟩)
  ·exact gm.fX hk (hi _ h) rfl
  ·exact gm.fX hk (hx _ h) rfl
 ·rintro r os' (⟨rfl,h⟩ | ⟨rfl,h⟩)
  ·rw[tU hk (hi _ h) how];exact U os' h
  ·rw[tU hk (hx _ h) how];exact ab os' h
theorem r6{os os2 ow:List (Nat×ao)}{ts:List (Nat×I)}(h:e7 os os2)(how:∀ m,av ow m=true→m<1000000):∀ n x,aj os2 n=some x→(au ts (ow++os2)).o n=some x∧x.only (av os2)=true∧x.eg=true:=fun n x hx=>by
 have hn:av os2 n=true:=by simp[av,hx]
 have hg:=h.mL n (by rw[←h.same];exact hn);refine ⟨?_,h.ok n x hx⟩;simp only[au,fU];cases hw:aj ow n with
 |none=>exact hx
 |some y=>have:=how n (by simp[av,hw]);omega
def vp:cL:=⟨0,0,0,0,0⟩
def oj(s:az)(to n:Int):cL:=⟨if (s.bh (n.toNat-1)).ev then 3 else 1,s.aB,to,(s.bh (n.toNat-1)).aC,n⟩
def pV(s:az)(to n:Int):Bool:=(s.bh (n.toNat-1)).to==to
def gv(s:az)(to:Int)(i:Nat):List cL:=(((bY s.bu).take i).filter (pV s to)).map (oj s to)
def kX(s:az)(to:Int)(no:Nat):List cL:=match s.bN.find? fun x=>decide (ec x=⟨to,no⟩) with
 |some x=>[⟨if x.kind=8 then 4 else 2,s.aB,to,x.aC,no⟩]
 |none=>[]
def hX(s:az)(to:Int)(k:Nat):List cL:=(List.range k).flatMap fun i=>kX s to (i+1)
def fG(s:az)(to:Int):List cL:=gv s to (bY s.bu).length++hX s to 200
theorem xK(s:az)(to:Int){i:Nat}(h:i<(bY s.bu).length):gv s to (i+1)=gv s to i++if pV s to (bY s.bu)[i] then [oj s to (bY s.bu)[i]] else []:=by
 simp only[gv,zy0 h,List.filter_append,zy8,zw0,List.filter_nil]
 congr 1
 split <;>rfl
theorem qF(s:az)(to:Int)(k:Nat):hX s to (k+1)=hX s to k++kX s to (k+1):=by
 simp only[hX,List.range_succ,List.flatMap_append,List.flatMap_cons,List.flatMap_nil,zy3]
theorem Dz(s:az)(to:Int):∀ {i n:Nat},i≤n→n≤(bY s.bu).length→gv s to i <+: gv s to n
 |i,0,h,_=>by
   have:i=0:=by omega
   subst this;exact List.prefix_rfl
 |i,n+1,h,hn=>by
  by_cases e:i=n+1
  ·subst e;exact List.prefix_rfl
  ·rw[xK s to (by omega)];exact (Dz s to (by omega) (by omega)).trans (List.prefix_append _ _)
theorem DC(s:az)(to:Int):∀ {k n:Nat},k≤n→hX s to k <+: hX s to n
 |k,0,h=>by
   have:k=0:=by omega
   subst this;exact List.prefix_rfl
 |k,n+1,h=>by
  by_cases e:k=n+1
  ·subst e;exact List.prefix_rfl
  ·rw[qF];exact (DC s to (by omega)).trans (List.prefix_append _ _)
theorem C8{α:Type}{l m:List α}{x d:α}(h:l++[x] <+: m):l.length<m.length∧m.getD l.length d=x:=by
 obtain ⟨r,rfl⟩:=h;refine ⟨by simp,?_⟩;rw[zz9,zz0,zw5 (zz5 _)];simp
theorem V5{s:az}{to:Int}{i:Nat}(h:i<(bY s.bu).length)(ht:pV s to (bY s.bu)[i]=true):(gv s to i).length<(fG s to).length∧(fG s to).getD (gv s to i).length vp=oj s to (bY s.bu)[i]:=by
 have U:=xK s to h;rw[if_pos ht] at U;have ab:=Dz s to (i:=i+1) (n:=(bY s.bu).length) (by omega) (zz5 _);rw[U] at ab;exact C8 (ab.trans (List.prefix_append _ _))
theorem V6{s:az}{to:Int}{k:Nat}{x:cL}(h:k<200)(hx:kX s to (k+1)=[x]):(gv s to (bY s.bu).length++hX s to k).length<(fG s to).length∧(fG s to).getD (gv s to (bY s.bu).length++hX s to k).length vp=x:=by
 have U:=qF s to k;rw[hx] at U;have ab:=DC s to (k:=k+1) (n:=200) (by omega);rw[U] at ab;refine C8 ?_;rw[zz9];exact List.prefix_append_right_inj _ |>.2 ab
theorem qi(a b c d e:Int):(dY [.int .i64 0,.int .i64 0,.int .i64 0,.int .i64 0,.int .i64 0] [(0,.int .i64 a),(1,.int .i64 b),(2,.int .i64 c),(3,.int .i64 d),(4,.int .i64 e)]).map I.agg=some (enc (⟨a,b,c,d,e⟩:cL)):=by simp[dY,I.bT,I.size];rfl
theorem oC:(∀ A n b rest (q:cL) x y z w u,da A (some 5) n [] b (enc q) rest (some (.agg [.int .i64 x,.int .i64 y,.int .i64 z,.int .i64 w,.int .i64 u]))=aA rest (A.aV n (.box (enc q)))) ∧
  (∀ (A:ai) n (q:cL) rest (v u:Int),da A none n [0] (enc q) (.int .i64 v) rest (some (.int .i64 u))=aA rest (A.aV n (.box (enc (⟨v,q.fC,q.to,q.aC,q.no⟩:cL))))) ∧
  (∀ A n b rest (q:aI) x y z w,da A (some 4) n [] b (enc q) rest (some (.agg [.int .i64 x,.int .i64 y,.int .i64 z,.int .i64 w]))=aA rest (A.aV n (.box (enc q)))) :=
 ⟨fun A n b rest q x y z w u=>dS (eF _) (by rw[fB];rfl) (fg _),fun A n q rest v u=>dS rfl rfl rfl,fun A n b rest q x y z w=>dS (eF _) (by rw[fB];rfl) (fg _)⟩
theorem vb{a b:ao} : ∀ m,av [(7,a),(7,b)] m=true→m<1000000:=fun m h=>by
 simp only[av,aj] at h
 (repeat' split at h) <;>first | omega | (simp at h;done)
theorem vc{a b c:ao} : ∀ m,av [(7,a),(7,b),(7,c)] m=true→m<1000000:=fun m h=>by
 simp only[av,aj] at h
 (repeat' split at h) <;>first | omega | (simp at h;done)
theorem u9{a b c d:ao} : ∀ m,av [(11,a),(11,b),(9,c),(9,d)] m=true→m<1000000:=fun m h=>by
 simp only[av,aj] at h
 (repeat' split at h) <;>first | omega | (simp at h;done)
theorem yu{a b c d e:ao} : ∀ m,av [(11,a),(11,b),(11,e),(9,c),(9,d)] m=true→m<1000000:=fun m h=>by
 simp only[av,aj] at h
 (repeat' split at h) <;>first | omega | (simp at h;done)
theorem YF:∀ m,av [] m=true→m<1000000:=fun m h=>by simp[av,aj] at h
theorem oV{ow os osk:List (Nat×ao)}(hw:∀ m,av ow m=true→m<1000000)(gk:e7 os osk):∀ m,aj osk m=none∨aj osk m=aj (ow++osk) m:=fun m=>by
 rw[fU];cases h:aj ow m with
 |none=>exact .inr rfl
 |some y=>exact .inl (gk.none (hw m (by simp[av,h])))
theorem pP(p:Nat→Bool)(s:az):(c7 s).only p=true:=kD p _ (nC s)
def tM(s:az)(to:Int)(v:Value)(t:Nat×List (Nat×ao)):ai :=
 au [(0,.raw v),(1,.ref (c7 s)),(2,.ref (.int .i64 to)),(8,.int .i64 ((t.1:Int)+1))] t.2
def tL(s:az)(to:Int)(v:Value)(t:Nat×List (Nat×ao)):ai :=
 au [(0,.raw v),(1,.ref (c7 s)),(2,.ref (.int .i64 to)),(13,enc (bY s.bu)),(14,.int .i64 (bY s.bu).length),(15,.int .i64 t.1)] t.2
theorem HV(s:az)(to:Int)(hl:s.aQ.length≤1000):zF Tryd.prog 54 [.ref (c7 s),.ref (enc to)] (fG s to).length (fun k=>[enc ((fG s to).getD k vp)]):=by
 intro Y v ar Ix os hv hY hI hIx aZ;have hG:=hI 0 os aZ;have hlen:(bY s.bu).length=s.aQ.length:=by simp[bY,az.bu]
 have hN:=vV s (by omega);refine lq.cg Tryd.func54 Bh K9 Mb (u8 rfl) (u8 rfl) hG.mL (fun hwf W0 bO E1 =>?_);simp only[AX,FL,bQ,zz1,Nat.reduceAdd];have R:=y6 @dh (y6 @bp (y6 @bJ (y6 @bw (y6 @br aK))))
 repeat' ((first |(with_reducible refine .guard (fun hb =>?_) (fun hb =>?_) <;>try simp only[hb])|refine ae.aM (by decide +kernel) rfl fun K hK =>?_|refine .lead _ (hN) ?_|(refine .aD [0,1,2,5,6,7,8,9,10,11,13,14,15,16,39,52,55,80,88] hK ?_;clear hK K)|(with_reducible refine .done (hK _ ?_);clear hK K)|refine ae.of rfl ?_|(with_reducible refine aF.aL (fun h =>?_) (fun h =>?_) <;>try simp only[h])) <;>try simp only[aN,R,simprocAttr])
 all_goals clear R
 refine ae.loop (tL s to v) (fun t=>t.1≤(bY s.bu).length∧ar (gv s to t.1).length t.2) (fun t=>(bY s.bu).length-t.1) (0,os) ⟨zw4 _,aZ⟩ ?_ ?_
 ·refine bt.slots ?_ (fun n=>rfl);simp[cn,cw]
 rintro ⟨i,osk⟩ ⟨hi,hIk⟩;simp only at hi hIk;have gk:=hI _ osk hIk;have lR:=gk.none (n:=7) (by decide);simp only[tL];by_cases hlt:i<(bY s.bu).length
 ·have hc:=h0 hlt;have he:=fun A=>fT (A:=A) 1 hlt rfl;have hw:=gl (i:=i) (by omega);have hlk:=xU s hlt;have hsu:=xK s to hlt;have hra:=V5 (s:=s) (to:=to) hlt;obtain ⟨n,hn⟩:∃ n,n=(bY s.bu)[i]:=⟨_,rfl⟩
  rw[←hn] at he hlk hsu hra;obtain ⟨r,hr⟩:∃ r,r=s.bh (n.toNat-1):=⟨_,rfl⟩
  have hrd:oj s to n=⟨if r.ev then 3 else 1,s.aB,to,r.aC,n⟩:=by simp only[oj,←hr]
  have hta:pV s to n=(r.to==to):=by simp only[pV,←hr]
  rw[←hr] at hlk;rcases q:(r.to==to)
  ·rw[q] at hta;rw[hta] at hsu;simp only[zz3,if_false,zy3] at hsu;rcases qc:r.ev
   all_goals
    have R:=y6 @hc (y6 @he (y6 @hw (y6 @hlk (y6 @q (y6 @qc (y6 @lR (y6 @qi (y6 @oC (y6 @dh (y6 @bp (y6 @bJ (y6 @bw (y6 @br aK)))))))))))))
    repeat' ((first |(with_reducible refine .guard (fun hb =>?_) (fun hb =>?_) <;>try simp only[hb])|(refine ae.sZ (gs:=o5) [] [] [0,1,2,3,4,5,6,7,8,9,10,11] (by decide +kernel) (dy.of (by simp[gI])) fun K hK =>?_;simp only[gJ,o5,zx8,zx9,R,simprocAttr])|refine ae.aM (by decide +kernel) rfl fun K hK =>?_|(refine .aD [0,1,2,5,6,7,8,9,10,11,13,14,15,16,39,52,55,80,88] hK ?_;clear hK K)|(with_reducible refine .done (hK _ ?_);clear hK K)|refine ae.of rfl ?_|(with_reducible refine aF.aL (fun h =>?_) (fun h =>?_) <;>try simp only[h])) <;>try simp only[aN,R,simprocAttr])
    all_goals clear R
    refine ⟨(i+1,osk),⟨by simp only;omega,by simp only[hsu];exact hIk⟩,by simp only;omega,?_⟩;refine bt.fn ?_ ?_ ?_ (fun m x h=>(gk.ok m x h).1)
    ·simp[cn,cw]
    ·first | exact oV (ow:=[(7,_),(7,_)]) vb gk | exact oV (ow:=[(7,_),(7,_),(7,_)]) vc gk
    ·simp[cu,I.only,cv,pP]
  ·rw[q] at hta;rw[hta,if_pos rfl] at hsu;obtain ⟨g1,g2⟩:=hra hta;have hs1:(gv s to (i+1)).length=(gv s to i).length+1:=by rw[hsu];simp
   have hy:=hY _ osk _ g1 hIk (fun r os2 h=>h);simp only[g2,hrd] at hy;rcases qc:r.ev
   ·rw[qc] at hy;simp only[zz3,if_false] at hy;have R:=y6 @hc (y6 @he (y6 @hw (y6 @hlk (y6 @q (y6 @qc (y6 @lR (y6 @qi (y6 @oC (y6 @tZ (y6 @dh (y6 @bp (y6 @bJ (y6 @bw (y6 @br aK))))))))))))))
    repeat' ((first |(with_reducible refine .guard (fun hb =>?_) (fun hb =>?_) <;>try simp only[hb])|(refine ae.sZ (gs:=o5) [] [] [0,1,2,3,4,5,6,7,8,9,10,11] (by decide +kernel) (dy.of (by simp[gI])) fun K hK =>?_;simp only[gJ,o5,zx8,zx9,R,simprocAttr])|refine ae.aM (by decide +kernel) rfl fun K hK =>?_|refine cj.tz (ow:=[(7,_),(7,_)]) hy gk (hI _) hIx (by simp[I.b9,kl]) vb (fun os2 ab =>?_) (fun os2 ab =>?_)|(refine .aD [0,1,2,5,6,7,8,9,10,11,13,14,15,16,39,52,55,80,88] hK ?_;clear hK K)|(with_reducible refine .done (hK _ ?_);clear hK K)|refine ae.of rfl ?_|(with_reducible refine aF.aL (fun h =>?_) (fun h =>?_) <;>try simp only[h])) <;>try simp only[aN,R,simprocAttr])
    all_goals clear R
    ·have g3:=hI _ os2 ab;refine ⟨(i+1,os2),⟨by simp only;omega,by simp only[hs1];exact ab⟩,by simp only;omega,?_⟩;refine bt.fn ?_ (oV vb g3) ?_ (fun m x h=>(g3.ok m x h).1)
     ·simp[cn,cw]
     ·simp[cu,I.only,cv,pP]
    ·rw[nm];exact ⟨os2,[],r6 (hIx os2 ab) vb,trivial,rfl,.inr ab⟩
   ·rw[qc] at hy;simp only[if_true] at hy;have R:=y6 @hc (y6 @he (y6 @hw (y6 @hlk (y6 @q (y6 @qc (y6 @lR (y6 @qi (y6 @oC (y6 @tZ (y6 @dh (y6 @bp (y6 @bJ (y6 @bw (y6 @br aK))))))))))))))
    repeat' ((first |(with_reducible refine .guard (fun hb =>?_) (fun hb =>?_) <;>try simp only[hb])|(refine ae.sZ (gs:=o5) [] [] [0,1,2,3,4,5,6,7,8,9,10,11] (by decide +kernel) (dy.of (by simp[gI])) fun K hK =>?_;simp only[gJ,o5,zx8,zx9,R,simprocAttr])|refine ae.aM (by decide +kernel) rfl fun K hK =>?_|refine cj.tz (ow:=[(7,_),(7,_),(7,_)]) hy gk (hI _) hIx (by simp[I.b9,kl]) vc (fun os2 ab =>?_) (fun os2 ab =>?_)|(refine .aD [0,1,2,5,6,7,8,9,10,11,13,14,15,16,39,52,55,80,88] hK ?_;clear hK K)|(with_reducible refine .done (hK _ ?_);clear hK K)|refine ae.of rfl ?_|(with_reducible refine aF.aL (fun h =>?_) (fun h =>?_) <;>try simp only[h])) <;>try simp only[aN,R,simprocAttr])
    all_goals clear R
    ·have g3:=hI _ os2 ab;refine ⟨(i+1,os2),⟨by simp only;omega,by simp only[hs1];exact ab⟩,by simp only;omega,?_⟩;refine bt.fn ?_ (oV vc g3) ?_ (fun m x h=>(g3.ok m x h).1)
     ·simp[cn,cw]
     ·simp[cu,I.only,cv,pP]
    ·rw[nm];exact ⟨os2,[],r6 (hIx os2 ab) vc,trivial,rfl,.inr ab⟩
 ·have hge:i=(bY s.bu).length:=by omega
  have hc:=hE hlt;rw[hge] at hIk;rw[hge] at hc ⊢;have R:=y6 @hc (y6 @dh (y6 @bp (y6 @bJ (y6 @bw (y6 @br aK)))))
  repeat' ((first |(with_reducible refine .guard (fun hb =>?_) (fun hb =>?_) <;>try simp only[hb])|refine ae.aM (by decide +kernel) rfl fun K hK =>?_|(refine .aD [0,1,2,5,6,7,8,9,10,11,13,14,15,16,39,52,55,80,88] hK ?_;clear hK K)|(with_reducible refine .done (hK _ ?_);clear hK K)|refine ae.of rfl ?_|(with_reducible refine aF.aL (fun h =>?_) (fun h =>?_) <;>try simp only[h])) <;>try simp only[aN,R,simprocAttr])
  all_goals clear R
  refine ae.loop (tM s to v) (fun t=>t.1≤200∧ar (gv s to (bY s.bu).length++hX s to t.1).length t.2) (fun t=>200-t.1) (0,osk) ⟨zw4 _,by simpa[hX] using hIk⟩ ?_ ?_
  ·refine bt.slots ?_ (fun n=>rfl);simp[cn,cw]
  clear hIk gk lR hc hlt hi hge;rintro ⟨k,osk⟩ ⟨hk,hIk⟩;simp only at hk hIk;have gk:=hI _ osk hIk;have n9:=gk.none (n:=9) (by decide);have n11:=gk.none (n:=11) (by decide);simp only[tM];by_cases hlt:k<200
  ·have hc:decide (((k:Int)+1)≤200)=true:=by simp;omega
   have hw:IntKind.i64.wrap ((k:Int)+1+1)=((k+1:Nat):Int)+1:=by rw[jv _ (by omega) (by omega)];omega
   have hsu:=qF s to k;have hlg:=xT ug ec (fun x:aI=>enc x) (.agg [.int .i64 0,.int .i64 0,.int .i64 0,.int .i64 0]) ⟨to,(k:Int)+1⟩ s.bN;have ew:(enc (⟨to,(k:Int)+1⟩:jI):I)=.agg [.int .i64 to,.int .i64 ((k:Int)+1)]:=rfl;rw[ew] at hlg;have e2:(fun x:aI=>decide ((⟨to,(k:Int)+1⟩:jI)=ec x))=fun x=>decide (ec x=⟨to,(k:Int)+1⟩):=by
    funext x;rw[Bool.eq_iff_iff];simp[eq_comm]
   rw[e2] at hlg;have hrb:kX s to (k+1)=match s.bN.find? fun x=>decide (ec x=⟨to,(k:Int)+1⟩) with
    |some x=>[⟨if x.kind=8 then 4 else 2,s.aB,to,x.aC,(k:Int)+1⟩]
    |none=>[]:=by simp only[kX];rfl
   have gr:=fun x=>V6 (s:=s) (to:=to) (k:=k) (x:=x) hlt;cases hf:s.bN.find? fun x=>decide (ec x=⟨to,(k:Int)+1⟩) with
   |none =>
    rw[hf] at hlg hrb;simp only at hlg hrb;have hlk:fu (.bl [.i .i64,.i .i64]) (.agg [.int .i64 0,.int .i64 0,.int .i64 0,.int .i64 0]) (.agg [.int .i64 to,.int .i64 ((k:Int)+1)]) (s.db.map enc) (s.bN.map enc)=some (enc ft,false):=hlg;have q:(ft.kind==8)=false:=rfl;rw[hrb,zy3] at hsu;have R:=y6 @hc (y6 @hw (y6 @hlk (y6 @q (y6 @n9 (y6 @n11 (y6 @qj (y6 @qi (y6 @oC (y6 @dh (y6 @bp (y6 @bJ (y6 @bw (y6 @br aK)))))))))))))
    repeat' ((first |(with_reducible refine .guard (fun hb =>?_) (fun hb =>?_) <;>try simp only[hb])|refine ae.aM (by decide +kernel) rfl fun K hK =>?_|(refine .aD [0,1,2,5,6,7,8,9,10,11,13,14,15,16,39,52,55,80,88] hK ?_;clear hK K)|(with_reducible refine .done (hK _ ?_);clear hK K)|refine ae.of rfl ?_|(with_reducible refine aF.aL (fun h =>?_) (fun h =>?_) <;>try simp only[h])) <;>try simp only[aN,R,simprocAttr])
    all_goals clear R
    refine ⟨(k+1,osk),⟨by simp only;omega,by simp only[hsu];exact hIk⟩,by simp only;omega,?_⟩;refine bt.fn ?_ (oV (ow:=[(11,_),(11,_),(9,_),(9,_)]) u9 gk) ?_ (fun m x h=>(gk.ok m x h).1)
    ·simp[cn,cw]
    ·simp[cu,I.only,pP]
   |some x =>
    rw[hf] at hlg hrb;simp only at hlg hrb;have hlk:fu (.bl [.i .i64,.i .i64]) (.agg [.int .i64 0,.int .i64 0,.int .i64 0,.int .i64 0]) (.agg [.int .i64 to,.int .i64 ((k:Int)+1)]) (s.db.map enc) (s.bN.map enc)=some (enc x,true):=hlg;obtain ⟨g1,g2⟩:=gr _ hrb;rw[hrb] at hsu;have hs1:(gv s to (bY s.bu).length++hX s to (k+1)).length=(gv s to (bY s.bu).length++hX s to k).length+1:=by rw[hsu];simp only[zz6,zv1,List.length_nil];omega
    have hy:=hY _ osk _ g1 hIk (fun r os2 h=>h);simp only[g2] at hy;rcases q:(x.kind==8)
    ·have qk:¬ x.kind=8:=by simpa using q
     simp only[if_neg qk] at hy;have R:=y6 @hc (y6 @hw (y6 @hlk (y6 @q (y6 @n9 (y6 @n11 (y6 @qj (y6 @qi (y6 @oC (y6 @tZ (y6 @dh (y6 @bp (y6 @bJ (y6 @bw (y6 @br aK))))))))))))))
     repeat' ((first |(with_reducible refine .guard (fun hb =>?_) (fun hb =>?_) <;>try simp only[hb])|refine ae.aM (by decide +kernel) rfl fun K hK =>?_|refine aT.tz (ow:=[(11,_),(11,_),(9,_),(9,_)]) hy gk (hI _) hIx (by simp[I.b9,kl]) u9 (fun os2 ab =>?_) (fun os2 ab =>?_)|(refine .aD [0,1,2,5,6,7,8,9,10,11,13,14,15,16,39,52,55,80,88] hK ?_;clear hK K)|(with_reducible refine .done (hK _ ?_);clear hK K)|refine ae.of rfl ?_|(with_reducible refine aF.aL (fun h =>?_) (fun h =>?_) <;>try simp only[h])) <;>try simp only[aN,R,simprocAttr])
     all_goals clear R
     ·have g3:=hI _ os2 ab;refine ⟨(k+1,os2),⟨by simp only;omega,by simp only[hs1];exact ab⟩,by simp only;omega,?_⟩;refine bt.fn ?_ (oV u9 g3) ?_ (fun m x h=>(g3.ok m x h).1)
      ·simp[cn,cw]
      ·simp[cu,I.only,pP]
     ·rw[nm];exact ⟨os2,[],r6 (hIx os2 ab) u9,trivial,rfl,.inr ab⟩
    ·have qk:x.kind=8:=by simpa using q
     simp only[if_pos qk] at hy;have R:=y6 @hc (y6 @hw (y6 @hlk (y6 @q (y6 @n9 (y6 @n11 (y6 @qj (y6 @qi (y6 @oC (y6 @tZ (y6 @dh (y6 @bp (y6 @bJ (y6 @bw (y6 @br aK))))))))))))))
     repeat' ((first |(with_reducible refine .guard (fun hb =>?_) (fun hb =>?_) <;>try simp only[hb])|refine ae.aM (by decide +kernel) rfl fun K hK =>?_|refine aT.tz (ow:=[(11,_),(11,_),(11,_),(9,_),(9,_)]) hy gk (hI _) hIx (by simp[I.b9,kl]) yu (fun os2 ab =>?_) (fun os2 ab =>?_)|(refine .aD [0,1,2,5,6,7,8,9,10,11,13,14,15,16,39,52,55,80,88] hK ?_;clear hK K)|(with_reducible refine .done (hK _ ?_);clear hK K)|refine ae.of rfl ?_|(with_reducible refine aF.aL (fun h =>?_) (fun h =>?_) <;>try simp only[h])) <;>try simp only[aN,R,simprocAttr])
     all_goals clear R
     ·have g3:=hI _ os2 ab;refine ⟨(k+1,os2),⟨by simp only;omega,by simp only[hs1];exact ab⟩,by simp only;omega,?_⟩;refine bt.fn ?_ (oV yu g3) ?_ (fun m x h=>(g3.ok m x h).1)
      ·simp[cn,cw]
      ·simp[cu,I.only,pP]
     ·rw[nm];exact ⟨os2,[],r6 (hIx os2 ab) yu,trivial,rfl,.inr ab⟩
  ·have hc:decide (((k:Int)+1)≤200)=false:=by simp;omega
   have hge:k=200:=by omega
   have R:=y6 @hc (y6 @dh (y6 @bp (y6 @bJ (y6 @bw (y6 @br aK)))))
   repeat' ((first |(with_reducible refine .guard (fun hb =>?_) (fun hb =>?_) <;>try simp only[hb])|refine ae.aM (by decide +kernel) rfl fun K hK =>?_|(refine .aD [0,1,2,5,6,7,8,9,10,11,13,14,15,16,39,52,55,80,88] hK ?_;clear hK K)|(with_reducible refine .done (hK _ ?_);clear hK K)|refine ae.of rfl ?_|(with_reducible refine aF.aL (fun h =>?_) (fun h =>?_) <;>try simp only[h])) <;>try simp only[aN,R,simprocAttr])
   all_goals clear R
   rw[nl];refine ⟨osk,[],r6 (ow:=[]) gk YF,trivial,rfl,.inl ?_⟩;rw[fG];rw[hge] at hIk;exact hIk
def F9(o:Option az):I:=match o with
 |some s=>.tuple [c7 s,.bool true]
 |none=>.tuple [.nilp,.bool false]
theorem HF(aB:Int)(l:List aI)(hl:l.length≤200):bm Tryd.prog 38 [enc aB,enc l] (F9 (eQ aB l)):=by
 refine bm.cg Tryd.func38 Bd Bz BS (u8 rfl) (fun hwf W0 bO E1 =>?_);simp only[wv,yF,bQ,zz1];clear hwf;have R:=y6 @bJ (y6 @bw (y6 @br aK))
 repeat' ((first |(with_reducible refine .guard (fun hb =>?_) (fun hb =>?_) <;>try simp only[hb])|refine ae.aM (by decide +kernel) rfl fun K hK =>?_|refine aT.eh rfl (fun _ _ _=>rfl) ?_|(refine .aD [0,1,4,5,6,8,11,12,13,14,20] hK ?_;clear hK K)|(with_reducible refine .done (hK _ ?_);clear hK K)|refine ae.of rfl ?_|(with_reducible refine aF.aL (fun h =>?_) (fun h =>?_) <;>try simp only[h])) <;>try simp only[aN,R,simprocAttr])
 all_goals clear R
 refine ae.loop (tK l) (fun t=>t.1≤l.length∧fO (eh aB) (l.take t.1)=some t.2) (fun t=>l.length-t.1) (0,eh aB) ⟨zw4 _,rfl⟩ ?_ ?_
 ·rw[zy3];refine bt.fn ?_ (fun n=>.inr rfl) ?_ (fun n x h=>(me (kW aB) h).1)
  ·simp[cn,cw]
  ·have:=(dM (jc (eh aB).all.length) (n:=2000)).2 (.inl (by omega));simp[cu,I.only,cv,this]
 rintro ⟨i,s⟩ ⟨hi,hrun⟩;simp only at hi hrun;obtain ⟨hk,hme,hln⟩:=nv (kW aB) hrun;have hln2:s.all.length≤i:=by simpa[eh,hi] using hln
 have kA:aj (dq s) 8=none:=eI (.inl (by omega)) fun i _=>by simp[bF];omega
 simp only[tK];by_cases hlt:i<l.length
 ·have hc:=h0 hlt;have he:=fun A=>fT (A:=A) 4 hlt rfl;have hw:=gl (i:=i) (by omega);have hst:∀ A rest,da A (some 4) 8 [] (.agg [.int .i64 0,.int .i64 0,.int .i64 0,.int .i64 0]) (enc l[i]) rest (some (.agg [.int .i64 0,.int .i64 0,.int .i64 0,.int .i64 0]))=aA rest (A.aV 8 (.box (enc l[i]))):=fun A rest=>dS (eF _) (by rw[fB];rfl) (fg _);have how:∀ (a b:ao) m,2000≤m→aj [(8,a),(8,b)] m=none:=fun a b m hm=>by simp only[aj];rw[if_neg (by omega),if_neg (by omega)]
  have hsp:l=l.take i++l[i]::l.drop (i+1):=by simp
  cases hn:eS s l[i] with
  |none =>
   have hs:ea s l[i]=(s,false):=by simp[ea,hn]
   have R:=y6 @hc (y6 @he (y6 @hst (y6 @kA (y6 @bp (y6 @bJ (y6 @bw (y6 @br aK)))))))
   repeat' ((first |(with_reducible refine .guard (fun hb =>?_) (fun hb =>?_) <;>try simp only[hb])|refine ae.aM (by decide +kernel) rfl fun K hK =>?_|refine aT.tq (ow:=[(8,_),(8,_)]) hk (by omega) rfl (how _ _) hs ?_|(refine .aD [0,1,4,5,6,8,11,12,13,14,20] hK ?_;clear hK K)|(with_reducible refine .done (hK _ ?_);clear hK K)|refine ae.of rfl ?_|(with_reducible refine aF.aL (fun h =>?_) (fun h =>?_) <;>try simp only[h])) <;>try simp only[aN,R,simprocAttr])
   all_goals clear R
   have hno:eQ aB l=none:=by
    rw[eQ,hsp,ot,hrun];simp only[Option.bind_some,fO,hn]
   rw[hno];rfl
  |some s2 =>
   have hs:ea s l[i]=(s2,true):=by simp[ea,hn]
   have R:=y6 @hc (y6 @he (y6 @hst (y6 @hw (y6 @kA (y6 @bJ (y6 @bw (y6 @br aK)))))))
   repeat' ((first |(with_reducible refine .guard (fun hb =>?_) (fun hb =>?_) <;>try simp only[hb])|refine ae.aM (by decide +kernel) rfl fun K hK =>?_|refine aT.tq (ow:=[(8,_),(8,_)]) hk (by omega) rfl (how _ _) hs ?_|(refine .aD [0,1,4,5,6,8,11,12,13,14,20] hK ?_;clear hK K)|(with_reducible refine .done (hK _ ?_);clear hK K)|refine ae.of rfl ?_|(with_reducible refine aF.aL (fun h =>?_) (fun h =>?_) <;>try simp only[h])) <;>try simp only[aN,R,simprocAttr])
   all_goals clear R
   obtain ⟨hk2,hme2,hln3⟩:=zi hk hn;refine ⟨(i+1,s2),⟨by simp only;omega,?_⟩,by simp only;omega,?_⟩
   ·rw[zy0 hlt,ot,hrun];simp only[Option.bind_some,fO,hn]
   ·refine bt.fn ?_ (fun n =>?_) ?_ (fun n x h=>(me hk2 h).1)
    ·simp[cn,cw]
    ·simp only[fU];cases aj (dq s2) n with
     |none=>exact .inl rfl
     |some y=>exact .inr rfl
    ·have:=(dM (jc s2.all.length) (n:=2000)).2 (.inl (by omega));simp[cu,I.only,cv,this]
 ·have hge:i=l.length:=by omega
  have hc:=hE hlt;subst hge;rw[List.take_length] at hrun;have hfin:∀ ts,c4 (au ts (dq s)) 9 (.agg [.int .i64 s.aB,.mref 2001,.mref 2002,.int .i64 s.all.length,.mref 2003,.mref 2004])=some (gi s):=fun ts=>ik (iq (jc _) hk.cP fun n _=>rfl) 4;have hla:aj (dq s) 2000=some (.box (.agg [.int .i64 s.aB,.mref 2001,.mref 2002,.int .i64 s.all.length,.mref 2003,.mref 2004])):=fH;have hrd:eQ aB l=some s:=hrun;rw[hrd];have R:=y6 @hc (y6 @hfin (y6 @hla (y6 @x9 (y6 @bp (y6 @bJ (y6 @bw (y6 @br aK)))))))
  repeat' ((first |(with_reducible refine .guard (fun hb =>?_) (fun hb =>?_) <;>try simp only[hb])|refine ae.aM (by decide +kernel) rfl fun K hK =>?_|(refine .aD [0,1,4,5,6,8,11,12,13,14,20] hK ?_;clear hK K)|(with_reducible refine .done (hK _ ?_);clear hK K)|refine ae.of rfl ?_|(with_reducible refine aF.aL (fun h =>?_) (fun h =>?_) <;>try simp only[h])) <;>try simp only[aN,R,simprocAttr])
  all_goals clear R
  rfl
theorem HG(s:az)(to:Int):bm Tryd.prog 39 [c7 s,enc to] (.func 54 [.ref (c7 s),.ref (enc to)]):=by
 refine bm.cg Tryd.func39 J3 KX LY (u8 rfl) (fun hwf W0 bO E1 =>?_);simp only[AM,Fy,bQ,zz1];clear hwf;have hall:([I.ptr 2 [],I.ptr 3 []].all fun y=>y.bT)=true:=rfl;have hv:∀ k n,(I.int k n).bT=true:=fun _ _=>rfl;have R:=y6 @hall (y6 @hv (y6 @dh (y6 @bp (y6 @bJ (y6 @bw (y6 @br aK))))))
 repeat' ((first |(with_reducible refine .guard (fun hb =>?_) (fun hb =>?_) <;>try simp only[hb])|refine ae.aM (by decide +kernel) rfl fun K hK =>?_|(refine .aD [0,1,2,3,4] hK ?_;clear hK K)|(with_reducible refine .done (hK _ ?_);clear hK K)|refine ae.of rfl ?_|(with_reducible refine aF.aL (fun h =>?_) (fun h =>?_) <;>try simp only[h])) <;>try simp only[aN,R,simprocAttr])
 all_goals clear R
theorem WS{s:az}(hk:cG s)(to:Int):(gv s to (bY s.bu).length).Nodup:=by
 have hn:s.bu.Nodup:=by
  simp only[az.bu];exact List.Pairwise.map _ (fun a b h e=>h (by omega)) hk.kB
 have hs:(bY s.bu).Nodup:=(List.mergeSort_perm _ _).nodup_iff.2 hn;rw[gv,List.take_length];have hf:=hs.filter (pV s to);exact List.Pairwise.map _ (fun a b h e=>h (by simpa[oj] using congrArg cL.no e)) hf
theorem xL{s:az}{to:Int} : ∀ {k:Nat} {x:cL},x∈hX s to k→x.no≤k∧(x.kind=2∨x.kind=4)
 |0,x,h=>by simp[hX] at h
 |k+1,x,h=>by
  rw[qF] at h;rcases zy4.1 h with h | h
  ·have:=xL h;omega
  ·simp only[kX] at h;split at h
   ·rw[zy1.1 h];refine ⟨by simp,?_⟩;simp only;split <;>simp
   ·cases h
theorem DB(s:az)(to:Int):∀ k,(hX s to k).Nodup
 |0=>by simp[hX]
 |k+1=>by
  rw[qF];refine zv2.2 ⟨DB s to k,?_,fun a ha b hb e =>?_⟩
  ·simp only[kX];split <;>simp
  ·have U:=(xL ha).1;have ab:b.no=(k:Int)+1:=by
    simp only[kX] at hb;split at hb
    ·rw[zy1.1 hb];simp
    ·cases hb
   rw[e] at U;omega
theorem Zw{s:az}(hk:cG s)(to:Int):(fG s to).Nodup:=by
 refine zv2.2 ⟨WS hk to,DB s to 200,fun a ha b hb e =>?_⟩;have U:=(xL hb).2;rw[←e] at U;simp only[gv,zy5] at ha;obtain ⟨n,_,rfl⟩:=ha;simp only[oj] at U;split at U <;>omega
def iB(p:aW):List aI:=p.j.take p.cq.toNat
def iG(p:aW)(to:Int):List cL×Int:=match cK p with
 |none=>([],91)
 |some _=>if c6 0 5 to=false∨to=p.aB then ([],90) else match eQ p.aB (iB p) with
  |some s=>(fG s to,0)
  |none=>([],0)
theorem xm{p:aW}{s:az}(ho:cK p=some s):0≤p.cq∧p.cq.toNat≤p.j.length∧∃ s2,eQ p.aB (iB p)=some s2∧cG s2∧s2.aQ.length≤200:=by
 obtain ⟨_,_,_,aq,h5,h6⟩:=fF ho;simp only[iF,c6,t8,decide_eq_true_eq] at h5;obtain ⟨_,_,h7,h8⟩:=h5;have hsp:p.j=iB p++p.j.drop p.cq.toNat:=by simp[iB]
 rw[eQ,hsp,ot] at h6;cases hr:fO (eh p.aB) (iB p) with
 |none=>rw[hr] at h6;cases h6
 |some s2 =>
  refine ⟨h7,by omega,s2,hr,(nv (kW p.aB) hr).1,?_⟩;have:=yS hr;simp only[eh,List.length_nil,iB,zx7] at this;omega
theorem ZV{A:ai}{l:List aI}{i:Nat}(h:i≤l.length):ln A 4 none (some (.int .i64 i)) (some (.int .i64 i)) (enc l)=some (if i=0 then .c0 4 else enc (l.take i)):=by
 simp only[ln,iy,show Enc.sz aI=4 from rfl,if_true,jD,jM,zz7];rw[if_pos ⟨by omega,by omega,by omega,by omega⟩];by_cases aZ:i=0
 ·simp[aZ]
 ·rw[if_neg (by simp;omega),if_neg aZ];simp
theorem nA{i:Nat}(l:List aI)(aJ:Bool)(A:ai):bn aJ A (if i=0 then .c0 4 else enc (l.take i))=some (enc (l.take i)):=by
 by_cases aZ:i=0
 ·rw[if_pos aZ,aZ];simp only[bn];rfl
 ·rw[if_neg aZ,mH]
theorem DA(s:az)(to:Int):∀ k,(hX s to k).length≤k
 |0=>by simp[hX]
 |k+1=>by
  have U:=DA s to k;have ab:(kX s to (k+1)).length≤1:=by simp only[kX];split <;>simp
  rw[qF,zz6];omega
theorem Gs(s:az)(to:Int):(fG s to).length≤s.aQ.length+200:=by
 have U:=DA s to 200;have ab:(gv s to (bY s.bu).length).length≤s.aQ.length:=by
  simp only[gv,zz7,List.take_length];refine Nat.le_trans (List.length_filter_le _ _) ?_;simp[bY,az.bu]
 rw[fG,zz6];omega
def js(xs:List cL):List (Nat×ao):=[(1000009,.box (.own 1000080 xs.length)),(1000080,.bU 57 5 (xs.map enc))]
theorem Z9(xs ys:List cL):e7 (js xs) (js ys):=by
 refine ⟨fun n=>by simp only[js,av,aj];(repeat' split) <;>rfl,fun n x h =>?_,fun n h =>?_⟩
 ·simp only[js,aj] at h
  repeat' split at h
  all_goals first | (cases h;done) | (simp only[v6] at h;subst h;exact ⟨by simp[js,av,aj,ao.only,I.only,eN],rfl⟩)
 ·simp only[js,av,aj] at h
  repeat' split at h
  all_goals first | omega | (simp at h;done)
theorem tE(p:aW)(to:Int):bm Tryd.prog 16 [enc p,enc to] (.tuple [enc (iG p to).1,enc (iG p to).2]):=by
 refine bm.cg Tryd.func16 JI KC LB (u8 rfl) (fun hwf W0 bO E1 =>?_);simp only[Aq,Fb,bQ,zz1];clear hwf;have hF:=rz p;simp only[oU] at hF;simp only[iG];cases ho:cK p with
 |none =>
  rw[ho] at hF;have R:=y6 @bE (y6 @bp (y6 @bJ (y6 @bw (y6 @br aK))))
  repeat' ((first |(with_reducible refine .guard (fun hb =>?_) (fun hb =>?_) <;>try simp only[hb])|refine ae.aM (by decide +kernel) rfl fun K hK =>?_|refine .lead _ (hF) ?_|(refine .aD [0,1,2,4,5,6,7,9,10,14,24,40,41,54] hK ?_;clear hK K)|(with_reducible refine .done (hK _ ?_);clear hK K)|refine ae.of rfl ?_|(with_reducible refine aF.aL (fun h =>?_) (fun h =>?_) <;>try simp only[h])) <;>try simp only[aN,R,simprocAttr])
  all_goals clear R
  all_goals rfl
 |some s =>
  obtain ⟨f1,f2,s2,hr,hk,hl2⟩:=xm ho;have hjl:=(fF ho).2.2.2.1;rw[ho] at hF
  dsimp only at hF ⊢
  have hT:=nG to;rcases q2:c6 0 5 to
  ·rw[q2] at hT;simp only[true_or,if_true];have R:=y6 @bE (y6 @bp (y6 @bJ (y6 @bw (y6 @br aK))))
   repeat' ((first |(with_reducible refine .guard (fun hb =>?_) (fun hb =>?_) <;>try simp only[hb])|refine ae.aM (by decide +kernel) rfl fun K hK =>?_|refine .lead _ (hF) ?_|refine .flat _ (hT) rfl ?_|(refine .aD [0,1,2,4,5,6,7,9,10,14,24,40,41,54] hK ?_;clear hK K)|(with_reducible refine .done (hK _ ?_);clear hK K)|refine ae.of rfl ?_|(with_reducible refine aF.aL (fun h =>?_) (fun h =>?_) <;>try simp only[h])) <;>try simp only[aN,R,simprocAttr])
   all_goals clear R
   all_goals rfl
  rw[q2] at hT;rcases q3:(to==p.aB)
  case true =>
   have e:to=p.aB:=by simpa using q3
   simp only[zw6,false_or,if_pos e];have R:=y6 @q3 (y6 @bE (y6 @bp (y6 @bJ (y6 @bw (y6 @br aK)))))
   repeat' ((first |(with_reducible refine .guard (fun hb =>?_) (fun hb =>?_) <;>try simp only[hb])|refine ae.aM (by decide +kernel) rfl fun K hK =>?_|refine .lead _ (hF) ?_|refine .flat _ (hT) rfl ?_|(refine .aD [0,1,2,4,5,6,7,9,10,14,24,40,41,54] hK ?_;clear hK K)|(with_reducible refine .done (hK _ ?_);clear hK K)|refine ae.of rfl ?_|(with_reducible refine aF.aL (fun h =>?_) (fun h =>?_) <;>try simp only[h])) <;>try simp only[aN,R,simprocAttr])
   all_goals clear R
   all_goals rfl
  have e:¬ to=p.aB:=by simpa using q3
  simp only[zw6,false_or,if_neg e,hr];have hR:=HF p.aB (iB p) (by simp only[iB,zx7];omega);rw[hr] at hR;simp only[F9] at hR;obtain ⟨w,hsl,hfw⟩:∃ w:I,(∀ A,ln A 4 none (some (.int .i64 p.cq)) (some (.int .i64 p.cq)) (enc p.j)=some w)∧∀ aJ A,bn aJ A w=some (enc (iB p)) :=
   ⟨_,fun A=>by
    have:=ZV (A:=A) (l:=p.j) (i:=p.cq.toNat) f2;rw[show ((p.cq.toNat:Nat):Int)=p.cq by omega] at this;exact this,fun aJ A=>nA p.j aJ A⟩
  have h63:=HG s2 to;have R:=y6 @q3 (y6 @hsl (y6 @hfw (y6 @dh (y6 @bE (y6 @bp (y6 @bJ (y6 @bw (y6 @br aK))))))))
  repeat' ((first |(with_reducible refine .guard (fun hb =>?_) (fun hb =>?_) <;>try simp only[hb])|refine ae.aM (by decide +kernel) rfl fun K hK =>?_|refine .lead _ (hF) ?_|refine .flat _ (hT) rfl ?_|refine .lead _ (hR) ?_|refine .lead _ (h63) ?_|(refine .aD [0,1,2,4,5,6,7,9,10,14,24,40,41,54] hK ?_;clear hK K)|(with_reducible refine .done (hK _ ?_);clear hK K)|refine ae.of rfl ?_|(with_reducible refine aF.aL (fun h =>?_) (fun h =>?_) <;>try simp only[h])) <;>try simp only[aN,R,Option.map_none,simprocAttr])
  all_goals clear R
  have hcap:I.b9 [.ref (c7 s2),.ref (.int .i64 to)]=true:=by simp[I.b9,I.bC,nC]
  refine ae.sub (bt.zP 9 80 57 5 5 [] _ rfl rfl rfl (B:=au [(9,.ptr 9 []),(40,.func 54 [.ref (c7 s2),.ref (.int .i64 to)])] [(9,.box (.own 80 0)),(80,.bU 57 5 [])]) ?_) ?_
  ·simp only[ri];refine bt.c8 ?_ ?_ ?_ ?_ <;>simp[*,cn,cY,cu,cB,av,cw,cW,I.only,I.b6,ao.only,pP]
  have hnd:=Zw hk to;refine ae.np (osb0:=js []) (tsR:=[(9,.ptr 1000009 [])]) (ρ:=[(1999999,999999),(1000009,9),(1000080,80)])
   (fun k os=>os=js ((fG s2 to).take k))
   (fun _ _=>False)
   ⟨rfl,rfl⟩ (u8 rfl) (by simp only[bK,simprocAttr]) hcap Bh (HV s2 to (by omega)) (fun _=>rfl) rfl rfl rfl (fun o=>⟨?_,?_⟩) ?_ ?_ ?_ ?_ ?_ ?_ ?_
  ·intro n x hx;simp only[ej,js,aj] at hx
   repeat' split at hx
   all_goals first | (cases hx;done) | (subst_vars;simp only[v6] at hx;subst hx;simp[ej,js,av,bx,aj,ao.a8,I.a8,I.dm,ao.only,I.only,I.b6,ao.eg])
  ·intro a b ha hb;simp only[ej,js,av,aj] at ha hb
   repeat' split at ha
   all_goals first | (simp at ha;done) | skip
   all_goals (repeat' split at hb)
   all_goals first | (simp at hb;done) | (subst_vars;simp[bx])
  ·simp[oA,cw,I.a8,bx,I.only,js,av,aj]
  ·rintro k os rfl;exact Z9 ..
  ·rintro e os h;exact h.elim
  ·simp[js]
  ·rintro k osb hk' rfl W1 D1 E1 xO o1 o2;obtain ⟨r,hr0⟩:∃ r,r=(fG s2 to).getD k vp:=⟨_,rfl⟩
   have hri:(fG s2 to)[k]=r:=by rw[hr0];simp[zz0,hk']
   have hsu:(fG s2 to).take (k+1)=(fG s2 to).take k++[r]:=by rw[zy0 hk',hri]
   have hN2:(fG s2 to).length≤400:=by
    have U:=Gs s2 to;omega
   have hk2:k<400:=Nat.lt_of_lt_of_le hk' hN2;have hlast:∀ j,j+1=k→∃ u,((fG s2 to).take k)[j]?=some u∧u≠r:=fun j hj=>by
    refine ⟨(fG s2 to)[j],by rw[List.getElem?_take_of_lt (by omega),zx0],fun e =>?_⟩;rw[←hri] at e;have:=(List.getElem_inj hnd).1 e;omega
   have hxl:((fG s2 to).take k).length=k:=by rw[zx7];omega
   generalize (fG s2 to).take k=xs at hsu hlast hxl ⊢;simp only[←hr0,vj,ej,js];have hst:∀ A rest b x y z w u,da A (some 5) 10 [] b (enc r) rest (some (.agg [.int .i64 x,.int .i64 y,.int .i64 z,.int .i64 w,.int .i64 u]))=aA rest (A.aV 10 (.box (enc r))):=fun A rest b x y z w u=>oC.1 A 10 b rest r x y z w u;have R:=y6 @hst (y6 @bE (y6 @bp (y6 @bJ (y6 @bw (y6 @br aK)))))
   repeat' ((first |(with_reducible refine .guard (fun hb =>?_) (fun hb =>?_) <;>try simp only[hb])|refine ae.aM (by decide +kernel) rfl fun K hK =>?_|(refine .aD [0,1,2,4,5,6,7,9,10,14,24,40,41,54] hK ?_;clear hK K)|(with_reducible refine .done (hK _ ?_);clear hK K)|refine ae.of rfl ?_|(with_reducible refine aF.aL (fun h =>?_) (fun h =>?_) <;>try simp only[h])) <;>try simp only[aN,R,simprocAttr])
   all_goals clear R
   refine ⟨by simp[],?_⟩;have stOwn:∀ (A:ai) n b m k m' k' rest,da A none n [] b (.own m k) rest (some (.own m' k'))=aA rest (A.aV n (.box (.own m k))) :=
    fun _ _ _ m k m' k' _=>by rw[dS (s:=none) (v:=.own m k) (old:=.own m' k') rfl rfl rfl,ri]
   have hbs:fV 5 (some [enc r])=some (enc [r]):=kO 5 r rfl;have hap:=fun (A:ai) d rest=>qf (A:=A) (d:=d) 57 5 40 1000080 (l:=xs.length) (es:=xs) (ys:=[r]) (rest:=rest) rfl rfl (by simp) (by simp[maxLen];omega) (by simp;omega);have gG:∀ ts z1 z2 z3 z4 z5,Gv o2 (fun os=>os=[(1000009,.box (.own 1000080 ((fG s2 to).take (k+1)).length)),(1000080,.bU 57 5 (((fG s2 to).take (k+1)).map enc))]) (fun _ _=>False) .normal
     (au ts [(1000009,.box (.own 1000080 (xs++[r]).length)),(1000080,.bU 57 5 ((xs++[r]).map enc)),(1999999,.dC o2),(10,z1),(10,z2),(1999999,z3),(1000009,z4),(1000080,z5)]):=fun ts z1 z2 z3 z4 z5=>by
    refine ⟨_,?_,rfl⟩;rw[hsu];intro n x hx;simp only[ej,aj] at hx
    (repeat' split at hx) <;>first
     |(cases hx;done)
     |(subst_vars;simp only[v6] at hx;subst hx;simp[ej,av,au,aj,ao.only,I.only,ao.eg,eN,-List.map_append])
   have hle:=fun (A:ai) (h:A.o 1000080=some (.bU 57 5 (xs.map enc)))=>Xe A 1000080 xs.length 57 5 xs h rfl;by_cases aZ:k=0
   ·have hz:((xs.length:Int)==0)=true:=by rw[beq_iff_eq];omega
    have R:=y6 @hle (y6 @hz (y6 @hbs (y6 @hap (y6 @stOwn (y6 @bE (y6 @bp (y6 @bJ (y6 @bw (y6 @br aK)))))))))
    repeat' ((first |(with_reducible refine .guard (fun hb =>?_) (fun hb =>?_) <;>try simp only[hb])|refine ae.aM (by decide +kernel) rfl fun K hK =>?_|(refine .aD [0,1,2,4,5,6,7,9,10,14,24,40,41,54] hK ?_;clear hK K)|(with_reducible refine .done (hK _ ?_);clear hK K)|refine ae.of rfl ?_|(with_reducible refine aF.aL (fun h =>?_) (fun h =>?_) <;>try simp only[h])) <;>try simp only[aN,R,simprocAttr])
    all_goals clear R
    exact gG _ _ _ _ _ _
   ·have hz:((xs.length:Int)==0)=false:=by rw[beq_eq_false_iff_ne];omega
    obtain ⟨u,hu,hne⟩:=hlast (k-1) (by omega);have hw1:IntKind.i64.wrap ((xs.length:Int)-1)=((k-1:Nat):Int):=by rw[jv _ (by omega) (by omega)];omega
    have hq:=B9 u r;rw[decide_eq_false hne] at hq;have hie:=fun (A:ai) (h:A.o 1000080=some (.bU 57 5 (xs.map enc)))=>(by
     have hu2:(xs.map (enc (α:=cL)))[k-1]?=some (enc u):=by rw[zx4,hu];rfl
     have hc:xs.length=(xs.map (enc (α:=cL))).length∧True∧(0:Int)≤((k-1:Nat):Int)∧((k-1:Nat):Int)<((xs.map (enc (α:=cL))).length:Nat):=⟨by simp,trivial,by omega,by simp;omega⟩
     simp only[kq,h];rw[if_pos hc,Int.toNat_natCast,hu2];rfl:kq A 5 ((k-1:Nat):Int) (.own 1000080 xs.length)=some (.ref (enc u)))
    have R:=y6 @hle (y6 @hz (y6 @hw1 (y6 @hie (y6 @hq (y6 @hbs (y6 @hap (y6 @stOwn (y6 @bE (y6 @bp (y6 @bJ (y6 @bw (y6 @br aK))))))))))))
    repeat' ((first |(with_reducible refine .guard (fun hb =>?_) (fun hb =>?_) <;>try simp only[hb])|refine ae.aM (by decide +kernel) rfl fun K hK =>?_|(refine .aD [0,1,2,4,5,6,7,9,10,14,24,40,41,54] hK ?_;clear hK K)|(with_reducible refine .done (hK _ ?_);clear hK K)|refine ae.of rfl ?_|(with_reducible refine aF.aL (fun h =>?_) (fun h =>?_) <;>try simp only[h])) <;>try simp only[aN,R,simprocAttr])
    all_goals clear R
    all_goals exact gG _ _ _ _ _ _
  ·rintro os rfl;rw[List.take_length];simp only[js,df,zz4,zx6,bx,ao.a8,I.a8,pE,eb,jL,reduceIte,Nat.reduceEqDiff,zz2,zx3];have hfo:jS (fG s2 to).length (some (.bU 57 5 ((fG s2 to).map enc)))=some (enc (fG s2 to)):=oY 5 rfl rfl;have R:=y6 @hfo (y6 @bE (y6 @bp (y6 @bJ (y6 @bw (y6 @br aK)))))
   repeat' ((first |(with_reducible refine .guard (fun hb =>?_) (fun hb =>?_) <;>try simp only[hb])|refine ae.aM (by decide +kernel) rfl fun K hK =>?_|(refine .aD [0,1,2,4,5,6,7,9,10,14,24,40,41,54] hK ?_;clear hK K)|(with_reducible refine .done (hK _ ?_);clear hK K)|refine ae.of rfl ?_|(with_reducible refine aF.aL (fun h =>?_) (fun h =>?_) <;>try simp only[h])) <;>try simp only[aN,R,simprocAttr])
   all_goals clear R
  ·rintro e os h;exact h.elim
def pc(p:az→Bool)(l:List az):Int:=match l.findIdx? p with
 |some i=>i
 |none=>-1
theorem H0(l:List az)(caps:List I)(hcaps:I.fK caps=true)(p:az→Bool)(hl:l.length≤1000)(hf:∀ x∈l,bm Tryd.prog 47 (c7 x::caps) (enc (p x))):bm Tryd.prog 60 [enc l,.func 47 caps] (enc (pc p l)):=by
 refine bm.cg Tryd.func60 Kk Le Mg (u8 rfl) (fun hwf W0 bO E1 =>?_);simp only[A4,FQ,bQ,zz1];clear hwf;have hcl:I.b9 caps=true:=qt caps hcaps;have hfc:∀ aJ A,bX aJ A caps=some caps:=fun aJ A=>nV aJ A caps hcaps;have hon:∀ q,I.b6 q caps=true:=fun q=>lU q caps hcl;have R:=y6 @hfc aK
 repeat' ((first |(with_reducible refine .guard (fun hb =>?_) (fun hb =>?_) <;>try simp only[hb])|refine ae.aM (by decide +kernel) rfl fun K hK =>?_|(refine .aD [0,1,4,5,7,8,9,16] hK ?_;clear hK K)|(with_reducible refine .done (hK _ ?_);clear hK K)|refine ae.of rfl ?_|(with_reducible refine aF.aL (fun h =>?_) (fun h =>?_) <;>try simp only[h])) <;>try simp only[aN,R,simprocAttr])
 all_goals clear R
 refine ae.loop (fun i:Nat=>au [(0,enc l),(1,.func 47 caps),(7,.int .i64 l.length),(8,.int .i64 i)] []) (fun i=>i≤l.length∧∀ k,k<i→∀ h:k<l.length,p l[k]=false) (fun i=>l.length-i) 0 ⟨zw4 _,fun k h=>by omega⟩ ?_ (fun i hi =>?_)
 ·refine bt.c8 ?_ ?_ ?_ ?_ <;>simp[*,cn,cY,cu,cB,cw,I.only,cv]
 obtain ⟨hi1,hi2⟩:=hi;by_cases hlt:i<l.length
 ·have hlc:=h0 hlt;have he:=fun A=>fT (A:=A) 1 hlt rfl;simp only[wX] at he;have hw:=gl (i:=i) (by omega);have hP:=hf _ (zw7 hlt);rcases q:p l[i]
  ·rw[q] at hP;have R:=y6 @hlc (y6 @he (y6 @hw (y6 @hfc (y6 @dh (y6 @bJ aK)))))
   repeat' ((first |(with_reducible refine .guard (fun hb =>?_) (fun hb =>?_) <;>try simp only[hb])|refine ae.aM (by decide +kernel) rfl fun K hK =>?_|refine .flat _ (hP) rfl ?_|(refine .aD [0,1,4,5,7,8,9,16] hK ?_;clear hK K)|(with_reducible refine .done (hK _ ?_);clear hK K)|refine ae.of rfl ?_|(with_reducible refine aF.aL (fun h =>?_) (fun h =>?_) <;>try simp only[h])) <;>try simp only[aN,R,zz2,simprocAttr])
   all_goals clear R
   refine ⟨i+1,⟨by omega,fun k hk h =>?_⟩,by omega,?_⟩
   ·by_cases e:k=i
    ·subst e;exact q
    ·exact hi2 k (by omega) h
   ·refine bt.c8 ?_ ?_ ?_ ?_ <;>simp[*,cn,cY,cu,cB,cw,I.only,cv]
  ·rw[q] at hP;have hm:pc p l=(i:Int):=by
    have:l.findIdx? p=some i:=List.findIdx?_eq_some_iff_getElem.2 ⟨hlt,q,fun j hj=>by simp[hi2 j hj (by omega)]⟩;simp only[pc,this]
   rw[hm];have R:=y6 @hlc (y6 @he (y6 @hfc (y6 @dh (y6 @bJ aK))))
   repeat' ((first |(with_reducible refine .guard (fun hb =>?_) (fun hb =>?_) <;>try simp only[hb])|refine ae.aM (by decide +kernel) rfl fun K hK =>?_|refine .flat _ (hP) rfl ?_|(refine .aD [0,1,4,5,7,8,9,16] hK ?_;clear hK K)|(with_reducible refine .done (hK _ ?_);clear hK K)|refine ae.of rfl ?_|(with_reducible refine aF.aL (fun h =>?_) (fun h =>?_) <;>try simp only[h])) <;>try simp only[aN,R,zz2,simprocAttr])
   all_goals clear R
 ·have hlc:=hE hlt;have hm:pc p l=-1:=by
   have:l.findIdx? p=none:=List.findIdx?_eq_none_iff.2 fun x hx=>by
    obtain ⟨k,hk,rfl⟩:=List.mem_iff_getElem.1 hx;exact hi2 k (by omega) hk
   simp only[pc,this]
  rw[hm];have R:=y6 @hlc aK
  repeat' ((first |(with_reducible refine .guard (fun hb =>?_) (fun hb =>?_) <;>try simp only[hb])|refine ae.aM (by decide +kernel) rfl fun K hK =>?_|(refine .aD [0,1,4,5,7,8,9,16] hK ?_;clear hK K)|(with_reducible refine .done (hK _ ?_);clear hK K)|refine ae.of rfl ?_|(with_reducible refine aF.aL (fun h =>?_) (fun h =>?_) <;>try simp only[h])) <;>try simp only[aN,R,simprocAttr])
  all_goals clear R
theorem WI(p:az→Bool)(l:List az):decide (pc p l≥0)=l.any p:=by
 unfold pc;cases h:l.findIdx? p with
 |none =>
  rw[List.findIdx?_eq_none_iff] at h;have:l.any p=false:=by rw[List.any_eq_false];intro x hx;simp[h x hx]
  rw[this];rfl
 |some i =>
  rw[List.findIdx?_eq_some_iff_getElem] at h;obtain ⟨U,ab,_⟩:=h;have:l.any p=true:=by rw[List.any_eq_true];exact ⟨_,zw7 U,ab⟩
  rw[this];exact decide_eq_true (Int.natCast_nonneg i)
theorem HL(l:List az)(caps:List I)(hcaps:I.fK caps=true)(p:az→Bool)(hl:l.length≤1000)(hf:∀ x∈l,bm Tryd.prog 47 (c7 x::caps) (enc (p x))):bm Tryd.prog 46 [enc l,.func 47 caps] (enc (l.any p)):=by
 refine bm.cg Tryd.func46 Ka K3 L5 (u8 rfl) (fun hwf W0 bO E1 =>?_);simp only[AS,FF,bQ,zz1];clear hwf;have hfc:∀ aJ A,bX aJ A caps=some caps:=fun aJ A=>nV aJ A caps hcaps;have hF:=H0 l caps hcaps p hl hf;have hq:=WI p l;have R:=y6 @hfc (y6 @hq aK)
 repeat' ((first |(with_reducible refine .guard (fun hb =>?_) (fun hb =>?_) <;>try simp only[hb])|refine ae.aM (by decide +kernel) rfl fun K hK =>?_|refine .flat _ (hF) rfl ?_|(refine .aD [0,1,4] hK ?_;clear hK K)|(with_reducible refine .done (hK _ ?_);clear hK K)|refine ae.of rfl ?_|(with_reducible refine aF.aL (fun h =>?_) (fun h =>?_) <;>try simp only[h])) <;>try simp only[aN,R,simprocAttr])
 all_goals clear R
def ke(s:az)(r:dI)(n:Int)(t:az):Bool:=(t.aB==r.to)&&(sn t ⟨s.aB,n⟩==7)
theorem HM(t s:az)(r:dI)(n:Int):bm Tryd.prog 47 [c7 t,.ref (enc r),.ref (c7 s),.ref (enc n)] (enc (ke s r n t)):=by
 refine bm.cg Tryd.func47 Kb K4 L6 (u8 rfl) (fun hwf W0 bO E1 =>?_);simp only[AT,FG,bQ,zz1,Nat.reduceAdd];clear hwf;obtain ⟨x,hx,u,hlk⟩:=Xh t s.aB n;rcases q1:(t.aB==r.to)
 ·rw[show ke s r n t=false by simp[ke,q1]];have R:=y6 @q1 (y6 @hlk (y6 @xp (y6 @qj (y6 @dh (y6 @bp (y6 @bJ (y6 @bw (y6 @br aK))))))))
  repeat' ((first |(with_reducible refine .guard (fun hb =>?_) (fun hb =>?_) <;>try simp only[hb])|refine ae.aM (by decide +kernel) rfl fun K hK =>?_|(refine .aD [0,1,2,3,5] hK ?_;clear hK K)|(with_reducible refine .done (hK _ ?_);clear hK K)|refine ae.of rfl ?_|(with_reducible refine aF.aL (fun h =>?_) (fun h =>?_) <;>try simp only[h])) <;>try simp only[aN,R,simprocAttr])
  all_goals clear R
 ·rcases q2:(x.kind==7)
  ·rw[show ke s r n t=false by simp only[ke,←hx,q2,Bool.and_false]];have R:=y6 @q1 (y6 @q2 (y6 @hlk (y6 @xp (y6 @qj (y6 @dh (y6 @bp (y6 @bJ (y6 @bw (y6 @br aK)))))))))
   repeat' ((first |(with_reducible refine .guard (fun hb =>?_) (fun hb =>?_) <;>try simp only[hb])|refine ae.aM (by decide +kernel) rfl fun K hK =>?_|(refine .aD [0,1,2,3,5] hK ?_;clear hK K)|(with_reducible refine .done (hK _ ?_);clear hK K)|refine ae.of rfl ?_|(with_reducible refine aF.aL (fun h =>?_) (fun h =>?_) <;>try simp only[h])) <;>try simp only[aN,R,simprocAttr])
   all_goals clear R
  ·rw[show ke s r n t=true by simp only[ke,←hx,q1,q2,Bool.and_true]];have R:=y6 @q1 (y6 @q2 (y6 @hlk (y6 @xp (y6 @qj (y6 @dh (y6 @bp (y6 @bJ (y6 @bw (y6 @br aK)))))))))
   repeat' ((first |(with_reducible refine .guard (fun hb =>?_) (fun hb =>?_) <;>try simp only[hb])|refine ae.aM (by decide +kernel) rfl fun K hK =>?_|(refine .aD [0,1,2,3,5] hK ?_;clear hK K)|(with_reducible refine .done (hK _ ?_);clear hK K)|refine ae.of rfl ?_|(with_reducible refine aF.aL (fun h =>?_) (fun h =>?_) <;>try simp only[h])) <;>try simp only[aN,R,simprocAttr])
   all_goals clear R
theorem GR(A:ai)(n:Nat)(b:I)(q:aI)(x y z w:Int)(rest:List aw):da A (some 4) n [] b (enc q) rest (some (.agg [.int .i64 x,.int .i64 y,.int .i64 z,.int .i64 w]))=aA rest (A.aV n (.box (enc q))):=dS (eF _) (by rw[fB];rfl) (fg _)
def lN(p:aI→Bool)(l:List aI):Int:=match l.findIdx? p with
 |some i=>i
 |none=>-1
theorem zA(l:List aI)(caps:List I)(hcaps:I.fK caps=true)(p:aI→Bool)(hl:l.length≤1000)(hf:∀ x∈l,bm Tryd.prog 50 (enc x::caps) (enc (p x))):bm Tryd.prog 61 [enc l,.func 50 caps] (enc (lN p l)):=by
 refine bm.cg Tryd.func61 Kl Lf Mh (u8 rfl) (fun hwf W0 bO E1 =>?_);simp only[A5,FR,bQ,zz1];clear hwf;have hcl:I.b9 caps=true:=qt caps hcaps;have hfc:∀ aJ A,bX aJ A caps=some caps:=fun aJ A=>nV aJ A caps hcaps;have hon:∀ q,I.b6 q caps=true:=fun q=>lU q caps hcl;have R:=y6 @hfc aK
 repeat' ((first |(with_reducible refine .guard (fun hb =>?_) (fun hb =>?_) <;>try simp only[hb])|refine ae.aM (by decide +kernel) rfl fun K hK =>?_|(refine .aD [0,1,4,5,7,8,9,16] hK ?_;clear hK K)|(with_reducible refine .done (hK _ ?_);clear hK K)|refine ae.of rfl ?_|(with_reducible refine aF.aL (fun h =>?_) (fun h =>?_) <;>try simp only[h])) <;>try simp only[aN,R,simprocAttr])
 all_goals clear R
 refine ae.loop (fun i:Nat=>au [(0,enc l),(1,.func 50 caps),(7,.int .i64 l.length),(8,.int .i64 i)] []) (fun i=>i≤l.length∧∀ k,k<i→∀ h:k<l.length,p l[k]=false) (fun i=>l.length-i) 0 ⟨zw4 _,fun k h=>by omega⟩ ?_ (fun i hi =>?_)
 ·refine bt.c8 ?_ ?_ ?_ ?_ <;>simp[*,cn,cY,cu,cB,cw,I.only,cv]
 obtain ⟨hi1,hi2⟩:=hi;by_cases hlt:i<l.length
 ·have hlc:=h0 hlt;have he:=fun A=>fT (A:=A) 4 hlt rfl;have hw:=gl (i:=i) (by omega);have hP:=hf _ (zw7 hlt);rcases q:p l[i]
  ·rw[q] at hP;have R:=y6 @hlc (y6 @he (y6 @hw (y6 @hfc aK)))
   repeat' ((first |(with_reducible refine .guard (fun hb =>?_) (fun hb =>?_) <;>try simp only[hb])|refine ae.aM (by decide +kernel) rfl fun K hK =>?_|refine .flat _ (hP) rfl ?_|(refine .aD [0,1,4,5,7,8,9,16] hK ?_;clear hK K)|(with_reducible refine .done (hK _ ?_);clear hK K)|refine ae.of rfl ?_|(with_reducible refine aF.aL (fun h =>?_) (fun h =>?_) <;>try simp only[h])) <;>try simp only[aN,R,zz2,simprocAttr])
   all_goals clear R
   refine ⟨i+1,⟨by omega,fun k hk h =>?_⟩,by omega,?_⟩
   ·by_cases e:k=i
    ·subst e;exact q
    ·exact hi2 k (by omega) h
   ·refine bt.c8 ?_ ?_ ?_ ?_ <;>simp[*,cn,cY,cu,cB,cw,I.only,cv]
  ·rw[q] at hP;have hm:lN p l=(i:Int):=by
    have:l.findIdx? p=some i:=List.findIdx?_eq_some_iff_getElem.2 ⟨hlt,q,fun j hj=>by simp[hi2 j hj (by omega)]⟩;simp only[lN,this]
   rw[hm];have R:=y6 @hlc (y6 @he (y6 @hfc aK))
   repeat' ((first |(with_reducible refine .guard (fun hb =>?_) (fun hb =>?_) <;>try simp only[hb])|refine ae.aM (by decide +kernel) rfl fun K hK =>?_|refine .flat _ (hP) rfl ?_|(refine .aD [0,1,4,5,7,8,9,16] hK ?_;clear hK K)|(with_reducible refine .done (hK _ ?_);clear hK K)|refine ae.of rfl ?_|(with_reducible refine aF.aL (fun h =>?_) (fun h =>?_) <;>try simp only[h])) <;>try simp only[aN,R,zz2,simprocAttr])
   all_goals clear R
 ·have hlc:=hE hlt;have hm:lN p l=-1:=by
   have:l.findIdx? p=none:=List.findIdx?_eq_none_iff.2 fun x hx=>by
    obtain ⟨k,hk,rfl⟩:=List.mem_iff_getElem.1 hx;exact hi2 k (by omega) hk
   simp only[lN,this]
  rw[hm];have R:=y6 @hlc aK
  repeat' ((first |(with_reducible refine .guard (fun hb =>?_) (fun hb =>?_) <;>try simp only[hb])|refine ae.aM (by decide +kernel) rfl fun K hK =>?_|(refine .aD [0,1,4,5,7,8,9,16] hK ?_;clear hK K)|(with_reducible refine .done (hK _ ?_);clear hK K)|refine ae.of rfl ?_|(with_reducible refine aF.aL (fun h =>?_) (fun h =>?_) <;>try simp only[h])) <;>try simp only[aN,R,simprocAttr])
  all_goals clear R
theorem HR(x:aI)(b:Int):bm Tryd.prog 50 [enc x,.ref (enc b)] (enc (x.aC != b)):=by
 refine bm.cg Tryd.func50 Kd K6 L8 (u8 rfl) (fun hwf W0 bO E1 =>?_);simp only[AU,FI,bQ,zz1];clear hwf;have R:=aK
 repeat' ((first |(with_reducible refine .guard (fun hb =>?_) (fun hb =>?_) <;>try simp only[hb])|refine ae.aM (by decide +kernel) rfl fun K hK =>?_|(refine .aD [0,1,2,3] hK ?_;clear hK K)|(with_reducible refine .done (hK _ ?_);clear hK K)|refine ae.of rfl ?_|(with_reducible refine aF.aL (fun h =>?_) (fun h =>?_) <;>try simp only[h])) <;>try simp only[aN,R,simprocAttr])
 all_goals clear R
theorem HO(caps:List I)(hcaps:I.fK caps=true):bm Tryd.prog 48 [enc ([]:List aI),.func 50 caps] (enc ([]:List aI)):=by
 refine bm.cg Tryd.func48 Be BA BT (u8 rfl) (fun hwf W0 bO E1 =>?_);simp only[wy,yG,bQ,zz1];clear hwf;have hfc:∀ aJ A,bX aJ A caps=some caps:=fun aJ A=>nV aJ A caps hcaps;have hF:=zA ([]:List aI) caps hcaps (fun _=>true) (by simp) (fun x h=>by cases h);have U:lN (fun _=>true) []=-1:=rfl;rw[U] at hF;have q1:((-1:Int)==-1)=true:=rfl;have R:=y6 @q1 (y6 @hfc aK)
 repeat' ((first |(with_reducible refine .guard (fun hb =>?_) (fun hb =>?_) <;>try simp only[hb])|refine ae.aM (by decide +kernel) rfl fun K hK =>?_|refine .flat _ (hF) rfl ?_|(refine .aD [0,1,4,5,6,7,12,19,29] hK ?_;clear hK K)|(with_reducible refine .done (hK _ ?_);clear hK K)|refine ae.of rfl ?_|(with_reducible refine aF.aL (fun h =>?_) (fun h =>?_) <;>try simp only[h])) <;>try simp only[aN,R,simprocAttr])
 all_goals clear R
def ka(k:Nat)(ws:List aI):List (Nat×ao):=[(k,.box (.agg (ws.map enc)))]
theorem uO(p:Nat→Bool)(l:List aI):(I.agg (l.map enc)).only p=true:=by simp only[I.only];exact eN p l
theorem ZD{ws:List aI} : ∀ m,av (ka 1000000 ws) m=true→1000000≤m:=fun m hm=>by rw[hU.1 hm];exact zz5 _
theorem Dv{n i:Nat}(h:i<n)(fs:List I):mP 1000000 [] 4 0 n 4 (i:Int) (some fs)=some (.ptr 1000000 [i]):=by
 have:=Dw (m:=1000000) (sz:=4) (lo:=0) (l:=n) (i:=i) (fs:=fs) h
 rwa [zz1] at this
theorem Z8{A:ai}{n i:Nat}{xs:List aI}(h:i<xs.length)(v u:aI){rest:List aw} : da A (some 4) n [i] (.agg (xs.map enc)) (enc v) rest (some (enc u))=aA rest (A.aV n (.box (.agg ((xs.set i v).map enc)))):=by
 rw[dS (eF v) (by rw[fB];rfl) ((fg v).trans (fg u).symm)];have ab:(xs.map (enc (α:=aI)))[i]?=some (enc (xs[i])):=by simp[h]
 simp only[I.eA,ab,List.map_set]
def BX(xs:List aI)(p:aI→Bool)(N:Nat):cA:=fun r os'=>∃ us:List aI,r=.view 1000000 [] 4 0 (xs.filter fun x => !p x).length∧os'=ka 1000000 us∧us.take (xs.filter fun x => !p x).length=(xs.filter fun x => !p x)∧us.length=N
theorem HN(xs q:List aI)(hn:xs.length≤200)(hq:0<(xs++q).length)(caps:List I)(hcaps:I.fK caps=true)(p:aI→Bool)(hf:∀ x∈xs,bm Tryd.prog 50 (enc x::caps) (enc (p x))) :
  cQ Tryd.prog 48 [.view 1000000 [] 4 0 xs.length,.func 50 caps] (ka 1000000 (xs++q)) (BX xs p (xs++q).length):=by
 refine cQ.cg Tryd.func48 Be BA BT (u8 rfl) (u8 rfl) ZD (fun hwf W0 bO E1 =>?_);simp only[wy,yG,bQ,zz1];clear hwf;have hcl:I.b9 caps=true:=qt caps hcaps;have hfc:∀ aJ A,bX aJ A caps=some caps:=fun aJ A=>nV aJ A caps hcaps;have hon:∀ q,I.b6 q caps=true:=fun q=>lU q caps hcl;have hF:=zA xs caps hcaps p (by omega) hf;have hfp:jT 4 0 xs.length (some ((xs++q).map enc))=some (enc xs):=by rw[rX (α:=aI) (sz:=4) rfl,List.take_left]
 simp only[ka];cases hfi:xs.findIdx? p with
 |none =>
  have hi:lN p xs=-1:=by simp[lN,hfi]
  rw[hi] at hF;rw[List.findIdx?_eq_none_iff] at hfi;have hk:(xs.filter fun x => !p x)=xs:=by
   rw[List.filter_eq_self];intro x hx;simp[hfi x hx]
  have q1:((-1:Int)==-1)=true:=rfl;have R:=y6 @q1 (y6 @hfp (y6 @hfc (y6 @qn (y6 @dX aK))))
  repeat' ((first |(with_reducible refine .guard (fun hb =>?_) (fun hb =>?_) <;>try simp only[hb])|refine ae.aM (by decide +kernel) rfl fun K hK =>?_|refine .flat _ (hF) rfl ?_|(refine .aD [0,1,4,5,6,7,12,19,29] hK ?_;clear hK K)|(with_reducible refine .done (hK _ ?_);clear hK K)|refine ae.of rfl ?_|(with_reducible refine aF.aL (fun h =>?_) (fun h =>?_) <;>try simp only[h])) <;>try simp only[aN,R,simprocAttr])
  all_goals clear R
  rw[nm];exact ⟨ka 1000000 (xs++q),[.view 1000000 [] 4 0 xs.length],xE rfl (fun p=>uO p _),⟨⟨_,rfl,.inl ⟨rfl,rfl,rfl⟩⟩,trivial⟩,xs++q,by rw[hk];rfl,rfl,by rw[hk,List.take_left],rfl⟩
 |some i0 =>
  obtain ⟨q1,q2,q3⟩:=List.findIdx?_eq_some_iff_getElem.1 hfi;have hi:lN p xs=(i0:Int):=by simp[lN,hfi]
  rw[hi] at hF;have hstart:xs.take i0=(xs.take (i0+1)).filter fun x => !p x:=by
   rw[zy0 q1,List.filter_append,zw0,q2];simp only[Bool.not_true,zz3,if_false,List.filter_nil,zy3]
   symm
   rw[List.filter_eq_self];intro x hx;obtain ⟨j,hj,rfl⟩:=List.mem_take_iff_getElem.1 hx;have:=q3 j (by omega);simpa using this
  have n1:((i0:Int)==-1)=false:=beq_eq_false_iff_ne.2 (by omega);have hwi:=gl (i:=i0) (by omega);have R:=y6 @n1 (y6 @hwi (y6 @hfp (y6 @hfc (y6 @qn (y6 @dX aK)))))
  repeat' ((first |(with_reducible refine .guard (fun hb =>?_) (fun hb =>?_) <;>try simp only[hb])|refine ae.aM (by decide +kernel) rfl fun K hK =>?_|refine .flat _ (hF) rfl ?_|(refine .aD [0,1,4,5,6,7,12,19,29] hK ?_;clear hK K)|(with_reducible refine .done (hK _ ?_);clear hK K)|refine ae.of rfl ?_|(with_reducible refine aF.aL (fun h =>?_) (fun h =>?_) <;>try simp only[h])) <;>try simp only[aN,R,simprocAttr])
  all_goals clear R
  refine ae.loop (fun s:List aI×Nat×Nat=>au [(0,.view 1000000 [] 4 0 xs.length),(1,.func 50 caps),(5,.int .i64 s.2.1),(6,.int .i64 s.2.2)] (ka 1000000 s.1)) (fun s=>s.1.length=(xs++q).length∧s.2.1<s.2.2∧s.2.2≤xs.length∧s.1.take s.2.1=(xs.take s.2.2).filter (fun x => !p x)∧s.1.drop s.2.2=(xs++q).drop s.2.2) (fun s=>xs.length-s.2.2) (xs++q,i0,i0+1) ⟨rfl,by simp only;omega,by simp only;omega,?_,rfl⟩ ?_ ?_
  ·simp only;rw[List.take_append_of_le_length (by omega)];exact hstart
  ·simp only[ka];refine bt.c8 ?_ ?_ ?_ ?_ <;>simp[*,cn,cY,cu,cB,av,cw,cW,I.only,ao.only,eN,j0]
  rintro ⟨ws,i,j⟩ ⟨c1,c2,c3,nO,mC⟩;simp only at c1 c2 c3 nO mC ⊢;simp only[ka];have hlen:(xs++q).length=xs.length+q.length:=zz6;by_cases hlt:j<xs.length
  ·have hc:=h0 hlt;have hwj:=gl (i:=j) (by omega);have hwi2:=gl (i:=i) (by omega);have v1:=Dv (n:=xs.length) (i:=j) hlt;have v2:=Dv (n:=xs.length) (i:=i) (by omega);have l1:=z6 (xs:=ws) (i:=j) ft (by omega);have l2:=z6 (xs:=ws) (i:=i) ft (by omega);have hwj2:ws.getD j ft=xs[j]:=by
    have U:(ws.drop j)[0]?=((xs++q).drop j)[0]?:=by rw[mC]
    simp only[List.getElem?_drop,Nat.add_zero] at U;rw[zz0,U,zy6 hlt,zx0 hlt];rfl
   rw[hwj2] at l1;have hP:=hf _ (zw7 hlt);have ht:(xs.take (j+1)).filter (fun x => !p x)=(xs.take j).filter (fun x => !p x)++if (!p xs[j]) then [xs[j]] else []:=by
    rw[zy0 hlt,List.filter_append,zw0,List.filter_nil]
   have s1:=fun (A:ai) v u rest=>Z8 (A:=A) (n:=1000000) (xs:=ws) (i:=i) (rest:=rest) (by omega) v u;generalize xs[j]=y at l1 hP ht;rcases hp:p y
   ·rw[hp] at hP ht;simp only[Bool.not_false,if_true] at ht;have R:=y6 @hc (y6 @hwj (y6 @hwi2 (y6 @v1 (y6 @v2 (y6 @l1 (y6 @l2 (y6 @s1 (y6 @hfc (y6 @GR (y6 @qn (y6 @dX aK)))))))))))
    repeat' ((first |(with_reducible refine .guard (fun hb =>?_) (fun hb =>?_) <;>try simp only[hb])|refine ae.aM (by decide +kernel) rfl fun K hK =>?_|refine .flat _ (hP) rfl ?_|(refine .aD [0,1,4,5,6,7,12,19,29] hK ?_;clear hK K)|(with_reducible refine .done (hK _ ?_);clear hK K)|refine ae.of rfl ?_|(with_reducible refine aF.aL (fun h =>?_) (fun h =>?_) <;>try simp only[h])) <;>try simp only[aN,R,zz2,simprocAttr])
    all_goals clear R
    refine ⟨(ws.set i y,i+1,j+1),⟨by simp[c1],by simp only;omega,by simp only;omega,?_,?_⟩,by simp only;omega,?_⟩
    ·simp only;rw[ht,←nO,zy0 (by simp;omega),List.take_set_of_le (zz5 _)];simp
    ·simp only;rw[List.drop_set_of_lt (by omega)];have:(ws.drop j).drop 1=((xs++q).drop j).drop 1:=by rw[mC]
     simpa[List.drop_drop] using this
    ·simp only[];generalize ws.set i y=us;refine bt.c8 ?_ ?_ ?_ ?_ <;>simp[*,cn,cY,cu,cB,av,cw,cW,I.only,ao.only,eN]
   ·rw[hp] at hP ht;simp only[Bool.not_true,zz3,if_false,zy3] at ht;have R:=y6 @hc (y6 @hwj (y6 @v1 (y6 @l1 (y6 @hfc (y6 @GR (y6 @qn (y6 @dX aK)))))))
    repeat' ((first |(with_reducible refine .guard (fun hb =>?_) (fun hb =>?_) <;>try simp only[hb])|refine ae.aM (by decide +kernel) rfl fun K hK =>?_|refine .flat _ (hP) rfl ?_|(refine .aD [0,1,4,5,6,7,12,19,29] hK ?_;clear hK K)|(with_reducible refine .done (hK _ ?_);clear hK K)|refine ae.of rfl ?_|(with_reducible refine aF.aL (fun h =>?_) (fun h =>?_) <;>try simp only[h])) <;>try simp only[aN,R,zz2,simprocAttr])
    all_goals clear R
    refine ⟨(ws,i,j+1),⟨c1,by simp only;omega,by simp only;omega,?_,?_⟩,by simp only;omega,?_⟩
    ·simp only;rw[ht];exact nO
    ·simp only;have:(ws.drop j).drop 1=((xs++q).drop j).drop 1:=by rw[mC]
     simpa[List.drop_drop] using this
    ·simp only[];refine bt.c8 ?_ ?_ ?_ ?_ <;>simp[*,cn,cY,cu,cB,av,cw,cW,I.only,ao.only,eN]
  ·have hj:j=xs.length:=by omega
   subst hj;have hc:=hE hlt;rw[List.take_length] at nO;have hlk:(xs.filter fun x => !p x).length=i:=by rw[←nO,zx7];omega
   have hsl2:=ZZ (n:=1000000) (p:=[]) (sz:=4) (k:=xs.length) (total:=ws.length) (i:=i) (by omega) (by omega) (by omega);have hsl3:=fun us:List aI=>fun (hu:us.length=ws.length)=>ZY (n:=1000000) (p:=[]) (sz:=4) (k:=xs.length) (total:=us.length) (i:=i) (by omega) (by omega);have hml2:∀ us:List aI,(us.map (enc (α:=aI))).length=us.length:=fun us=>by simp
   have hclr:=fun (A:ai) rest ho=>Lt (A:=A) (rest:=rest) (esz:=4) (α:=aI) ft (n:=1000000) (lo:=i) (k:=xs.length-i) (xs:=ws) ho (by omega);obtain ⟨us,hus⟩:∃ us,us=ws.take i++(List.replicate (xs.length-i) ft++ws.drop (i+(xs.length-i))):=⟨_,rfl⟩
   have hul:us.length=ws.length:=by
    rw[hus];simp only[zz6,zx7,List.length_replicate,List.length_drop];omega
   have hut:us.take i=xs.filter fun x => !p x:=by
    rw[hus,List.take_append_of_le_length (by rw[zx7];omega),List.take_take,Nat.min_self,nO]
   have hsl3:=hsl3 us hul;simp only[←hus] at hclr;refine ae.seq (ae.seq ?_);refine .kI (by decide +kernel) fun K hK =>?_;simp only[C1,bK,simprocAttr]
   try simp only[hc,dX,bK,simprocAttr]
   refine .done (hK _ ?_);clear hK K;try simp only[eb]
   refine ae.jW ?_;simp only[aF,bK,simprocAttr];refine ⟨fun h =>?_,fun h =>?_⟩
   ·cases h
   refine ae.exit ?_;try simp only[eb,jL,simprocAttr]
   refine .gy (by decide +kernel) fun K hK =>?_;simp only[CZ,bK,simprocAttr]
   try simp only[hml2,hsl2,Option.map_none,qu,dX,bK,simprocAttr]
   rw[hclr _ _ rfl]
   try simp only[bK,simprocAttr]
   refine .done (hK _ ?_);clear hK K;refine .gy (by decide +kernel) fun K hK =>?_;simp only[C0,bK,simprocAttr]
   try simp only[hml2,hsl3,Option.map_none,dX,bK,simprocAttr]
   refine .done (hK _ ?_);clear hK K;refine ae.ret ?_;simp only[nm];exact ⟨ka 1000000 us,[.view 1000000 [] 4 0 i],xE rfl (fun p=>uO p _),⟨⟨_,rfl,.inl ⟨rfl,rfl,rfl⟩⟩,trivial⟩,us,by rw[hlk];rfl,rfl,by rw[hlk];exact hut,by omega⟩
theorem Oe{xs:List dI} : jS xs.length (some (.bU 49 4 (xs.map enc)))=some (enc xs):=oY 4 rfl rfl
theorem zd(A:ai)(n:Nat)(b:I)(q:dI)(x y z:Int)(w:Bool)(rest:List aw):da A (some 4) n [] b (enc q) rest (some (.agg [.int .i64 x,.int .i64 y,.int .i64 z,.bool w]))=aA rest (A.aV n (.box (enc q))):=dS (eF _) (by rw[fB];rfl) (fg _)
def lb(s:az)(n:Int):dI:=s.bh (n.toNat-1)
def mQ(all:List az)(b:Int)(s:az)(n:Int):Bool:=((lb s n).aC==b) && !(all.any (ke s (lb s n) n))
def lZ(all0:List az)(b:Int)(all:List az):List dI:=all.flatMap fun s=>((bY s.bu).filter (mQ all0 b s)).map (lb s)
theorem Za(all0:List az)(b:Int){l:List az}{i:Nat}(h:i<l.length):lZ all0 b (l.take (i+1))=lZ all0 b (l.take i)++((bY l[i].bu).filter (mQ all0 b l[i])).map (lb l[i]):=by
 simp only[lZ,zy0 h,List.flatMap_append,List.flatMap_cons,List.flatMap_nil,zy3]
def p7(all:List az)(e b:Int)(i:Nat)(ts:List (Nat×I))(os:List (Nat×ao))(xs:List dI):ai :=
 au ([(1,.int .i64 b),(6,enc all),(7,.int .i64 e),(8,.own 905 xs.length),(21,enc all),(22,.int .i64 all.length),(23,.int .i64 i)]++ts) ((905,.bU 49 4 (xs.map enc))::os)
theorem Hw(l:List aW)(b:Int):bm Tryd.prog 22 [enc l,enc b] (.tuple [enc (lZ (gF l b).1 b (gF l b).1),enc (gF l b).2]):=by
 refine bm.cg Tryd.func22 JO KI LI (u8 rfl) (fun hwf W0 bO E1 =>?_);simp only[Ax,Fi,bQ,zz1];clear hwf;have hF:=zw l b;have hal:=zQ l b;have hlive:∀ s∈(gF l b).1,s.aQ.length≤200:=fun s hs=>by
  obtain ⟨p,_,ho⟩:=aaf hs;exact ym ho
 generalize (gF l b).1=all at *;generalize (gF l b).2=e at *;have hbs:∀ y:dI,fV 4 (some [enc y])=some (enc [y]):=fun y=>kO 4 y rfl;have hst10:∀ A rest s,da A none 10 [] .nilp (c7 s) rest (some .nilp)=aA rest (A.aV 10 (.box (c7 s))):=fun A rest s=>dS (dh.2.2.2.1 s) (dh.2.2.2.2.1 s) rfl;have hst12:∀ A rest n u,da A none 12 [] (.int .i64 u) (.int .i64 n) rest (some (.int .i64 u))=aA rest (A.aV 12 (.box (.int .i64 n))):=fun A rest n u=>dS rfl rfl rfl;have R:=y6 @bE (y6 @bp (y6 @bJ (y6 @bw (y6 @br aK))))
 repeat' ((first |(with_reducible refine .guard (fun hb =>?_) (fun hb =>?_) <;>try simp only[hb])|refine ae.aM (by decide +kernel) rfl fun K hK =>?_|refine .lead _ (hF) ?_|(refine .aD [0,1,4,5,6,7,8,10,12,13,14,21,22,23,24,28,29,30,31,52] hK ?_;clear hK K)|(with_reducible refine .done (hK _ ?_);clear hK K)|refine ae.of rfl ?_|(with_reducible refine aF.aL (fun h =>?_) (fun h =>?_) <;>try simp only[h])) <;>try simp only[aN,R,simprocAttr])
 all_goals clear R
 refine ae.loop (fun t:Nat×List dI=>p7 all e b t.1 [] [] t.2) (fun t=>t.1≤all.length∧t.2=lZ all b (all.take t.1)∧t.2.length≤200*t.1) (fun t=>all.length-t.1) (0,[]) ⟨zw4 _,rfl,zw4 _⟩ ?_ ?_
 ·refine bt.tP 8 905 49 4 4 rfl rfl ?_;simp only[p7,zz2,zx3];refine bt.c8 ?_ ?_ ?_ ?_ <;>simp[cn,cY,cu,cB,av,cw,cW,I.only,I.b6,ao.only,cv]
 rintro ⟨i,xs⟩ ⟨hi,hxs,hxl⟩;simp only at hi hxs hxl;simp only[p7,zz2,zx3];by_cases hlt:i<all.length
 rotate_left
 ·have hlc:=hE hlt;have hge:i=all.length:=by omega
  rw[show lZ all b all=xs by rw[hxs,hge,List.take_length]];have R:=y6 @hlc (y6 @Oe (y6 @bE (y6 @bp aK)))
  repeat' ((first |(with_reducible refine .guard (fun hb =>?_) (fun hb =>?_) <;>try simp only[hb])|refine ae.aM (by decide +kernel) rfl fun K hK =>?_|(refine .aD [0,1,4,5,6,7,8,10,12,13,14,21,22,23,24,28,29,30,31,52] hK ?_;clear hK K)|(with_reducible refine .done (hK _ ?_);clear hK K)|refine ae.of rfl ?_|(with_reducible refine aF.aL (fun h =>?_) (fun h =>?_) <;>try simp only[h])) <;>try simp only[aN,R,simprocAttr])
  all_goals clear R
 have hlc:=h0 hlt;have he:=fun A=>fT (A:=A) 1 hlt rfl;have hw:=gl (i:=i) (by omega);have hsn:=Za all b hlt;rw[←hxs] at hsn;have hsl:=hlive _ (zw7 hlt);obtain ⟨s,hs⟩:∃ s,s=all[i]:=⟨_,rfl⟩
 rw[←hs] at he hsn hsl;simp only[wX] at he;have hN:=vV s (by omega);have hnl:(bY s.bu).length≤200:=by rw[GP];simp only[az.bu,zz7];exact hsl
 have hso:∀ p,(c7 s).only p=true:=fun p=>kD p _ (nC s);have R:=y6 @hlc (y6 @he (y6 @hst10 (y6 @dh (y6 @bE (y6 @bp (y6 @bJ (y6 @bw (y6 @br aK))))))))
 repeat' ((first |(with_reducible refine .guard (fun hb =>?_) (fun hb =>?_) <;>try simp only[hb])|refine ae.aM (by decide +kernel) rfl fun K hK =>?_|refine .lead _ (hN) ?_|(refine .aD [0,1,4,5,6,7,8,10,12,13,14,21,22,23,24,28,29,30,31,52] hK ?_;clear hK K)|(with_reducible refine .done (hK _ ?_);clear hK K)|refine ae.of rfl ?_|(with_reducible refine aF.aL (fun h =>?_) (fun h =>?_) <;>try simp only[h])) <;>try simp only[aN,R,simprocAttr])
 all_goals clear R
 refine ae.loop (fun t:Nat×List dI=>p7 all e b i [(10,.ptr 10 []),(28,enc (bY s.bu)),(29,.int .i64 (bY s.bu).length),(30,.int .i64 t.1)] [(10,.box (c7 s))] t.2) (fun t=>t.1≤(bY s.bu).length∧t.2=xs++(((bY s.bu).take t.1).filter (mQ all b s)).map (lb s)∧t.2.length≤200*i+t.1) (fun t=>(bY s.bu).length-t.1) (0,xs) ⟨zw4 _,by simp,by simp only;omega⟩ ?_ ?_
 ·simp only[p7,zz2,zx3];clear hxs hsn hs;refine bt.c8 ?_ ?_ ?_ ?_ <;>simp[*,cn,cY,cu,cB,av,cw,cW,I.only,ao.only,eN,cv]
 rintro ⟨j,ys⟩ ⟨hj,hys,hyl⟩;simp only at hj hys hyl;simp only[p7,zz2,zx3];by_cases hjt:j<(bY s.bu).length
 rotate_left
 ·have hjc:=hE hjt;have hge:j=(bY s.bu).length:=by omega
  rw[hge,List.take_length] at hys;have R:=y6 @hjc (y6 @hw (y6 @bE (y6 @bp aK)))
  repeat' ((first |(with_reducible refine .guard (fun hb =>?_) (fun hb =>?_) <;>try simp only[hb])|refine ae.aM (by decide +kernel) rfl fun K hK =>?_|(refine .aD [0,1,4,5,6,7,8,10,12,13,14,21,22,23,24,28,29,30,31,52] hK ?_;clear hK K)|(with_reducible refine .done (hK _ ?_);clear hK K)|refine ae.of rfl ?_|(with_reducible refine aF.aL (fun h =>?_) (fun h =>?_) <;>try simp only[h])) <;>try simp only[aN,R,simprocAttr])
  all_goals clear R
  refine ⟨(i+1,ys),⟨by simp only;omega,?_,by simp only;omega⟩,by simp only;omega,?_⟩
  ·simp only;rw[hsn];exact hys
  ·simp only[];clear hxs hsn hs hys;refine bt.c8 ?_ ?_ ?_ ?_ <;>simp[cn,cY,cu,cB,av,cw,cW,I.only,ao.only,eN,cv]
 have hjc:=h0 hjt;have hje:=fun A=>fT (A:=A) 1 hjt rfl;have hjw:=gl (i:=j) (by omega);have hjs:xs++(((bY s.bu).take (j+1)).filter (mQ all b s)).map (lb s)=ys++if mQ all b s (bY s.bu)[j] then [lb s (bY s.bu)[j]] else []:=by
  rw[zy0 hjt,List.filter_append,zy8,zw0,List.filter_nil,←zz9,←hys]
  congr 1
  split <;>rfl
 have hlk:=xU s hjt;generalize (bY s.bu)[j]=n at hje hjs hlk;obtain ⟨r,hr⟩:∃ r,r=lb s n:=⟨_,rfl⟩
 rw[show s.bh (n.toNat-1)=r from hr.symm] at hlk;have ah:I.fK [.ref (enc r),.ref (c7 s),.ref (enc n)]=true:=by simp[I.fK,I.done,kl,nC]
 have hK2:=HL all [.ref (enc r),.ref (c7 s),.ref (enc n)] ah (ke s r n) (by omega) (fun x _=>HM x s r n);have hap:=fun (A:ai) d rest y=>qf (A:=A) (d:=d) 49 4 32 905 (l:=ys.length) (es:=ys) (ys:=[y]) (rest:=rest) rfl rfl (by simp) (by simp[maxLen];omega) (by simp;omega);have hall3:([I.ptr 13 [],I.ptr 10 [],I.ptr 12 []].all fun y=>y.bT)=true:=rfl;have hk1:mQ all b s n=((r.aC==b) && !(all.any (ke s r n))):=by simp only[mQ,←hr]
 rw[hk1,←hr] at hjs;rcases q1:(r.aC==b)
 ·rw[q1,Bool.false_and,if_neg (by decide),zy3] at hjs;have R:=y6 @hjc (y6 @hje (y6 @hjw (y6 @hlk (y6 @hst12 (y6 @hall3 (y6 @q1 (y6 @zd (y6 @dh (y6 @bE (y6 @bp (y6 @bJ (y6 @bw (y6 @br aK)))))))))))))
  repeat' ((first |(with_reducible refine .guard (fun hb =>?_) (fun hb =>?_) <;>try simp only[hb])|refine ae.aM (by decide +kernel) rfl fun K hK =>?_|refine .flat _ (hK2) rfl ?_|(refine .aD [0,1,4,5,6,7,8,10,12,13,14,21,22,23,24,28,29,30,31,52] hK ?_;clear hK K)|(with_reducible refine .done (hK _ ?_);clear hK K)|refine ae.of rfl ?_|(with_reducible refine aF.aL (fun h =>?_) (fun h =>?_) <;>try simp only[h])) <;>try simp only[aN,R,simprocAttr])
  all_goals clear R
  refine ⟨(j+1,ys),⟨by simp only;omega,hjs.symm,by simp only;omega⟩,by simp only;omega,?_⟩;simp only[];clear hxs hsn hs hys hr hjs hk1;refine bt.c8 ?_ ?_ ?_ ?_ <;>simp[*,cn,cY,cu,cB,av,cw,cW,I.only,ao.only,eN,cv]
 ·rcases q2:all.any (ke s r n)
  ·rw[q1,q2,Bool.not_false,Bool.and_self,if_pos rfl] at hjs;have R:=y6 @hjc (y6 @hje (y6 @hjw (y6 @hlk (y6 @hst12 (y6 @hall3 (y6 @q1 (y6 @q2 (y6 @hbs (y6 @hap (y6 @zd (y6 @dh (y6 @bE (y6 @bp (y6 @bJ (y6 @bw (y6 @br aK))))))))))))))))
   repeat' ((first |(with_reducible refine .guard (fun hb =>?_) (fun hb =>?_) <;>try simp only[hb])|refine ae.aM (by decide +kernel) rfl fun K hK =>?_|refine .flat _ (hK2) rfl ?_|(refine .aD [0,1,4,5,6,7,8,10,12,13,14,21,22,23,24,28,29,30,31,52] hK ?_;clear hK K)|(with_reducible refine .done (hK _ ?_);clear hK K)|refine ae.of rfl ?_|(with_reducible refine aF.aL (fun h =>?_) (fun h =>?_) <;>try simp only[h])) <;>try simp only[aN,R,simprocAttr])
   all_goals clear R
   refine ⟨(j+1,ys++[r]),⟨by simp only;omega,hjs.symm,by simp only[zz6,List.length_singleton];omega⟩,by simp only;omega,?_⟩;simp only[];clear hxs hsn hs hys hr hjs hk1;refine bt.c8 ?_ ?_ ?_ ?_ <;>simp[*,cn,cY,cu,cB,av,cw,cW,I.only,I.b6,ao.only,eN,j0,cv]
  ·rw[q1,q2,Bool.not_true,Bool.and_false,if_neg (by decide),zy3] at hjs;have R:=y6 @hjc (y6 @hje (y6 @hjw (y6 @hlk (y6 @hst12 (y6 @hall3 (y6 @q1 (y6 @q2 (y6 @zd (y6 @dh (y6 @bE (y6 @bp (y6 @bJ (y6 @bw (y6 @br aK))))))))))))))
   repeat' ((first |(with_reducible refine .guard (fun hb =>?_) (fun hb =>?_) <;>try simp only[hb])|refine ae.aM (by decide +kernel) rfl fun K hK =>?_|refine .flat _ (hK2) rfl ?_|(refine .aD [0,1,4,5,6,7,8,10,12,13,14,21,22,23,24,28,29,30,31,52] hK ?_;clear hK K)|(with_reducible refine .done (hK _ ?_);clear hK K)|refine ae.of rfl ?_|(with_reducible refine aF.aL (fun h =>?_) (fun h =>?_) <;>try simp only[h])) <;>try simp only[aN,R,simprocAttr])
   all_goals clear R
   refine ⟨(j+1,ys),⟨by simp only;omega,hjs.symm,by simp only;omega⟩,by simp only;omega,?_⟩;simp only[];clear hxs hsn hs hys hr hjs hk1;refine bt.c8 ?_ ?_ ?_ ?_ <;>simp[*,cn,cY,cu,cB,av,cw,cW,I.only,ao.only,eN,cv]
end Go.Proofs.YthbdbocionnfgaaDoor
namespace Go.Proofs.YthbdbocionnfgaaDoor
open Go Go.Abs
inductive dz (s:az) (x:aI):az→Prop
 |vg (k:x.kind=1) (h:x.aC∉s.here) (r:s.fN x.aC=false):dz s x { s with here:=s.here++[x.aC] }
 |vr (k:x.kind=2) (h:x.aC∈s.here):dz s x { s with here:=s.here.erase x.aC }
 |oz (k:x.kind=3) (h:x.aC∈s.here) (n:x.other≠s.aB) (m:x.no=(s.all.length:Int)+1) :
   dz s x { s with here:=s.here.erase x.aC,all:=s.all++[⟨x.no,x.other,x.aC,false⟩],aQ:=s.aQ++[s.all.length] }
 |call (k:x.kind=4) (i:Nat) (hi:i∈s.aQ) (n:x.no=(i:Int)+1) (t:(s.bh i).to=x.other) (b:(s.bh i).aC=x.aC) (c:(s.bh i).ev=false) :
   dz s x { s with all:=s.all.set i { s.bh i with ev:=true } }
 |done (k:x.kind=5) (i:Nat) (hi:i∈s.aQ) (n:x.no=(i:Int)+1) (t:(s.bh i).to=x.other) (b:(s.bh i).aC=x.aC) :
   dz s x { s with aQ:=s.aQ.erase i }
 |gG (k:x.kind=6) (i:Nat) (hi:i∈s.aQ) (n:x.no=(i:Int)+1) (t:(s.bh i).to=x.other) (b:(s.bh i).aC=x.aC) (c:(s.bh i).ev=true) :
   dz s x { s with aQ:=s.aQ.erase i,here:=fP s.here x.aC }
 |take (k:x.kind=7) (u:s.unknown x=true) (h:x.aC∉s.here) (r:s.fN x.aC=false) :
   dz s x { s with bN:=s.bN++[x],here:=s.here++[x.aC] }
 |ref (k:x.kind=8) (u:s.unknown x=true):dz s x { s with bN:=s.bN++[x] }
theorem aai{s s':az}{x:aI}(h:eM s x=some s'):dz s x s':=by
 simp only[eM] at h;split at h
 ·rename_i k;split at h
  ·cases h
  ·rename_i c;have c':=not_or.1 c;cases h;rw[fP,if_neg c'.1];exact .vg k c'.1 (by simpa using c'.2)
 split at h
 ·rename_i k;split at h
  ·rename_i c;cases h;exact .vr k c
  ·cases h
 split at h
 ·rename_i k;split at h
  ·rename_i c;cases h;exact .oz k c.1 c.2.1 c.2.2
  ·cases h
 split at h
 ·rename_i k;split at h
  ·rename_i i hi;split at h
   ·cases h
   ·rename_i c;cases h;obtain ⟨U,ab,af⟩:=mX hi;obtain ⟨aq,h5⟩:=iw U;exact .call k i aq h5 ab af (by simpa using c)
  ·cases h
 split at h
 ·rename_i k;split at h
  ·rename_i i hi;cases h;obtain ⟨U,ab,af⟩:=mX hi;obtain ⟨aq,h5⟩:=iw U;exact .done k i aq h5 ab af
  ·cases h
 split at h
 ·rename_i k;split at h
  ·rename_i i hi;split at h
   ·rename_i c;cases h;obtain ⟨U,ab,af⟩:=mX hi;obtain ⟨aq,h5⟩:=iw U;exact .gG k i aq h5 ab af c
   ·cases h
  ·cases h
 split at h
 ·rename_i k;split at h
  ·rename_i c;cases h;rw[fP,if_neg c.2.1];exact .take k c.1 c.2.1 c.2.2
  ·cases h
 split at h
 ·rename_i k;split at h
  ·rename_i c;cases h;exact .ref k c
  ·cases h
 cases h
def lS(k:Int)(j:List aI):List aI:=j.filter fun x=>decide (x.kind=k)
def gH(j:List aI):List aI:=j.filter fun x=>decide (x.kind=5∨x.kind=6)
def l7(j:List aI):List aI:=j.filter fun x=>decide (x.kind=7∨x.kind=8)
def dV(k b:Int)(j:List aI):Nat:=j.countP fun x=>decide (x.kind=k∧x.aC=b)
def fq(x:aI):Nat:=x.no.toNat-1
def lf(r:dI):aI:=⟨3,r.aC,r.to,r.no⟩
theorem BP(k b:Int)(j:List aI)(x:aI):dV k b (j++[x])=dV k b j+if x.kind=k∧x.aC=b then 1 else 0:=by
 simp only[dV,List.countP_append,List.countP_cons,List.countP_nil,zz1,decide_eq_true_eq]
theorem B8(j:List aI)(x:aI):gH (j++[x])=gH j++if x.kind=5∨x.kind=6 then [x] else []:=by
 simp only[gH,List.filter_append,zw0,List.filter_nil,decide_eq_true_eq]
theorem ZM(j:List aI)(x:aI):l7 (j++[x])=l7 j++if x.kind=7∨x.kind=8 then [x] else []:=by
 simp only[l7,List.filter_append,zw0,List.filter_nil,decide_eq_true_eq]
theorem Yq(k:Int)(j:List aI)(x:aI):lS k (j++[x])=lS k j++if x.kind=k then [x] else []:=by
 simp only[lS,List.filter_append,zw0,List.filter_nil,decide_eq_true_eq]
theorem x2{k:Int}{j:List aI}{x:aI} : x∈lS k j↔x∈j∧x.kind=k:=by simp[lS]
def jV(s:az)(b:Int):Nat:=if b∈s.here then 1 else 0
def gR(s:az)(b:Int):Nat:=s.aQ.countP fun i=>decide ((s.bh i).aC=b)
structure fm (s:az) (j:List aI):Prop where
 ok:cG s
 all:lS 3 j=s.all.map lf
 no:∀ i,i<s.all.length→(s.bh i).no=(i:Int)+1
 to:∀ i,i<s.all.length→(s.bh i).to≠s.aB
 rS:(s.aQ++(gH j).map fq).Perm (List.range s.all.length)
 wZ:∀ x∈gH j,x.no=(fq x:Int)+1∧(s.bh (fq x)).aC=x.aC∧(s.bh (fq x)).to=x.other
 call:∀ i,i<s.all.length→((s.bh i).ev=true↔⟨4,(s.bh i).aC,(s.bh i).to,(i:Int)+1⟩∈j)
 Kv:∀ y∈j,y.kind=4→∃ i,i<s.all.length∧y.no=(i:Int)+1
 bN:s.bN=l7 j
 db:s.db.Nodup
 Er:∀ x∈s.bN,x.other≠s.aB
 z8:∀ b,jV s b+gR s b+dV 2 b j+dV 5 b j=dV 1 b j+dV 7 b j
 Cg:∀ i∈s.aQ,(s.bh i).aC∉s.here
 aav:∀ i∈s.aQ,∀ k∈s.aQ,(s.bh i).aC=(s.bh k).aC→i=k
theorem WT(aB:Int):fm (eh aB) [] :=
 ⟨kW aB,rfl,fun i h=>by simp[eh] at h,fun i h=>by simp[eh] at h,by simp[eh,gH],fun x h=>by simp[gH] at h,fun i h=>by simp[eh] at h,fun y h=>by simp at h,rfl,by simp[eh,az.db],fun x h=>by simp[eh] at h,
  fun b=>by simp[jV,gR,eh,dV],fun i h=>by simp[eh] at h,fun i h=>by simp[eh] at h⟩
theorem ZA{s:az}{b:Int}(h:s.fN b=false):∀ i∈s.aQ,(s.bh i).aC≠b:=by
 intro i hi e;simp only[az.fN,az.vv,List.any_map,List.any_eq_false] at h;exact h i hi (by simpa using e)
theorem qX{s s':az}{r:dI}(e:s'.all=s.all++[r]){i:Nat}(hi:i<s.all.length):s'.bh i=s.bh i:=by
 simp only[az.bh,e,zz0,zy6 hi]
theorem sS{s s':az}{r:dI}(e:s'.all=s.all++[r]):s'.bh s.all.length=r:=by
 simp only[az.bh,e,zz0,List.getElem?_concat_length,Option.getD_some]
theorem sT{s s':az}{r:dI}{i:Nat}(e:s'.all=s.all.set i r)(k:Nat):s'.bh k=if i=k∧k<s.all.length then r else s.bh k:=by
 simp only[az.bh,e,zz0,List.getElem?_set];by_cases h:i=k
 ·subst h;by_cases ab:i<s.all.length
  ·simp[ab]
  ·simp[ab]
 ·simp[h]
theorem Y6{s s':az}(e:s'.all=s.all)(k:Nat):s'.bh k=s.bh k:=by simp only[az.bh,e]
theorem Lv{l:List Nat}{i:Nat}(h:i∈l)(p:Nat→Bool):l.countP p=(l.erase i).countP p+if p i=true then 1 else 0:=by
 rw[(List.perm_cons_erase h).countP_eq p,List.countP_cons]
theorem Xu(l:List Int)(n b:Int):b∈fP l n↔b=n∨b∈l:=by
 unfold fP;split
 ·constructor
  ·exact .inr
  ·rintro (rfl | h)
   ·assumption
   ·exact h
 ·simp only[zy4,zy1];exact Or.comm
theorem Zz{s:az}{i:Nat}(hi:i<s.all.length):(s.all.set i { s.bh i with ev:=true }).map lf=s.all.map lf:=by
 refine List.ext_getElem (by simp) fun k U ab =>?_;simp only[List.getElem_map,List.getElem_set];split
 ·rename_i e;subst e;simp[az.bh,zz0,hi,lf]
 ·rfl
theorem fm.ID{s s':az}{j:List aI}{x:aI}(h:fm s j)(hx:dz s x s'):lS 3 (j++[x])=s'.all.map lf:=by
 rw[Yq,h.all];cases hx with
 |oz k _ _ m=>rw[if_pos k];simp[lf,←k]
 |call k i hi _ _ _ _ =>
  rw[if_neg (by omega),zy3];exact (Zz (h.ok.cP i hi)).symm
 |_=>rw[if_neg (by omega),zy3]
theorem fm.XI{s s':az}{j:List aI}{x:aI}(h:fm s j)(hx:dz s x s'):(∀ i,i<s'.all.length→(s'.bh i).no=(i:Int)+1)∧(s'.aB=s.aB)∧∀ i,i<s'.all.length→(s'.bh i).to≠s.aB:=by
 cases hx with
 |oz k _ n m =>
  refine ⟨fun i hi =>?_,rfl,fun i hi =>?_⟩ <;>simp only[zz6,List.length_singleton] at hi
  ·by_cases e:i<s.all.length
   ·rw[qX (s:=s) (r:=⟨x.no,x.other,x.aC,false⟩) rfl e];exact h.no i e
   ·have:i=s.all.length:=by omega
    subst this;rw[sS (s:=s) (r:=⟨x.no,x.other,x.aC,false⟩) rfl];exact m
  ·by_cases e:i<s.all.length
   ·rw[qX (s:=s) (r:=⟨x.no,x.other,x.aC,false⟩) rfl e];exact h.to i e
   ·have:i=s.all.length:=by omega
    subst this;rw[sS (s:=s) (r:=⟨x.no,x.other,x.aC,false⟩) rfl];exact n
 |call k i hi _ _ _ _ =>
  refine ⟨fun m hm =>?_,rfl,fun m hm =>?_⟩ <;>simp only[List.length_set] at hm <;>rw[sT (s:=s) rfl]
  ·split
   ·rename_i e;rw[e.1];exact h.no m hm
   ·exact h.no m hm
  ·split
   ·rename_i e;rw[e.1];exact h.to m hm
   ·exact h.to m hm
 |_=>exact ⟨h.no,rfl,h.to⟩
theorem Y5{s s':az}{j:List aI}{x:aI}(_:fm s j)(hx:dz s x s'){i:Nat}(hi:i<s.all.length):(s'.bh i).aC=(s.bh i).aC∧(s'.bh i).to=(s.bh i).to∧((s.bh i).ev=true→(s'.bh i).ev=true)∧s.all.length≤s'.all.length:=by
 cases hx with
 |oz k _ n m=>rw[qX (s:=s) (r:=⟨x.no,x.other,x.aC,false⟩) rfl hi];exact ⟨rfl,rfl,id,by simp⟩
 |call k m hm _ _ _ _ =>
  rw[sT (s:=s) rfl];split
  ·rename_i e;rw[e.1];exact ⟨rfl,rfl,fun _=>rfl,by simp⟩
  ·exact ⟨rfl,rfl,id,by simp⟩
 |_=>exact ⟨rfl,rfl,id,zz5 _⟩
theorem sh{x:aI}{i:Nat}(h:x.no=(i:Int)+1):fq x=i:=by simp only[fq];omega
theorem B7{l:List Nat}{e:List Nat}{i n:Nat}(hi:i∈l)(h:(l++e).Perm (List.range n)):(l.erase i++(e++[i])).Perm (List.range n):=by
 refine List.Perm.trans ?_ h;have U:=(List.perm_cons_erase hi).append_right e;refine List.Perm.trans ?_ U.symm;rw[←zz9];exact List.perm_append_comm
theorem fm.NJ{s s':az}{j:List aI}{x:aI}(h:fm s j)(hx:dz s x s'):(s'.aQ++(gH (j++[x])).map fq).Perm (List.range s'.all.length):=by
 have U:=h.rS;rw[B8];cases hx with
 |oz k _ n m =>
  rw[if_neg (by omega),zy3];simp only[zz6,List.length_singleton,List.range_succ,zz9];have:(s.aQ++([s.all.length]++(gH j).map fq)).Perm ((s.aQ++(gH j).map fq)++[s.all.length]):=by
   rw[zz9];exact List.Perm.append_left _ List.perm_append_comm
  exact this.trans (U.append_right _)
 |call k i hi _ _ _ _=>rw[if_neg (by omega),zy3,List.length_set];exact U
 |done k i hi n _ _ =>
  rw[if_pos (by omega),zy8,List.map_singleton,sh n];exact B7 hi U
 |gG k i hi n _ _ _ =>
  rw[if_pos (by omega),zy8,List.map_singleton,sh n];exact B7 hi U
 |_=>rw[if_neg (by omega),zy3];exact U
theorem fm.DF{s:az}{j:List aI}(h:fm s j){x:aI}(hx:x∈gH j):fq x<s.all.length:=by
 have:fq x∈s.aQ++(gH j).map fq:=List.mem_append_right _ (List.mem_map_of_mem hx);simpa using (h.rS.mem_iff).1 this
theorem fm.NI{s s':az}{j:List aI}{x:aI}(h:fm s j)(hx:dz s x s'):∀ y∈gH (j++[x]),y.no=(fq y:Int)+1∧(s'.bh (fq y)).aC=y.aC∧(s'.bh (fq y)).to=y.other:=by
 intro y hy;rw[B8] at hy;have old:y∈gH j→y.no=(fq y:Int)+1∧(s'.bh (fq y)).aC=y.aC∧(s'.bh (fq y)).to=y.other:=fun hy=>by
  obtain ⟨U,ab,_⟩:=Y5 h hx (h.DF hy);rw[U,ab];exact h.wZ y hy
 rcases zy4.1 hy with hy | hy
 ·exact old hy
 ·split at hy
  ·rename_i hk;rw[zy1.1 hy];cases hx with
   |done k i hi n t b=>rw[sh n];exact ⟨n,b,t⟩
   |gG k i hi n t b _=>rw[sh n];exact ⟨n,b,t⟩
   |_=>omega
  ·cases hy
theorem DG{x:aI}{k b o n:Int}(h:(⟨k,b,o,n⟩:aI)=x):x.kind=k∧x.no=n:=by rw[←h];exact ⟨rfl,rfl⟩
theorem fm.Kp{s s':az}{j:List aI}{x:aI}(h:fm s j)(hx:dz s x s'):(∀ i,i<s'.all.length→((s'.bh i).ev=true↔⟨4,(s'.bh i).aC,(s'.bh i).to,(i:Int)+1⟩∈j++[x]))∧∀ y∈j++[x],y.kind=4→∃ i,i<s'.all.length∧y.no=(i:Int)+1:=by
 have hc:=h.Kv;have hm:∀ {b o n:Int},x.kind≠4→((⟨4,b,o,n⟩:aI)∈j++[x]↔(⟨4,b,o,n⟩:aI)∈j):=fun hk=>by
  rw[zy4,zy1];exact ⟨fun h=>h.resolve_right fun e=>hk (DG e).1,.inl⟩
 have hy:x.kind≠4→∀ y∈j++[x],y.kind=4→y∈j:=fun hk y hy hy4=>by
  rcases zy4.1 hy with hy | hy
  ·exact hy
  ·rw[zy1.1 hy] at hy4;exact absurd hy4 hk
 cases hx with
 |oz k _ n m =>
  have hk:x.kind≠4:=by omega
  refine ⟨fun i hi =>?_,fun y hy' hy4 =>?_⟩
  ·rw[hm hk];simp only[zz6,List.length_singleton] at hi;by_cases e:i<s.all.length
   ·rw[qX (s:=s) (r:=⟨x.no,x.other,x.aC,false⟩) rfl e];exact h.call i e
   ·have:i=s.all.length:=by omega
    subst this;rw[sS (s:=s) (r:=⟨x.no,x.other,x.aC,false⟩) rfl];constructor
    ·intro hh;cases hh
    ·intro hh;obtain ⟨i,hi,e⟩:=hc _ hh rfl;simp only at e;omega
  ·obtain ⟨i,hi,e⟩:=hc y (hy hk y hy' hy4) hy4;exact ⟨i,by simp only[zz6,List.length_singleton];omega,e⟩
 |call k i hi n t b c =>
  have hil:=h.ok.cP i hi;refine ⟨fun m hml =>?_,fun y hy' hy4 =>?_⟩
  ·simp only[List.length_set] at hml;rw[sT (s:=s) rfl];split
   ·rename_i e;obtain ⟨rfl,_⟩:=e;simp only[true_iff];refine List.mem_append_right _ (zy1.2 ?_);cases x
    simp_all
   ·rename_i e;rw[h.call m hml,zy4,zy1];refine ⟨.inl,fun hh=>hh.resolve_right fun e2 =>?_⟩;have:=(DG e2).2;exact e ⟨by omega,hml⟩
  ·simp only[List.length_set];rcases zy4.1 hy' with hy' | hy'
   ·exact hc y hy' hy4
   ·rw[zy1.1 hy'];exact ⟨i,hil,n⟩
 |vg k _ _=>exact ⟨fun i hi=>by rw[hm (by omega)];exact h.call i hi,fun y hy' hy4=>hc y (hy (by omega) y hy' hy4) hy4⟩
 |vr k _=>exact ⟨fun i hi=>by rw[hm (by omega)];exact h.call i hi,fun y hy' hy4=>hc y (hy (by omega) y hy' hy4) hy4⟩
 |done k _ _ _ _ _=>exact ⟨fun i hi=>by rw[hm (by omega)];exact h.call i hi,fun y hy' hy4=>hc y (hy (by omega) y hy' hy4) hy4⟩
 |gG k _ _ _ _ _ _=>exact ⟨fun i hi=>by rw[hm (by omega)];exact h.call i hi,fun y hy' hy4=>hc y (hy (by omega) y hy' hy4) hy4⟩
 |take k _ _ _=>exact ⟨fun i hi=>by rw[hm (by omega)];exact h.call i hi,fun y hy' hy4=>hc y (hy (by omega) y hy' hy4) hy4⟩
 |ref k _=>exact ⟨fun i hi=>by rw[hm (by omega)];exact h.call i hi,fun y hy' hy4=>hc y (hy (by omega) y hy' hy4) hy4⟩
theorem aaw{s:az}{x:aI}(h:s.unknown x=true):x.other≠s.aB∧ec x∉s.db:=by
 simp only[az.unknown,t8,bne_iff_ne,ne_eq,Bool.not_eq_true',decide_eq_false_iff_not] at h;exact h
theorem fm.ZL{s s':az}{j:List aI}{x:aI}(h:fm s j)(hx:dz s x s'):s'.bN=l7 (j++[x])∧s'.db.Nodup∧∀ y∈s'.bN,y.other≠s.aB:=by
 have hs:=h.bN;have jZ:s.unknown x=true→∀ (a:List Int) ,(({ s with bN:=s.bN++[x],here:=a } : az).db.Nodup∧∀ y∈s.bN++[x],y.other≠s.aB):=fun hu a=>by
  obtain ⟨u1,u2⟩:=aaw hu;constructor
  ·simp only[az.db,zy8,zz4,zx6];refine zv2.2 ⟨h.db,by simp,fun a ha b hb e =>?_⟩;rw[zy1.1 hb] at e;exact u2 (e▸ha)
  ·intro y hy;rcases zy4.1 hy with hy | hy
   ·exact h.Er y hy
   ·rw[zy1.1 hy];exact u1
 rw[ZM];cases hx with
 |take k u _ _=>rw[if_pos (by omega),←hs];exact ⟨rfl,jZ u _⟩
 |ref k u=>rw[if_pos (by omega),←hs];exact ⟨rfl,jZ u _⟩
 |_=>rw[if_neg (by omega),zy3];exact ⟨hs,h.db,h.Er⟩
theorem eW{k b:Int}{x:aI}(h:x.kind≠k)(j:List aI):dV k b (j++[x])=dV k b j:=by rw[BP,if_neg fun e=>h e.1,Nat.add_zero]
theorem rO{k b:Int}{x:aI}(h:x.kind=k)(j:List aI):dV k b (j++[x])=dV k b j+if x.aC=b then 1 else 0:=by rw[BP];simp only[h,true_and]
theorem xF{s s':az}{b c:Int}(e:s'.here=s.here++[c])(h:c∉s.here):jV s' b=jV s b+if c=b then 1 else 0:=by
 simp only[jV,e,zy4,zy1];by_cases hc:c=b
 ·subst hc;rw[if_pos (.inr rfl),if_neg h,if_pos rfl]
 ·rw[if_neg hc];have:(b∈s.here∨b=c)↔b∈s.here:=⟨fun h=>h.resolve_right fun e=>hc e.symm,.inl⟩
  simp only[this,Nat.add_zero]
theorem Dq{s s':az}{b c:Int}(e:s'.here=s.here.erase c)(hn:s.here.Nodup)(h:c∈s.here):jV s b=jV s' b+if c=b then 1 else 0:=by
 simp only[jV,e,hn.mem_erase_iff];by_cases hc:c=b
 ·subst hc;rw[if_pos h,if_neg (fun hh=>hh.1 rfl),if_pos rfl]
 ·rw[if_neg hc];have:(b≠c∧b∈s.here)↔b∈s.here:=⟨fun h=>h.2,fun h=>⟨fun e=>hc e.symm,h⟩⟩
  simp only[this,Nat.add_zero]
theorem DV{s s':az}{i:Nat}{b:Int}(e:s'.aQ=s.aQ.erase i)(ha:s'.all=s.all)(hi:i∈s.aQ):gR s b=gR s' b+if (s.bh i).aC=b then 1 else 0:=by
 simp only[gR,e,Y6 ha];rw[Lv hi];simp only[decide_eq_true_eq]
theorem Iw{l:List Int}{b:Int}(h:b∉l):fP l b=l++[b]:=if_neg h
theorem fm.I4{s s':az}{j:List aI}{x:aI}(h:fm s j)(hx:dz s x s')(b:Int):jV s' b+gR s' b+dV 2 b (j++[x])+dV 5 b (j++[x])=dV 1 b (j++[x])+dV 7 b (j++[x]):=by
 have aZ:=h.z8 b;cases hx with
 |vg k hh r =>
  rw[eW (by omega),eW (by omega),rO k,eW (by omega),xF (s:=s) rfl hh,show gR { s with here:=s.here++[x.aC] } b=gR s b from rfl];omega
 |vr k hh =>
  have:=Dq (s:=s) (s' := { s with here:=s.here.erase x.aC }) (b:=b) rfl h.ok.ah hh;rw[rO k,eW (by omega),eW (by omega),eW (by omega),show gR { s with here:=s.here.erase x.aC } b=gR s b from rfl];omega
 |oz k hh n m =>
  have U:=Dq (s:=s) (s' := { s with here:=s.here.erase x.aC,all:=s.all++[⟨x.no,x.other,x.aC,false⟩],aQ:=s.aQ++[s.all.length] }) (b:=b) rfl h.ok.ah hh;have ab:gR { s with here:=s.here.erase x.aC,all:=s.all++[⟨x.no,x.other,x.aC,false⟩],aQ:=s.aQ++[s.all.length] } b=gR s b+if x.aC=b then 1 else 0:=by
   simp only[gR,List.countP_append,List.countP_cons,List.countP_nil,zz1]
   congr 1
   ·refine List.countP_congr fun i hi =>?_;rw[qX (s:=s) (r:=⟨x.no,x.other,x.aC,false⟩) rfl (h.ok.cP i hi)]
   ·rw[sS (s:=s) (r:=⟨x.no,x.other,x.aC,false⟩) rfl];simp only[decide_eq_true_eq]
  rw[eW (by omega),eW (by omega),eW (by omega),eW (by omega)];omega
 |call k i hi n t b' c =>
  have ab:gR { s with all:=s.all.set i { s.bh i with ev:=true } } b=gR s b:=by
   simp only[gR];refine List.countP_congr fun m hm =>?_;rw[sT (s:=s) rfl];split
   ·rename_i e;rw[e.1]
   ·rfl
  rw[eW (by omega),eW (by omega),eW (by omega),eW (by omega),ab];exact aZ
 |done k i hi n t b' =>
  have U:=DV (s:=s) (s' := { s with aQ:=s.aQ.erase i }) (b:=b) rfl rfl hi;rw[eW (by omega),rO k,eW (by omega),eW (by omega),show jV { s with aQ:=s.aQ.erase i } b=jV s b from rfl];rw[b'] at U;omega
 |gG k i hi n t b' c =>
  have hx:x.aC∉s.here:=b'▸h.Cg i hi;have U:=DV (s:=s) (s' := { s with aQ:=s.aQ.erase i,here:=fP s.here x.aC }) (b:=b) rfl rfl hi;have ab:=xF (s:=s) (s' := { s with aQ:=s.aQ.erase i,here:=fP s.here x.aC }) (b:=b) (Iw hx) hx;rw[eW (by omega),eW (by omega),eW (by omega),eW (by omega)];rw[b'] at U;omega
 |take k u hh r =>
  rw[eW (by omega),eW (by omega),eW (by omega),rO k,xF (s:=s) rfl hh,show gR { s with bN:=s.bN++[x],here:=s.here++[x.aC] } b=gR s b from rfl];omega
 |ref k u =>
  rw[eW (by omega),eW (by omega),eW (by omega),eW (by omega)];exact aZ
theorem fm.N5{s s':az}{j:List aI}{x:aI}(h:fm s j)(hx:dz s x s'):(∀ i∈s'.aQ,(s'.bh i).aC∉s'.here)∧∀ i∈s'.aQ,∀ k∈s'.aQ,(s'.bh i).aC=(s'.bh k).aC→i=k:=by
 have he:=h.Cg;have hu:=h.aav;have dB:∀ {c:Int},s.fN c=false→∀ i∈s.aQ,(s.bh i).aC∉s.here++[c]:=fun hr i hi hh=>by
  rcases zy4.1 hh with hh | hh
  ·exact he i hi hh
  ·exact ZA hr i hi (zy1.1 hh)
 cases hx with
 |vg k hh r=>exact ⟨dB r,hu⟩
 |vr k hh=>exact ⟨fun i hi hh=>he i hi (List.mem_of_mem_erase hh),hu⟩
 |oz k hh n m =>
  have old:∀ i∈s.aQ,(({ s with here:=s.here.erase x.aC,all:=s.all++[⟨x.no,x.other,x.aC,false⟩],aQ:=s.aQ++[s.all.length] } : az).bh i)=s.bh i:=fun i hi=>qX (s:=s) (r:=⟨x.no,x.other,x.aC,false⟩) rfl (h.ok.cP i hi);have jZ:(({ s with here:=s.here.erase x.aC,all:=s.all++[⟨x.no,x.other,x.aC,false⟩],aQ:=s.aQ++[s.all.length] } : az).bh s.all.length).aC=x.aC:=by rw[sS (s:=s) (r:=⟨x.no,x.other,x.aC,false⟩) rfl]
  refine ⟨fun i hi =>?_,fun i hi m hm e =>?_⟩
  ·rcases zy4.1 hi with hi | hi
   ·rw[old i hi];exact fun hh=>he i hi (List.mem_of_mem_erase hh)
   ·rw[zy1.1 hi,jZ];exact fun hh=>(h.ok.ah.mem_erase_iff.1 hh).1 rfl
  ·rcases zy4.1 hi with hi | hi <;>rcases zy4.1 hm with hm | hm
   ·rw[old i hi,old m hm] at e;exact hu i hi m hm e
   ·rw[old i hi,zy1.1 hm,jZ] at e;exact absurd hh (e▸he i hi)
   ·rw[old m hm,zy1.1 hi,jZ] at e;exact absurd hh (e▸he m hm)
   ·rw[zy1.1 hi,zy1.1 hm]
 |call k i hi n t b c =>
  have same:∀ m,(({ s with all:=s.all.set i { s.bh i with ev:=true } } : az).bh m).aC=(s.bh m).aC:=fun m=>by
   rw[sT (s:=s) rfl];split
   ·rename_i e;rw[e.1]
   ·rfl
  exact ⟨fun m hm=>by rw[same];exact he m hm,fun m hm m2 hm2 e=>by rw[same,same] at e;exact hu m hm m2 hm2 e⟩
 |done k i hi n t b=>exact ⟨fun m hm=>he m (List.mem_of_mem_erase hm),fun m hm m2 hm2 e=>hu m (List.mem_of_mem_erase hm) m2 (List.mem_of_mem_erase hm2) e⟩
 |gG k i hi n t b c =>
  refine ⟨fun m hm hh =>?_,fun m hm m2 hm2 e=>hu m (List.mem_of_mem_erase hm) m2 (List.mem_of_mem_erase hm2) e⟩;obtain ⟨U,ab⟩:=h.ok.kB.mem_erase_iff.1 hm;rcases (Xu _ _ _).1 hh with hh | hh
  ·exact U (hu m ab i hi ((show (s.bh m).aC=x.aC from hh).trans b.symm))
  ·exact he m ab hh
 |take k u hh r=>exact ⟨dB r,hu⟩
 |ref k u=>exact ⟨he,hu⟩
theorem fm.step{s s':az}{j:List aI}{x:aI}(h:fm s j)(hn:eM s x=some s'):fm s' (j++[x]):=by
 have hx:=aai hn;obtain ⟨n1,n2,n3⟩:=h.XI hx;obtain ⟨c1,c2⟩:=h.Kp hx;obtain ⟨s1,s2,s3⟩:=h.ZL hx;obtain ⟨e1,e2⟩:=h.N5 hx;exact ⟨(h.ok.next hn).1,h.ID hx,n1,by rw[n2];exact n3,h.NJ hx,h.NI hx,c1,c2,s1,s2,by rw[n2];exact s3,h.I4 hx,e1,e2⟩
theorem G4{s s':az}{x:aI}(h:eS s x=some s'):gU x=true∧eM s x=some s':=by
 simp only[eS] at h;split at h
 ·rename_i hx;exact ⟨hx,h⟩
 ·cases h
theorem DI:∀ (l j:List aI) (s s':az),fm s j→fO s l=some s'→fm s' (j++l)
 | [],j,s,s',h,hr=>by cases hr;rw[zy3];exact h
 |x::l,j,s,s',h,hr=>by
  simp only[fO] at hr;cases ht:eS s x with
  |none=>rw[ht] at hr;cases hr
  |some s1 =>
   rw[ht] at hr;have:=DI l (j++[x]) s1 s' (h.step (G4 ht).2) hr
   rwa [zz9] at this
theorem DH{aB:Int}{l:List aI}{s:az}(h:eQ aB l=some s):fm s l:=DI l [] _ _ (WT aB) h
theorem GD:∀ (l:List aI) (s s':az),fO s l=some s'→∀ x∈l,gU x=true
 | [],_,_,_,x,hx=>by cases hx
 |y::l,s,s',hr,x,hx=>by
  simp only[fO] at hr;cases ht:eS s y with
  |none=>rw[ht] at hr;cases hr
  |some s1 =>
   rw[ht] at hr;rcases zw9.1 hx with rfl | hx
   ·exact (G4 ht).1
   ·exact GD l s1 s' hr x hx
def h3(f:Nat→Nat):Nat:=((List.range 6).map f).sum
theorem oO(f:Nat→Nat):h3 f=f 0+f 1+f 2+f 3+f 4+f 5:=by
 simp[h3,List.range,List.range.loop];omega
def bW(ps:List aW)(m:Nat):az:=(cK (aS ps m)).getD (eh 0)
structure oM (m:Int) (e:aI) (cq:Nat→List aI):Prop where
 lR:e.kind=7∨e.kind=8→⟨3,e.aC,m,e.no⟩∈cq e.other.toNat
 kA:e.kind=8→⟨4,e.aC,m,e.no⟩∈cq e.other.toNat
 Em:e.kind=5→⟨7,e.aC,m,e.no⟩∈cq e.other.toNat
 En:e.kind=6→⟨8,e.aC,m,e.no⟩∈cq e.other.toNat
def gQ(ps:List aW)(m:Nat):List aI:=iB (aS ps m)
structure Whole (ps:List aW):Prop where
 len:ps.length=6
 aB:∀ m,m<6→(aS ps m).aB=m
 val:∀ m,m<6→cK (aS ps m)=some (bW ps m)
 lK:∀ m,m<6→∀ e∈(aS ps m).j,oM m e (gQ ps)
theorem nW{ps:List aW}{m:Nat}{e:aI}(h:e∈gQ ps m):e∈(aS ps m).j:=List.mem_of_mem_take h
theorem iC{a b n:Int} : c6 a b n=true↔a≤n∧n≤b:=by simp[c6]
section
variable {ps:List aW} (ar:Whole ps)
include ar
theorem Whole.iD{m:Nat}(hm:m<6):fm (bW ps m) (aS ps m).j:=DH (fF (ar.val m hm)).2.2.2.2.2
theorem Whole.th{m:Nat}(hm:m<6):(bW ps m).aB=m:=by rw[(fF (ar.val m hm)).2.1,ar.aB m hm]
theorem Whole.Yv{m:Nat}(hm:m<6){e:aI}(h:e∈(aS ps m).j):gU e=true:=GD _ _ _ (fF (ar.val m hm)).2.2.2.2.2 e h
theorem Whole.mid{m:Nat}(hm:m<6){e:aI}(h:e∈(aS ps m).j)(hk:3≤e.kind):(1≤e.aC∧e.aC≤9999)∧(0≤e.other∧e.other≤5)∧1≤e.no∧e.no≤200:=by
 have h:=ar.Yv hm h;simp only[gU] at h;rw[if_neg (by omega)] at h;split at h
 ·simp only[t8,iC] at h;exact ⟨h.1,h.2.1,h.2.2⟩
 ·cases h
theorem Whole.pL{a:Nat}(ha:a<6){b t n:Int}(h:⟨3,b,t,n⟩∈(aS ps a).j):∃ i,i<(bW ps a).all.length∧n=(i:Int)+1∧((bW ps a).bh i).aC=b∧((bW ps a).bh i).to=t:=by
 have J:=ar.iD ha;have U:(⟨3,b,t,n⟩:aI)∈lS 3 (aS ps a).j:=x2.2 ⟨h,rfl⟩;rw[J.all] at U;obtain ⟨r,hr,e⟩:=zy5.1 U;obtain ⟨i,hi,rfl⟩:=List.getElem_of_mem hr;have e2:(bW ps a).bh i=(bW ps a).all[i]:=by simp[az.bh,zz0,hi]
 have af:=J.no i hi;rw[←e2] at e;simp only[lf,aI.mk.injEq,true_and] at e;exact ⟨i,hi,by rw[←e.2.2,af],e.1,e.2.1⟩
theorem Whole.y5{a:Nat}(ha:a<6){i:Nat}(hi:i<(bW ps a).all.length):⟨3,((bW ps a).bh i).aC,((bW ps a).bh i).to,(i:Int)+1⟩∈(aS ps a).j:=by
 have J:=ar.iD ha;have e2:(bW ps a).bh i=(bW ps a).all[i]:=by simp[az.bh,zz0,hi]
 have:lf ((bW ps a).bh i)∈lS 3 (aS ps a).j:=by rw[J.all,e2];exact List.mem_map_of_mem (zw7 hi)
 rw[lf,J.no i hi] at this;exact (x2.1 this).1
theorem Whole.zj{a:Nat}(ha:a<6){i:Nat}(hi:i<(bW ps a).all.length):0≤((bW ps a).bh i).to∧((bW ps a).bh i).to≤5∧((bW ps a).bh i).to≠a:=by
 have h:=(ar.mid ha (ar.y5 ha hi) (Int.le_refl _)).2.1;have ab:=(ar.iD ha).to i hi;rw[ar.th ha] at ab;exact ⟨h.1,h.2,ab⟩
theorem Whole.bN{m:Nat}(hm:m<6){y:aI} : y∈(bW ps m).bN↔y∈(aS ps m).j∧(y.kind=7∨y.kind=8):=by
 rw[(ar.iD hm).bN];simp[l7]
theorem Whole.oa{m:Nat}(hm:m<6){x y:aI}(hx:x∈(aS ps m).j)(kx:x.kind=7∨x.kind=8)(hy:y∈(aS ps m).j)(ky:y.kind=7∨y.kind=8)(ho:x.other=y.other)(hn:x.no=y.no):x=y:=by
 have U:=(ar.bN hm).2 ⟨hx,kx⟩;have ab:=(ar.bN hm).2 ⟨hy,ky⟩;have hw:=(ar.iD hm).db;simp only[az.db] at hw;revert U ab hw;generalize (bW ps m).bN=l;intro U ab hw;have e:ec x=ec y:=by simp only[ec,ho,hn]
 induction l with
 |nil=>cases U
 |cons z l ih =>
  simp only[zz4,List.nodup_cons,zy5,not_exists,not_and] at hw;rcases zw9.1 U with e1 | U
  ·rcases zw9.1 ab with e2 | ab
   ·rw[e1,e2]
   ·exact absurd (e1▸e.symm) (hw.1 y ab)
  ·rcases zw9.1 ab with e2 | ab
   ·exact absurd (e2▸e) (hw.1 x U)
   ·exact ih U ab hw.2
end
def mh(ps:List aW)(a i:Nat):Bool:=decide ((⟨7,((bW ps a).bh i).aC,a,(i:Int)+1⟩:aI)∈(aS ps ((bW ps a).bh i).to.toNat).j)
def mO(b:Int)(y:aI):Bool:=decide (y.kind=7∧y.aC=b)
def qD(b:Int)(y:aI):Bool:=decide (y.kind=5∧y.aC=b)
def sc(ps:List aW)(b:Int)(a i:Nat):Bool:=decide (((bW ps a).bh i).aC=b)
def my(ps:List aW)(b:Int):List (Nat×Nat):=(List.range 6).flatMap fun m=>((aS ps m).j.filter (mO b)).map fun y=>(y.other.toNat,fq y)
def mr(ps:List aW)(b:Int):List (Nat×Nat):=(List.range 6).flatMap fun a=>((aS ps a).j.filter (qD b)).map fun y=>(a,fq y)
def lv(ps:List aW)(b:Int):List (Nat×Nat):=(List.range 6).flatMap fun a=>((bW ps a).aQ.filter (sc ps b a)).map fun i=>(a,i)
def sK(ps:List aW)(k:Nat×Nat):Bool:=decide (k.2∈(bW ps k.1).aQ)
def vI(ps:List aW)(k:Nat×Nat):Bool:=mh ps k.1 k.2
theorem EL{l:List Nat}{f:Nat→List Nat}(h:l.Nodup)(hf:∀ a∈l,(f a).Nodup):(l.flatMap fun a=>(f a).map fun i=>(a,i)).Nodup:=by
 refine List.pairwise_flatMap.2 ⟨fun a ha =>?_,?_⟩
 ·exact List.Pairwise.map _ (fun x y hne e=>hne (congrArg Prod.snd e)) (hf a ha)
 ·refine List.Pairwise.imp (fun {a b} hne x hx y hy e =>?_) h;obtain ⟨i,_,rfl⟩:=zy5.1 hx;obtain ⟨k,_,rfl⟩:=zy5.1 hy;exact hne (congrArg Prod.fst e)
theorem rB{α:Type}(f:Nat→List α):((List.range 6).flatMap f).length=h3 fun m=>(f m).length:=List.length_flatMap
section
variable {ps:List aW} (ar:Whole ps)
include ar
theorem Ee{b:Int}{a i:Nat} : (a,i)∈my ps b↔a<6∧i<(bW ps a).all.length∧((bW ps a).bh i).aC=b∧mh ps a i=true:=by
 simp only[my,List.mem_flatMap,zy9,zy5,zx5,mO,decide_eq_true_eq,Prod.mk.injEq];constructor
 ·rintro ⟨m,hm,y,⟨hy,hk,hb⟩,rfl,rfl⟩;obtain ⟨_,ho,hn⟩:=ar.mid hm hy (by omega);have hs:=nW ((ar.lK m hm y hy).lR (.inl hk));obtain ⟨i,hi,e1,e2,e3⟩:=ar.pL (by omega) hs;have ei:fq y=i:=sh e1;rw[ei];refine ⟨by omega,hi,by rw[e2,hb],?_⟩;simp only[mh,decide_eq_true_eq,e3,e2];have:(⟨7,y.aC,(y.other.toNat:Int),(i:Int)+1⟩:aI)=y:=by
   cases y;simp only at hk e1 ho ⊢;rw[hk,e1,Int.toNat_of_nonneg ho.1]
  rw[this];simpa using hy
 ·rintro ⟨ha,hi,hb,ht⟩;simp only[mh,decide_eq_true_eq] at ht;obtain ⟨t1,t2,_⟩:=ar.zj ha hi;exact ⟨((bW ps a).bh i).to.toNat,by omega,_,⟨ht,rfl,hb⟩,by simp,by simp only[fq];omega⟩
theorem Xt{b:Int}{a i:Nat} : (a,i)∈lv ps b↔a<6∧i<(bW ps a).all.length∧((bW ps a).bh i).aC=b∧i∈(bW ps a).aQ:=by
 simp only[lv,List.mem_flatMap,zy9,zy5,zx5,sc,decide_eq_true_eq,Prod.mk.injEq];constructor
 ·rintro ⟨m,hm,k,⟨hk,hb⟩,rfl,rfl⟩;exact ⟨hm,(ar.iD hm).ok.cP k hk,hb,hk⟩
 ·rintro ⟨ha,_,hb,hl⟩;exact ⟨a,ha,i,⟨hl,hb⟩,rfl,rfl⟩
theorem NK{a:Nat}(ha:a<6){e:aI}(h:e∈gH (aS ps a).j):fq e∉(bW ps a).aQ:=by
 have hn:=((ar.iD ha).rS.nodup_iff).2 List.nodup_range;obtain ⟨_,_,af⟩:=zv2.1 hn;exact fun hl=>af _ hl _ (List.mem_map_of_mem h) rfl
theorem Xs{b:Int}{a i:Nat} : (a,i)∈mr ps b↔a<6∧i<(bW ps a).all.length∧((bW ps a).bh i).aC=b∧mh ps a i=true∧i∉(bW ps a).aQ:=by
 simp only[mr,List.mem_flatMap,zy9,zy5,zx5,qD,decide_eq_true_eq,Prod.mk.injEq];constructor
 ·rintro ⟨m,hm,e,⟨he,hk,hb⟩,rfl,rfl⟩;have ay:e∈gH (aS ps m).j:=by simp[gH,he,hk]
  obtain ⟨U,ab,af⟩:=(ar.iD hm).wZ e ay;have ah:=NK ar hm ay;refine ⟨hm,(ar.iD hm).DF ay,by rw[ab,hb],?_,ah⟩;simp only[mh,decide_eq_true_eq,ab,af];have:=nW ((ar.lK m hm e he).Em hk)
  rwa [U] at this
 ·rintro ⟨ha,hi,hb,ht,ah⟩;have J:=ar.iD ha;have hm:i∈(bW ps a).aQ++(gH (aS ps a).j).map fq:=(J.rS.mem_iff).2 (zy9.2 hi);rcases zy4.1 hm with hm | hm
  ·exact absurd hm ah
  ·obtain ⟨e,he,rfl⟩:=zy5.1 hm;obtain ⟨U,ab,af⟩:=J.wZ e he;simp only[gH,zx5,decide_eq_true_eq] at he;refine ⟨a,ha,e,⟨he.1,?_,by rw[←ab,hb]⟩,rfl,rfl⟩;rcases he.2 with k | k
   ·exact k
   ·exfalso
    have h8:=nW ((ar.lK a ha e he.1).En k);simp only[mh,decide_eq_true_eq] at ht;obtain ⟨t1,t2,_⟩:=ar.zj ha hi;rw[af] at t1 t2 ht;have:=ar.oa (by omega) ht (.inl rfl) h8 (.inr rfl) rfl (by simp only;omega);simp only[aI.mk.injEq] at this;exact absurd this.1 (by decide)
theorem Ep(b:Int):(my ps b).Nodup:=by
 refine List.pairwise_flatMap.2 ⟨fun m hm =>?_,?_⟩
 ·have hm:=zy9.1 hm;have hw:=(ar.iD hm).db;rw[az.db,(ar.iD hm).bN] at hw;have U:((aS ps m).j.filter (mO b)).Sublist (l7 (aS ps m).j):=by
   have:(aS ps m).j.filter (mO b)=(l7 (aS ps m).j).filter (mO b):=by
    simp only[l7,List.filter_filter];refine List.filter_congr fun x _ =>?_;simp only[mO];by_cases h:x.kind=7∧x.aC=b
    ·simp[h]
    ·simp[h]
   rw[this];exact List.filter_sublist
  have ab:((aS ps m).j.filter (mO b)).Pairwise fun x y=>ec x≠ec y:=by
   have:=List.pairwise_map.1 hw;exact this.sublist U
  refine List.pairwise_map.2 (List.Pairwise.imp_of_mem (fun {x y} hx hy hne e=>hne ?_) ab);simp only[zx5,mO,decide_eq_true_eq] at hx hy;obtain ⟨_,o1,n1⟩:=ar.mid hm hx.1 (by omega);obtain ⟨_,o2,n2⟩:=ar.mid hm hy.1 (by omega);simp only[fq,Prod.mk.injEq] at e;simp only[ec,jI.mk.injEq];omega
 ·refine List.Pairwise.imp_of_mem (fun {m m2} hm hm2 hne x hx y hy e=>hne ?_) List.nodup_range;have hm:=zy9.1 hm;have hm2:=zy9.1 hm2;obtain ⟨u,hu,rfl⟩:=zy5.1 hx;obtain ⟨v,hv,rfl⟩:=zy5.1 hy;simp only[zx5,mO,decide_eq_true_eq] at hu hv;obtain ⟨_,o1,n1⟩:=ar.mid hm hu.1 (by omega);obtain ⟨_,o2,n2⟩:=ar.mid hm2 hv.1 (by omega);simp only[fq,Prod.mk.injEq] at e;have U:=nW ((ar.lK m hm u hu.1).lR (.inl hu.2.1));have ab:=nW ((ar.lK m2 hm2 v hv.1).lR (.inl hv.2.1));rw[←e.1] at ab;obtain ⟨i,_,e1,_,e3⟩:=ar.pL (by omega) U;obtain ⟨k,_,e4,_,e6⟩:=ar.pL (by omega) ab;have:i=k:=by omega
  subst this;rw[e3] at e6;omega
theorem XK(b:Int):(lv ps b).Nodup:=EL (f:=fun a=>(bW ps a).aQ.filter (sc ps b a)) List.nodup_range fun a ha=>((ar.iD (zy9.1 ha)).ok.kB).filter _
theorem XJ(b:Int):(mr ps b).Nodup:=by
 have:mr ps b=(List.range 6).flatMap fun a=>(((aS ps a).j.filter (qD b)).map fq).map fun i=>(a,i):=by simp only[mr,List.map_map];rfl
 rw[this];refine EL List.nodup_range fun a ha =>?_;have ha:=zy9.1 ha;have hn:=((ar.iD ha).rS.nodup_iff).2 List.nodup_range;obtain ⟨_,ab,_⟩:=zv2.1 hn;refine ab.sublist (List.Sublist.map _ ?_);have:(aS ps a).j.filter (qD b)=(gH (aS ps a).j).filter (qD b):=by
  simp only[gH,List.filter_filter];refine List.filter_congr fun x _ =>?_;simp only[qD];by_cases h:x.kind=5∧x.aC=b
  ·simp[h]
  ·simp[h]
 rw[this];exact List.filter_sublist
omit ar in
theorem DT{α:Type}(p:α→Bool)(l:List α):l.length=(l.filter p).length+(l.filter fun x => !p x).length:=by
 have:=List.length_eq_countP_add_countP p (l:=l);rw[List.countP_eq_length_filter,List.countP_eq_length_filter] at this;rw[this]
 congr 2
 refine List.filter_congr fun x _ =>?_;cases p x <;>simp
def sX(ps:List aW)(b:Int):Nat:=h3 fun a=>(bW ps a).aQ.countP fun i=>sc ps b a i && !mh ps a i
def pZ(ps:List aW)(b:Int):Nat:=h3 fun m=>jV (bW ps m) b
def gP(ps:List aW)(k b:Int):Nat:=h3 fun m=>dV k b (aS ps m).j
omit ar in
theorem Iq(f g:Nat→Nat):h3 (fun m=>f m+g m)=h3 f+h3 g:=by simp only[oO];omega
omit ar in
theorem nJ{f g:Nat→Nat}(h:∀ m,m<6→f m=g m):h3 f=h3 g:=by
 simp only[oO,h 0 (by omega),h 1 (by omega),h 2 (by omega),h 3 (by omega),h 4 (by omega),h 5 (by omega)]
theorem Whole.total(b:Int):pZ ps b+sX ps b+gP ps 2 b=gP ps 1 b:=by
 have U:pZ ps b+(lv ps b).length+gP ps 2 b+(mr ps b).length=gP ps 1 b+(my ps b).length:=by
  have e1:(lv ps b).length=h3 fun m=>gR (bW ps m) b:=by
   rw[lv,rB];refine nJ fun m _ =>?_;rw[zz7,gR,List.countP_eq_length_filter];rfl
  have e2:(mr ps b).length=gP ps 5 b:=by
   rw[mr,rB];refine nJ fun m _ =>?_;rw[zz7,dV,List.countP_eq_length_filter];rfl
  have e3:(my ps b).length=gP ps 7 b:=by
   rw[my,rB];refine nJ fun m _ =>?_;rw[zz7,dV,List.countP_eq_length_filter];rfl
  rw[e1,e2,e3];simp only[pZ,gP,←Iq];exact nJ fun m hm=>(ar.iD hm).z8 b
 have ab:=DT (sK ps) (my ps b);have af:=DT (vI ps) (lv ps b);have aq:((my ps b).filter (sK ps)).length=((lv ps b).filter (vI ps)).length:=by
  refine List.Perm.length_eq ((List.perm_ext_iff_of_nodup ((Ep ar b).filter _) ((XK ar b).filter _)).2 ?_);rintro ⟨a,i⟩;simp only[zx5,Ee ar,Xt ar,sK,vI,decide_eq_true_eq];constructor
  ·rintro ⟨⟨U,ab,af,aq⟩,h5⟩;exact ⟨⟨U,ab,af,h5⟩,aq⟩
  ·rintro ⟨⟨U,ab,af,h5⟩,aq⟩;exact ⟨⟨U,ab,af,aq⟩,h5⟩
 have h5:((my ps b).filter fun k => !sK ps k).length=(mr ps b).length:=by
  refine List.Perm.length_eq ((List.perm_ext_iff_of_nodup ((Ep ar b).filter _) (XJ ar b)).2 ?_);rintro ⟨a,i⟩;simp only[zx5,Ee ar,Xs ar,sK,Bool.not_eq_true',decide_eq_false_iff_not];constructor
  ·rintro ⟨⟨U,ab,af,aq⟩,h5⟩;exact ⟨U,ab,af,aq,h5⟩
  ·rintro ⟨U,ab,af,aq,h5⟩;exact ⟨⟨U,ab,af,aq⟩,h5⟩
 have h6:((lv ps b).filter fun k => !vI ps k).length=sX ps b:=by
  rw[lv,List.filter_flatMap,rB];refine nJ fun a _ =>?_;rw[List.countP_eq_length_filter,List.filter_map,zz7,List.filter_filter]
  congr 1
  refine List.filter_congr fun i _ =>?_;rw[Bool.and_comm];rfl
 omega
end
def jJ(ps:List aW):List az:=(List.range 6).map (bW ps)
def vX(ps:List aW):Prop:=∀ b,gP ps 1 b≤1
section
variable {ps:List aW} (ar:Whole ps)
include ar
theorem Whole.EY:ps=(List.range 6).map (aS ps):=by
 refine List.ext_getElem (by simp[ar.len]) fun i U ab =>?_;simp[mZ U]
theorem Whole.fX:qd ps=true:=by
 simp only[qd,zx2,zy9,ar.len];intro i hi;simp only[iM,ar.val i hi,Option.isSome_some,Bool.true_and,Bool.or_eq_true,beq_iff_eq,decide_eq_true_eq];by_cases h:i=0
 ·exact .inl h
 ·right
  rw[ar.aB i hi,ar.aB (i-1) (by omega)];omega
theorem Whole.aae:mg ps=jJ ps:=by
 have h:∀ l:List Nat,(∀ m∈l,m<6)→(l.map (aS ps)).filterMap cK=l.map (bW ps):=by
  intro l
  induction l with
  |nil=>intro _;rfl
  |cons m l ih =>
   intro hl;rw[zz4,zz4,List.filterMap_cons,ar.val m (hl m (by simp)),ih fun k hk=>hl k (by simp[hk])]
 have:=h (List.range 6) fun m hm=>zy9.1 hm
 rwa [←ar.EY] at this
theorem Whole.zR{b:Int}(hb:c6 1 9999 b=true):gF ps b=(jJ ps,0):=by
 simp only[gF,ar.fX,hb,if_true,ar.aae]
theorem Whole.aaG{b:Int}(hb:c6 1 9999 b=true):(oG ps b).1.length=pZ ps b∧(oG ps b).2=0:=by
 simp only[oG,ar.zR hb,jJ,zz7,List.filter_map,and_true];simp only[pZ,jV,oO];simp only[List.range,List.range.loop,zw0,List.filter_nil,Function.comp,decide_eq_true_eq]
 (repeat' split) <;>rfl
theorem W2{m:Nat}(hm:m<6){a:Int}{no b:Int}(hs:⟨3,b,(m:Int),no⟩∈(aS ps a.toNat).j)(ha:0≤a∧a≤5):(sn (bW ps m) ⟨a,no⟩=7)↔⟨7,b,a,no⟩∈(aS ps m).j:=by
 simp only[sn];constructor
 ·intro h;split at h
  ·rename_i x hx;have U:=List.mem_of_find?_eq_some hx;have ab:=List.find?_some hx;simp only[decide_eq_true_eq,ec,jI.mk.injEq] at ab;obtain ⟨af,aq⟩:=(ar.bN hm).1 U;have hn:=nW ((ar.lK m hm x af).lR aq);rw[ab.1,ab.2] at hn;obtain ⟨i,_,e1,e2,_⟩:=ar.pL (by omega) hs;obtain ⟨k,_,e4,e5,_⟩:=ar.pL (by omega) hn;have:i=k:=by omega
   subst this;cases x;simp only at h ab e5;rw[h,ab.1,ab.2,←e5,e2] at af;exact af
  ·cases h
 ·intro h;have hs2:=(ar.bN hm).2 ⟨h,.inl rfl⟩;cases hf:(bW ps m).bN.find? fun x=>decide (ec x=⟨a,no⟩) with
  |none =>
   have:=List.find?_eq_none.1 hf _ hs2;simp[ec] at this
  |some x =>
   have U:=List.mem_of_find?_eq_some hf;have ab:=List.find?_some hf;simp only[decide_eq_true_eq,ec,jI.mk.injEq] at ab;obtain ⟨af,aq⟩:=(ar.bN hm).1 U;have:=ar.oa hm af aq h (.inl rfl) ab.1 ab.2;simp only[this]
theorem aan{a i:Nat}(ha:a<6)(hi:i<(bW ps a).all.length):(jJ ps).any (ke (bW ps a) ((bW ps a).bh i) ((i:Int)+1))=mh ps a i:=by
 obtain ⟨t1,t2,_⟩:=ar.zj ha hi;have hs:=ar.y5 ha hi;have hk:=W2 ar (m:=((bW ps a).bh i).to.toNat) (a:=(a:Int)) (no:=(i:Int)+1) (b:=((bW ps a).bh i).aC) (by omega) (by rw[Int.toNat_of_nonneg t1,Int.toNat_natCast];exact hs) (by omega);rw[Bool.eq_iff_iff];simp only[jJ,List.any_map,List.any_eq_true,zy9,Function.comp,ke,mh,decide_eq_true_eq,t8,beq_iff_eq,ar.th ha];constructor
 ·rintro ⟨m,hm,e,hk7⟩;rw[ar.th hm] at e;have:((bW ps a).bh i).to.toNat=m:=by omega
  rw[this] at hk ⊢;exact hk.1 hk7
 ·intro h;exact ⟨_,by omega,by rw[ar.th (by omega)];omega,hk.2 h⟩
theorem Whole.Zb(b:Int):(lZ (jJ ps) b (jJ ps)).length=sX ps b:=by
 have U:lZ (jJ ps) b (jJ ps)=(List.range 6).flatMap fun a=>((bY (bW ps a).bu).filter (mQ (jJ ps) b (bW ps a))).map (lb (bW ps a)):=by
  simp only[lZ]
  conv=>lhs;arg 2;rw[jJ]
  rw[List.flatMap_map]
 rw[U,rB];refine nJ fun a ha =>?_;rw[zz7,←List.countP_eq_length_filter];have hp:(bY (bW ps a).bu).Perm (bW ps a).bu:=List.mergeSort_perm _ _;rw[hp.countP_eq,az.bu,List.countP_map];refine List.countP_congr fun i hi =>?_;have hil:=(ar.iD ha).ok.cP i hi;have e1:lb (bW ps a) ((i:Int)+1)=(bW ps a).bh i:=by simp only[lb];congr 1
 simp only[Function.comp,mQ,e1,aan ar ha hil,sc,t8,beq_iff_eq,decide_eq_true_eq]
end
def tj(k b:Int)(ps:List aW):Bool:=ps.any fun p=>p.j.any fun x=>decide (x.aC=b)&&decide (x.kind=k)
theorem BO{k b:Int}{j:List aI} : 0<dV k b j↔(j.any fun x=>decide (x.aC=b)&&decide (x.kind=k))=true:=by
 rw[dV,List.countP_pos_iff,List.any_eq_true];constructor
 ·rintro ⟨x,hx,h⟩;simp only[decide_eq_true_eq] at h;exact ⟨x,hx,by simp[h.1,h.2]⟩
 ·rintro ⟨x,hx,h⟩;simp only[t8,decide_eq_true_eq] at h;exact ⟨x,hx,by simp[h.1,h.2]⟩
theorem GO{ps:List aW}(ar:Whole ps){k b:Int} : tj k b ps=true↔0<gP ps k b:=by
 have key:tj k b ps=true↔∃ m,m<6∧0<dV k b (aS ps m).j:=by
  rw[tj]
  conv=>lhs;rw[ar.EY]
  rw[List.any_map,List.any_eq_true];constructor
  ·rintro ⟨m,hm,h⟩;exact ⟨m,zy9.1 hm,BO.2 h⟩
  ·rintro ⟨m,hm,h⟩;exact ⟨m,zy9.2 hm,BO.1 h⟩
 rw[key];simp only[gP,oO];constructor
 ·rintro ⟨m,hm,h⟩;have:m=0∨m=1∨m=2∨m=3∨m=4∨m=5:=by omega
  rcases this with rfl | rfl | rfl | rfl | rfl | rfl <;>omega
 ·intro h;by_cases aZ:0<dV k b (aS ps 0).j
  ·exact ⟨0,by omega,aZ⟩
  by_cases U:0<dV k b (aS ps 1).j
  ·exact ⟨1,by omega,U⟩
  by_cases ab:0<dV k b (aS ps 2).j
  ·exact ⟨2,by omega,ab⟩
  by_cases af:0<dV k b (aS ps 3).j
  ·exact ⟨3,by omega,af⟩
  by_cases aq:0<dV k b (aS ps 4).j
  ·exact ⟨4,by omega,aq⟩
  exact ⟨5,by omega,by omega⟩
theorem Yy{ps:List aW}(ar:Whole ps)(O:vX ps)(b:Int):pZ ps b+sX ps b≤1∧(tj 1 b ps=true→tj 2 b ps=false→pZ ps b+sX ps b=1):=by
 have h:=ar.total b;have U:=O b;refine ⟨by omega,fun ab af =>?_⟩;have aq:=(GO ar).1 ab;have h5:¬ 0<gP ps 2 b:=fun h=>by rw[(GO ar).2 h] at af;cases af
 omega
theorem sO{ps:List aW}{m:Nat}(hm:m<ps.length)(q:aW)(k:Nat):aS (ps.set m q) k=if k=m then q else aS ps k:=by
 simp only[aS,zz0,List.getElem?_set];by_cases h:m=k
 ·subst h;simp[hm]
 ·rw[if_neg h,if_neg fun e=>h e.symm]
structure rq (ps:List aW) (m:Nat) (x:aI) (q:aW):Prop where
 lt:(aS ps m).j.length<200
 eq:q=⟨(aS ps m).aB,(aS ps m).j++[x],(aS ps m).cq⟩
 ok:∃ s',eS (bW ps m) x=some s'
 kB:oM m x (gQ ps)
structure tC (ps:List aW) (m:Nat) (k:Nat) (q:aW):Prop where
 lo:(aS ps m).cq≤k
 hi:k≤(aS ps m).j.length
 eq:q=⟨(aS ps m).aB,(aS ps m).j.take k,k⟩
theorem oM.mono{m:Int}{e:aI}{f g:Nat→List aI}(h:oM m e f)(hs:∀ a x,x∈f a→x∈g a):oM m e g:=⟨fun k=>hs _ _ (h.lR k),fun k=>hs _ _ (h.kA k),fun k=>hs _ _ (h.Em k),fun k=>hs _ _ (h.En k)⟩
section
variable {ps:List aW} (ar:Whole ps) {m:Nat} (hm:m<6)
include ar hm
theorem Whole.cq:0≤(aS ps m).cq∧(aS ps m).cq≤(aS ps m).j.length∧(aS ps m).j.length≤200:=by
 obtain ⟨_,_,_,aq,h5,_⟩:=fF (ar.val m hm);simp only[iF,t8,iC] at h5;exact ⟨h5.2.2.1,h5.2.2.2,aq⟩
theorem Whole.add{x:aI}{q:aW}(h:rq ps m x q):Whole (ps.set m q)∧gQ (ps.set m q)=gQ ps∧eS (bW ps m) x=some (bW (ps.set m q) m):=by
 obtain ⟨U,rfl,⟨s',af⟩,aq⟩:=h;obtain ⟨f1,f2,f3⟩:=ar.cq hm;have hl:m<ps.length:=by rw[ar.len];exact hm
 have hp:=sO hl ⟨(aS ps m).aB,(aS ps m).j++[x],(aS ps m).cq⟩;obtain ⟨_,_,_,_,h5,h6⟩:=fF (ar.val m hm);have hf:gQ (ps.set m ⟨(aS ps m).aB,(aS ps m).j++[x],(aS ps m).cq⟩)=gQ ps:=by
  funext a
  simp only[gQ,hp a];split
  ·rename_i e;subst e;simp only[iB];exact List.take_append_of_le_length (by omega)
  ·rfl
 have ho:cK ⟨(aS ps m).aB,(aS ps m).j++[x],(aS ps m).cq⟩=some s':=by
  have hr:eQ (aS ps m).aB ((aS ps m).j++[x])=some s':=by
   rw[eQ,ot];rw[eQ] at h6;rw[h6];simp only[Option.bind_some,fO,af]
  rw[cK,if_pos,hr];simp only[iF,t8,iC,decide_eq_true_eq,zz6,List.length_singleton] at h5 ⊢;exact ⟨h5.1,by omega,by omega,by omega⟩
 have hst:bW (ps.set m ⟨(aS ps m).aB,(aS ps m).j++[x],(aS ps m).cq⟩) m=s':=by
  simp only[bW,hp m,if_true,ho,Option.getD_some]
 refine ⟨⟨by rw[List.length_set,ar.len],fun k hk =>?_,fun k hk =>?_,fun k hk e he =>?_⟩,hf,by rw[hst,af]⟩
 ·rw[hp k];split
  ·rename_i e;subst e;exact ar.aB k hk
  ·exact ar.aB k hk
 ·by_cases e:k=m
  ·subst e;rw[hp k,if_pos rfl,hst,ho]
  ·simp only[bW,hp k,if_neg e];exact ar.val k hk
 ·rw[hf];rw[hp k] at he;split at he
  ·rename_i e2;subst e2;rcases zy4.1 he with he | he
   ·exact ar.lK k hk e he
   ·rw[zy1.1 he];exact aq
  ·exact ar.lK k hk e he
omit ar hm in
theorem ZH{aB:Int}{l:List aI}{s:az}(h:eQ aB l=some s)(k:Nat):∃ s',eQ aB (l.take k)=some s':=by
 have:l=l.take k++l.drop k:=(List.take_append_drop k l).symm;rw[eQ,this,ot] at h;rw[eQ];cases hr:fO (eh aB) (l.take k) with
 |none=>rw[hr] at h;cases h
 |some s'=>exact ⟨s',rfl⟩
theorem Whole.kj{k:Nat}{q:aW}(h:tC ps m k q):Whole (ps.set m q)∧(∀ a x,x∈gQ ps a→x∈gQ (ps.set m q) a)∧gQ (ps.set m q) m=q.j:=by
 obtain ⟨U,ab,rfl⟩:=h;obtain ⟨f1,f2,f3⟩:=ar.cq hm;have hl:m<ps.length:=by rw[ar.len];exact hm
 have hp:=sO hl ⟨(aS ps m).aB,(aS ps m).j.take k,k⟩;obtain ⟨_,_,_,_,h5,h6⟩:=fF (ar.val m hm);obtain ⟨s',hr⟩:=ZH h6 k;have hself:iB ⟨(aS ps m).aB,(aS ps m).j.take k,k⟩=(aS ps m).j.take k:=by
  simp only[iB,List.take_take]
  congr 1
  omega
 have hf:∀ a x,x∈gQ ps a→x∈gQ (ps.set m ⟨(aS ps m).aB,(aS ps m).j.take k,k⟩) a:=by
  intro a x hx;simp only[gQ,hp a] at hx ⊢;split
  ·rename_i e;subst e;rw[hself];simp only[iB] at hx;exact (List.take_subset_take_left (l:=(aS ps a).j) (by omega)) hx
  ·exact hx
 have ho:cK ⟨(aS ps m).aB,(aS ps m).j.take k,k⟩=some s':=by
  rw[cK,if_pos,hr];simp only[iF,t8,iC,decide_eq_true_eq,zx7] at h5 ⊢;exact ⟨h5.1,by omega,by omega,by omega⟩
 refine ⟨⟨by rw[List.length_set,ar.len],fun a ha =>?_,fun a ha =>?_,fun a ha e he =>?_⟩,hf,?_⟩
 ·rw[hp a];split
  ·rename_i e;subst e;exact ar.aB a ha
  ·exact ar.aB a ha
 ·by_cases e:a=m
  ·subst e;simp only[bW,hp a,if_true,ho,Option.getD_some]
  ·simp only[bW,hp a,if_neg e];exact ar.val a ha
 ·rw[hp a] at he;split at he
  ·rename_i e2;subst e2;exact (ar.lK a ha e (List.mem_of_mem_take he)).mono hf
  ·exact (ar.lK a ha e he).mono hf
 ·simp only[gQ,hp m,if_true,hself]
theorem rj(f:aW→Nat)(q:aW):h3 (fun a=>f (aS (ps.set m q) a))+f (aS ps m)=h3 (fun a=>f (aS ps a))+f q:=by
 have hl:m<ps.length:=by rw[ar.len];exact hm
 simp only[sO hl,oO];have:m=0∨m=1∨m=2∨m=3∨m=4∨m=5:=by omega
 rcases this with rfl | rfl | rfl | rfl | rfl | rfl <;>simp <;>omega
end
structure nK (r:cL) (cq:Nat→List aI):Prop where
 ok:lT r=true
 lX:r.kind=1∨r.kind=3→⟨3,r.aC,r.to,r.no⟩∈cq r.fC.toNat
 lY:r.kind=3→⟨4,r.aC,r.to,r.no⟩∈cq r.fC.toNat
 j5:r.kind=2→⟨7,r.aC,r.to,r.no⟩∈cq r.fC.toNat
 Fz:r.kind=4→⟨8,r.aC,r.to,r.no⟩∈cq r.fC.toNat
theorem nK.mono{r:cL}{f g:Nat→List aI}(h:nK r f)(hs:∀ a x,x∈f a→x∈g a):nK r g:=⟨h.ok,fun k=>hs _ _ (h.lX k),fun k=>hs _ _ (h.lY k),fun k=>hs _ _ (h.j5 k),fun k=>hs _ _ (h.Fz k)⟩
theorem u3{r:cL}(h:lT r=true):(1≤r.kind∧r.kind≤4)∧(0≤r.fC∧r.fC≤5)∧(0≤r.to∧r.to≤5)∧r.fC≠r.to∧(1≤r.aC∧r.aC≤9999)∧1≤r.no∧r.no≤200:=by
 simpa only[lT,t8,iC,bne_iff_ne,ne_eq] using h
theorem nK.XC{r:cL}{f:Nat→List aI}(h:nK r f):oM r.to (iO r) f:=by
 have hk:=(u3 h.ok).1;have:r.kind=1∨r.kind=2∨r.kind=3∨r.kind=4:=by omega
 rcases this with k | k | k | k <;>refine ⟨fun e =>?_,fun e =>?_,fun e =>?_,fun e =>?_⟩ <;>simp[iO,pd,k] at e ⊢
 ·exact h.lX (.inl k)
 ·exact h.j5 k
 ·exact h.lX (.inr k)
 ·exact h.lY k
 ·exact h.Fz k
def sj(e:Int):Bool:=e==0||(e==2||(e==92||(e==93||(e==94||e==90))))
theorem zl(p:aW)(x:aI):((gX p x).2=2∧p.j.length=200)∨((gX p x).2=0∧p.j.length≠200∧(gX p x).1=⟨p.aB,p.j++[x],p.cq⟩):=by
 simp only[gX];split
 ·rename_i h;exact .inl ⟨rfl,h⟩
 ·rename_i h;exact .inr ⟨rfl,h,rfl⟩
theorem XD{m:Int}{x:aI}{f:Nat→List aI}(h:x.kind≤4):oM m x f:=⟨fun k=>by omega,fun k=>by omega,fun k=>by omega,fun k=>by omega⟩
def p0(ps:List aW)(m:Nat)(k b:Int)(r:aW×Int):Prop:=sj r.2=true∧(r.2=0→∃ x,x.kind=k∧x.aC=b∧rq ps m x r.1)
section
variable {ps:List aW} (ar:Whole ps) {m:Nat} (hm:m<6)
include ar hm
theorem uc{x:aI}{s':az}(hk:x.kind≤4)(ht:eS (bW ps m) x=some s'):p0 ps m x.kind x.aC (gX (aS ps m) x):=by
 obtain ⟨_,_,f3⟩:=ar.cq hm;rcases zl (aS ps m) x with ⟨U,_⟩ | ⟨U,ab,af⟩
 ·exact ⟨by rw[U];rfl,fun h=>by rw[U] at h;cases h⟩
 ·exact ⟨by rw[U];rfl,fun _=>⟨x,rfl,rfl,by omega,af,⟨s',ht⟩,XD hk⟩⟩
theorem Ni{b:Int}(hb:c6 1 9999 b=true):p0 ps m 1 b (kp (aS ps m) b):=by
 simp only[kp,ar.val m hm,hb,zw6,if_false];split
 ·exact ⟨rfl,fun h=>by cases h⟩
 ·rename_i c;refine uc ar hm (x:=⟨1,b,0,0⟩) (by simp) (s' := { bW ps m with here:=fP (bW ps m).here b }) ?_;simp only[eS,gU,hb,eM,if_neg c];rfl
theorem Nj{b:Int}(hb:c6 1 9999 b=true):p0 ps m 2 b (oo (aS ps m) b):=by
 simp only[oo,ar.val m hm,hb,zw6,if_false];split
 ·rename_i c;refine uc ar hm (x:=⟨2,b,0,0⟩) (by simp) (s' := { bW ps m with here:=(bW ps m).here.erase b }) ?_;rw[eS,if_pos (by simp[gU,hb]),eM,if_neg (by simp),if_pos rfl,if_pos c]
 ·exact ⟨rfl,fun h=>by cases h⟩
theorem Nk{b t:Int}(hb:c6 1 9999 b=true)(ht:c6 0 5 t=true):p0 ps m 3 b ((iY (aS ps m) b t).1,(iY (aS ps m) b t).2.2):=by
 obtain ⟨_,_,af,_,_,_⟩:=fF (ar.val m hm);obtain ⟨_,_,f3⟩:=ar.cq hm;simp only[iY,ar.val m hm,hb,ht,zw6,if_false,false_or];split
 ·exact ⟨rfl,fun h=>by cases h⟩
 split
 ·exact ⟨rfl,fun h=>by cases h⟩
 split
 ·exact ⟨rfl,fun h=>by cases h⟩
 rename_i c1 c2 c3;have c2:b∈(bW ps m).here:=Classical.byContradiction c2;have ah:=uc ar hm (x:=⟨3,b,t,((bW ps m).all.length:Int)+1⟩) (s' := { bW ps m with here:=(bW ps m).here.erase b,all:=(bW ps m).all++[⟨((bW ps m).all.length:Int)+1,t,b,false⟩],aQ:=(bW ps m).aQ++[(bW ps m).all.length] }) (by simp) (by
  have hno:c6 1 200 (((bW ps m).all.length:Int)+1)=true:=iC.2 (by omega);rw[eS,if_pos (by simp[gU,hb,ht,hno]),eM,if_neg (by simp),if_neg (by simp),if_pos rfl,if_pos ⟨c2,by rw[ar.th hm,←ar.aB m hm];exact c1,rfl⟩])
 rcases zl (aS ps m) ⟨3,b,t,((bW ps m).all.length:Int)+1⟩ with ⟨U,ab⟩ | ⟨U,_⟩
 ·exact absurd ab c3
 ·exact ⟨rfl,fun _=>ah.2 U⟩
theorem Nf(no:Int):∃ b,p0 ps m 4 b (nQ (aS ps m) no):=by
 simp only[nQ,ar.val m hm];split
 ·exact ⟨0,rfl,fun h=>by cases h⟩
 rename_i i hi;split
 ·exact ⟨0,rfl,fun h=>by cases h⟩
 rename_i c;obtain ⟨U,ab⟩:=iw hi;have J:=ar.iD hm;have hil:=J.ok.cP i U;obtain ⟨b1,o1,n1⟩:=ar.mid hm (ar.y5 hm hil) (Int.le_refl _);have hx:gU ⟨4,((bW ps m).bh i).aC,((bW ps m).bh i).to,no⟩=true:=by
  simp only[gU];rw[if_neg (by omega),if_pos (by omega)];simp only[t8,iC];simp only at b1 o1 n1;exact ⟨b1,o1,by omega⟩
 refine ⟨_,uc ar hm (x:=⟨4,((bW ps m).bh i).aC,((bW ps m).bh i).to,no⟩) (by simp) (s' := { bW ps m with all:=(bW ps m).all.set i { (bW ps m).bh i with ev:=true } }) ?_⟩;have hon:(bW ps m).on ⟨4,((bW ps m).bh i).aC,((bW ps m).bh i).to,no⟩=some i:=by simp[az.on,hi]
 rw[eS,if_pos hx,eM,if_neg (by simp),if_neg (by simp),if_neg (by simp),if_pos rfl,hon];simp only[c,if_false,zz3]
theorem BZ:∃ k,(h1 (aS ps m)).2=0∧tC ps m k (h1 (aS ps m)).1∧(h1 (aS ps m)).1.j=(aS ps m).j:=by
 obtain ⟨f1,f2,f3⟩:=ar.cq hm;simp only[h1,ar.val m hm];exact ⟨(aS ps m).j.length,trivial,⟨f2,zz5 _,by rw[List.take_length]⟩,trivial⟩
theorem Ng(ez:Int):∃ k,(mF (aS ps m) ez).2=0∧tC ps m k (mF (aS ps m) ez).1:=by
 obtain ⟨f1,f2,f3,f4,f5⟩:=BV (ar.val m hm) ez;simp only[mF,ar.val m hm];exact ⟨(lJ (aS ps m) ez).toNat,trivial,by omega,by omega,by rw[Int.toNat_of_nonneg (by omega)]⟩
theorem Nh{r:cL}(hr:nK r (gQ ps))(hto:r.to=m):((iN (aS ps m) r).2=0∨(iN (aS ps m) r).2=2)∧((iN (aS ps m) r).2=0→((iN (aS ps m) r).1=aS ps m∧eS (bW ps m) (iO r)=none)∨rq ps m (iO r) (iN (aS ps m) r).1)∧((aS ps m).j.length<200→(iN (aS ps m) r).2=0):=by
 have hme:=ar.aB m hm;have hc:¬ (lT r=false∨r.to≠(aS ps m).aB):=by
  rw[hr.ok,hme,hto];rintro (h | h)
  ·cases h
  ·exact h rfl
 simp only[iN,ar.val m hm,if_neg hc];split
 ·rename_i ht;exact ⟨.inl rfl,fun _=>.inl ⟨rfl,ht⟩,fun _=>rfl⟩
 ·rename_i s' ht;obtain ⟨_,_,f3⟩:=ar.cq hm;rcases zl (aS ps m) (iO r) with ⟨U,ab⟩ | ⟨U,ab,af⟩
  ·exact ⟨.inr U,fun h=>(by rw[U] at h;cases h),fun h=>(by omega)⟩
  ·refine ⟨.inl U,fun _=>.inr ⟨by omega,af,⟨s',ht⟩,?_⟩,fun _=>U⟩;have:=hr.XC
   rwa [hto] at this
theorem BY{to:Int}(ht:c6 0 5 to=true)(hne:to≠m):(iG (aS ps m) to).2=0∧∀ r∈(iG (aS ps m) to).1,nK r (gQ ps)∧r.to=to∧r.fC=m:=by
 have hme:=ar.aB m hm;have hc:¬ (c6 0 5 to=false∨to=(aS ps m).aB):=by
  rw[ht,hme];rintro (h | h)
  ·cases h
  ·exact hne h
 obtain ⟨_,_,s2,hr,hk,_⟩:=xm (ar.val m hm);simp only[iG,ar.val m hm,if_neg hc,hr,true_and];have J:=DH hr;have hme2:s2.aB=m:=by rw[(nv (kW _) hr).2.1];exact hme
 have ht2:=iC.1 ht;have hsent:∀ i,i<s2.all.length→(⟨3,(s2.bh i).aC,(s2.bh i).to,(i:Int)+1⟩:aI)∈iB (aS ps m):=fun i hi=>by
  have e2:s2.bh i=s2.all[i]:=by simp[az.bh,zz0,hi]
  have:lf (s2.bh i)∈lS 3 (iB (aS ps m)):=by rw[J.all,e2];exact List.mem_map_of_mem (zw7 hi)
  rw[lf,J.no i hi] at this;exact (x2.1 this).1
 intro r h;rcases zy4.1 h with h | h
 ·simp only[gv,zy5,zx5] at h;obtain ⟨n,⟨hn,ht'⟩,rfl⟩:=h;have hn:=GQ.1 (List.mem_of_mem_take hn);obtain ⟨i,hi,rfl⟩:=zy5.1 hn;have ei:((i:Int)+1).toNat-1=i:=by omega
  simp only[pV,ei,beq_iff_eq] at ht';have hil:=hk.cP i hi;have hs:=hsent i hil;have hb:=ar.mid hm (nW hs) (Int.le_refl _);simp only at hb;have hcl:=J.call i hil;simp only[oj,ei,hme2];rw[ht'] at hs hcl;refine ⟨⟨?_,fun _=>by simpa[gQ] using hs,fun k =>?_,fun k =>?_,fun k =>?_⟩,by first | rfl | trivial,by first | rfl | trivial⟩
  ·simp only[lT,t8,iC,bne_iff_ne,ne_eq];refine ⟨by split <;>omega,by omega,ht2,fun e=>hne e.symm,hb.1,hb.2.2⟩
  ·simp only at k ⊢;split at k
   ·rename_i c;simpa[gQ] using hcl.1 c
   ·cases k
  ·simp only at k;split at k <;>cases k
  ·simp only at k;split at k <;>cases k
 ·simp only[hX,List.mem_flatMap,zy9] at h;obtain ⟨n,hn,h⟩:=h;simp only[kX] at h;split at h
  ·rename_i x hx;have U:=List.mem_of_find?_eq_some hx;have ab:=List.find?_some hx;simp only[decide_eq_true_eq,ec,jI.mk.injEq] at ab;rw[J.bN] at U;simp only[l7,zx5,decide_eq_true_eq] at U;obtain ⟨af,aq⟩:=U;have hb:=ar.mid hm (nW af) (by omega);rw[zy1.1 h];have hx8:∀ k:Int,x.kind=k→(⟨k,x.aC,to,((n+1:Nat):Int)⟩:aI)∈iB (aS ps m):=fun k hk=>by
    cases x;simp only at hk ab;rw[←hk,←ab.1,←ab.2];exact af
   refine ⟨⟨?_,fun k =>?_,fun k =>?_,fun k =>?_,fun k =>?_⟩,rfl,hme2⟩
   ·simp only[lT,t8,iC,bne_iff_ne,ne_eq,hme2];refine ⟨by split <;>omega,by omega,ht2,fun e=>hne e.symm,hb.1,by omega⟩
   ·simp only at k;split at k <;>omega
   ·simp only at k;split at k <;>omega
   ·simp only[hme2] at k ⊢;split at k
    ·cases k
    ·rename_i c;exact hx8 7 (by omega)
   ·simp only[hme2] at k ⊢;split at k
    ·rename_i c;exact hx8 8 c
    ·cases k
  ·cases h
end
structure ee where
 ps:List aW
 rs:List cL
 bs:List Int
structure fk where
 kind:Int
 je:Int
 aC:Int
 to:Int
 no:Int
 deriving Inhabited
def cH(n m:Int):Int:=(n.tmod m+m).tmod m
theorem iE(n:Int){m:Int}(hm:0<m):0≤cH n m∧cH n m<m:=by
 have U:=Int.lt_tmod_of_pos n hm;exact ⟨Int.tmod_nonneg _ (by omega),Int.tmod_lt_of_pos _ hm⟩
def qU(p:aW)(m:Int):List cL:=(List.range 6).flatMap fun k:Nat=>if (k:Int)=m then [] else (iG p k).1
def eH(w:ee)(m:Nat)(r:aW×Int)(rs:List cL)(bs:List Int):ee×Bool:=(⟨if r.2=0 then w.ps.set m r.1 else w.ps,rs,bs⟩,sj r.2)
def bz(x:fk):Nat:=(cH x.je 6).toNat
def er(x:fk):Int:=1+cH x.aC 5
def dE(w:ee)(x:fk):ee×Bool :=
 if cH x.kind 10=0 then if er x∈w.bs then (w,true) else eH w (bz x) (kp (aS w.ps (bz x)) (er x)) w.rs (if (kp (aS w.ps (bz x)) (er x)).2=0 then w.bs++[er x] else w.bs)
 else if cH x.kind 10=1 then if x.no.tmod 3=0 then eH w (bz x) (oo (aS w.ps (bz x)) (er x)) w.rs w.bs else (w,true)
 else if cH x.kind 10=2∨cH x.kind 10=3 then eH w (bz x) ((iY (aS w.ps (bz x)) (er x) (cH x.to 6)).1,(iY (aS w.ps (bz x)) (er x) (cH x.to 6)).2.2) w.rs w.bs
 else if cH x.kind 10=4 then if (iX (aS w.ps (bz x))).1=[] then (w,true) else
  eH w (bz x) (nQ (aS w.ps (bz x)) ((iX (aS w.ps (bz x))).1.getD (cH x.no (iX (aS w.ps (bz x))).1.length).toNat default).no) w.rs w.bs
 else if cH x.kind 10=5 then eH w (bz x) (mF (aS w.ps (bz x)) x.no) w.rs w.bs
 else if cH x.kind 10=6 then eH w (bz x) (h1 (aS w.ps (bz x))) (w.rs++qU (h1 (aS w.ps (bz x))).1 (bz x)) w.bs
 else if w.rs=[] then (w,true) else
  eH w (w.rs.getD (cH x.no w.rs.length).toNat default).to.toNat (iN (aS w.ps (w.rs.getD (cH x.no w.rs.length).toNat default).to.toNat) (w.rs.getD (cH x.no w.rs.length).toNat default)) w.rs w.bs
structure gD (w:ee):Prop where
 gM:Whole w.ps
 oa:∀ b,gP w.ps 1 b≤1∧(0<gP w.ps 1 b→b∈w.bs)
 rl:∀ r∈w.rs,nK r (gQ w.ps)
def mR(p:aW):Nat:=p.j.countP fun x=>decide (x.kind≤4)
def ic(ps:List aW):Nat:=h3 fun m=>mR (aS ps m)
theorem D6(p:aW)(x:aI)(aB f:Int):mR ⟨aB,p.j++[x],f⟩=mR p+if x.kind≤4 then 1 else 0:=by
 simp only[mR,List.countP_append,List.countP_cons,List.countP_nil,zz1,decide_eq_true_eq]
section
variable {ps:List aW} {rs:List cL} {bs:List Int} (aw:gD ⟨ps,rs,bs⟩) {m:Nat} (hm:m<6)
include aw hm
theorem Dd{x:aI}{q:aW}(h:rq ps m x q)(hk:x.kind≠1):gD ⟨ps.set m q,rs,bs⟩∧ic (ps.set m q)=ic ps+if x.kind≤4 then 1 else 0:=by
 obtain ⟨U,ab,_⟩:=aw.gM.add hm h;refine ⟨⟨U,fun b =>?_,fun r hr=>by rw[ab];exact aw.rl r hr⟩,?_⟩
 ·have:=rj (show Whole ps from aw.gM) hm (fun p=>dV 1 b p.j) q;have af:dV 1 b q.j=dV 1 b (aS ps m).j:=by rw[h.eq];exact eW hk _
  have aq:=aw.oa b;simp only[gP] at aq ⊢;rw[show h3 (fun a=>dV 1 b (aS (ps.set m q) a).j)=h3 (fun a=>dV 1 b (aS ps a).j) by omega];exact aq
 ·have:=rj (show Whole ps from aw.gM) hm mR q;rw[h.eq,D6] at this;rw[h.eq];simp only[ic];omega
theorem WB{x:aI}{q:aW}(h:rq ps m x q)(hk:x.kind=1)(hb:x.aC∉bs):gD ⟨ps.set m q,rs,bs++[x.aC]⟩∧ic (ps.set m q)=ic ps+1:=by
 obtain ⟨U,ab,_⟩:=aw.gM.add hm h;refine ⟨⟨U,fun b =>?_,fun r hr=>by rw[ab];exact aw.rl r hr⟩,?_⟩
 ·have:=rj (show Whole ps from aw.gM) hm (fun p=>dV 1 b p.j) q;have af:dV 1 b q.j=dV 1 b (aS ps m).j+if x.aC=b then 1 else 0:=by rw[h.eq];exact rO hk _
  obtain ⟨aq,h5⟩:=aw.oa b;simp only[gP] at aq h5 ⊢;by_cases e:x.aC=b
  ·rw[if_pos e] at af;have aZ:¬ 0<h3 (fun a=>dV 1 b (aS ps a).j):=fun h=>hb (e▸h5 h);exact ⟨by omega,fun _=>by simp[e]⟩
  ·rw[if_neg e] at af;exact ⟨by omega,fun h=>List.mem_append_left _ (h5 (by omega))⟩
 ·have:=rj (show Whole ps from aw.gM) hm mR q;rw[h.eq,D6,if_pos (by omega)] at this;rw[h.eq];simp only[ic];omega
theorem De{k:Nat}{q:aW}(h:tC ps m k q):gD ⟨ps.set m q,rs,bs⟩∧ic (ps.set m q)≤ic ps:=by
 obtain ⟨U,ab,_⟩:=aw.gM.kj hm h;have hs:q.j.Sublist (aS ps m).j:=by rw[h.eq];exact List.take_sublist _ _
 refine ⟨⟨U,fun b =>?_,fun r hr=>(aw.rl r hr).mono ab⟩,?_⟩
 ·have:=rj (show Whole ps from aw.gM) hm (fun p=>dV 1 b p.j) q;have af:dV 1 b q.j≤dV 1 b (aS ps m).j:=hs.countP_le;obtain ⟨aq,h5⟩:=aw.oa b;simp only[gP] at aq h5 ⊢;exact ⟨by omega,fun h=>h5 (by omega)⟩
 ·have:=rj (show Whole ps from aw.gM) hm mR q;have af:mR q≤mR (aS ps m):=hs.countP_le;simp only[ic];omega
theorem xD{k b:Int}{r:aW×Int}(h:p0 ps m k b r)(hk:2≤k∧k≤4):(eH ⟨ps,rs,bs⟩ m r rs bs).2=true∧gD (eH ⟨ps,rs,bs⟩ m r rs bs).1∧ic (eH ⟨ps,rs,bs⟩ m r rs bs).1.ps≤ic ps+1:=by
 refine ⟨h.1,?_⟩;simp only[eH];by_cases e:r.2=0
 ·obtain ⟨x,U,_,ab⟩:=h.2 e;obtain ⟨af,aq⟩:=Dd aw hm ab (by omega);rw[if_pos e];exact ⟨af,by rw[aq];split <;>omega⟩
 ·rw[if_neg e];exact ⟨aw,by omega⟩
end
theorem Xv{α:Type}[Inhabited α]{l:List α}{i:Nat}(h:i<l.length):l.getD i default∈l:=by
 rw[zz0,zx0 h];exact zw7 h
theorem zO{w:ee}(aw:gD w)(x:fk):(dE w x).2=true∧gD (dE w x).1∧ic (dE w x).1.ps≤ic w.ps+1:=by
 obtain ⟨ps,rs,bs⟩:=w;have ar:=aw.gM;simp only at ar;have hmod:=iE x.je (m:=6) (by decide);have hm:bz x<6:=by simp only[bz];omega
 have hbm:=iE x.aC (m:=5) (by decide);have hb:c6 1 9999 (er x)=true:=iC.2 (by simp only[er];omega);have htm:=iE x.to (m:=6) (by decide);have ht:c6 0 5 (cH x.to 6)=true:=iC.2 (by omega);have same:((⟨ps,rs,bs⟩:ee),true).2=true∧gD ((⟨ps,rs,bs⟩:ee),true).1∧ic ((⟨ps,rs,bs⟩:ee),true).1.ps≤ic ps+1:=⟨rfl,aw,by simp⟩
 simp only[dE];split
 ·split
  ·exact same
  ·rename_i hnb;have h:=Ni ar hm hb;refine ⟨h.1,?_⟩;simp only[eH];by_cases e:(kp (aS ps (bz x)) (er x)).2=0
   ·obtain ⟨y,U,ab,af⟩:=h.2 e;obtain ⟨aq,h5⟩:=WB aw hm af U (by rw[ab];exact hnb);simp only[if_pos e];rw[ab] at aq;exact ⟨aq,by omega⟩
   ·simp only[if_neg e];exact ⟨aw,by omega⟩
 split
 ·split
  ·exact xD aw hm (Nj ar hm hb) ⟨by decide,by decide⟩
  ·exact same
 split
 ·exact xD aw hm (Nk ar hm hb ht) ⟨by decide,by decide⟩
 split
 ·split
  ·exact same
  ·obtain ⟨b,ah⟩:=Nf ar hm ((iX (aS ps (bz x))).1.getD (cH x.no (iX (aS ps (bz x))).1.length).toNat default).no;exact xD aw hm ah ⟨by decide,by decide⟩
 split
 ·obtain ⟨k,U,ab⟩:=Ng ar hm x.no;obtain ⟨af,aq⟩:=De aw hm ab;simp only[eH,U,if_true];exact ⟨rfl,af,by omega⟩
 split
 ·obtain ⟨k,U,ab,_⟩:=BZ ar hm;obtain ⟨af,aq⟩:=De aw hm ab;simp only[eH,U,if_true];refine ⟨rfl,⟨af.gM,af.oa,fun r hr =>?_⟩,by omega⟩;rcases zy4.1 hr with hr | hr
  ·exact af.rl r hr
  ·simp only[qU,List.mem_flatMap,zy9] at hr;obtain ⟨k',hk',hr⟩:=hr;split at hr
   ·cases hr
   ·rename_i hne;have hp:aS (ps.set (bz x) (h1 (aS ps (bz x))).1) (bz x)=(h1 (aS ps (bz x))).1:=by rw[sO (by rw[ar.len];exact hm),if_pos rfl]
    have:=BY af.gM hm (to:=k') (iC.2 (by omega)) hne;simp only[hp] at this;exact (this.2 r hr).1
 split
 ·exact same
 ·rename_i hne;have hl:0<rs.length:=List.length_pos_iff.2 hne;have hi:=iE x.no (m:=rs.length) (by omega);have hr:=Xv (l:=rs) (i:=(cH x.no rs.length).toNat) (by omega);generalize rs.getD (cH x.no rs.length).toNat default=r at *;have T:=aw.rl r hr;obtain ⟨_,_,ab,_⟩:=u3 T.ok;have hm2:r.to.toNat<6:=by omega
  obtain ⟨af,aq,_⟩:=Nh ar hm2 T (by omega);refine ⟨by simp only[eH];rcases af with af | af <;>rw[af] <;>rfl,?_⟩;simp only[eH];by_cases e:(iN (aS ps r.to.toNat) r).2=0
  ·rw[if_pos e];rcases aq e with ⟨h5,_⟩ | h5
   ·have:ps.set r.to.toNat (aS ps r.to.toNat)=ps:=by
     rw[←mZ (by rw[ar.len];exact hm2)];simp
    rw[h5,this];exact ⟨aw,by simp⟩
   ·have hk:(iO r).kind≠1:=by
     have:=(u3 T.ok).1;simp only[iO,pd]
     (repeat' split) <;>omega
    obtain ⟨h6,h7⟩:=Dd aw hm2 h5 hk;exact ⟨h6,by simp only[h7];split <;>omega⟩
  ·rw[if_neg e];exact ⟨aw,by simp⟩
end Go.Proofs.YthbdbocionnfgaaDoor
namespace Go.Proofs.YthbdbocionnfgaaDoor
open Go Go.Abs
open Go.Abs.Enc (enc)
def w5:aW:=⟨0,[],0⟩
def w6:aW:=⟨0,[⟨1,7,0,0⟩],0⟩
def w7:aW:=⟨0,[⟨1,7,0,0⟩],1⟩
def oW:aW:=⟨0,[⟨1,7,0,0⟩,⟨3,7,1,1⟩],1⟩
def oX:aW:=⟨0,[⟨1,7,0,0⟩,⟨3,7,1,1⟩],2⟩
def w8:aW:=⟨0,[⟨1,7,0,0⟩,⟨3,7,1,1⟩,⟨5,7,1,1⟩],2⟩
def w9:aW:=⟨1,[],0⟩
def rU:aW:=⟨1,[⟨7,7,0,1⟩],0⟩
def xa:aW:=⟨1,[⟨7,7,0,1⟩],1⟩
def qx:cL:=⟨1,0,1,7,1⟩
def qy:cL:=⟨2,1,0,7,1⟩
def xb:fo:=⟨⟨#[112,111,117,110,100,32,48,32,49,10,112,111,117,110,100,32,55,10,115,101,110,100,32,55,32,49,32,49,10]⟩⟩
theorem NR:mT 0=(w5,0):=by decide +kernel
theorem N1:mT 1=(w9,0):=by decide +kernel
theorem NT:kp w5 7=(w6,0):=by decide +kernel
theorem NU:h1 w6=(w7,0):=by decide +kernel
theorem NV:iY w7 7 1=(oW,⟨1,1,7,false⟩,0):=by decide +kernel
theorem NW:iG oW 1=([],0):=by decide +kernel
theorem NX:vi oW=(xb,0):=by decide +kernel
theorem NY:h1 oW=(oX,0):=by decide +kernel
theorem NZ:iG oX 1=([qx],0):=by decide +kernel
theorem N2:iN w9 qx=(rU,0):=by decide +kernel
theorem N6:oG [oX,rU] 7=([1],0):=by decide +kernel
theorem N3:h1 rU=(xa,0):=by decide +kernel
theorem N4:iG xa 0=([qy],0):=by decide +kernel
theorem N0:iN oX qy=(w8,0):=by decide +kernel
theorem NS:iX w8=([],0):=by decide +kernel
theorem Jt(a b c d:Int):(dY [.int .i64 0,.int .i64 0,.int .i64 0,.int .i64 0,.int .i64 0] [(0,.int .i64 a),(2,.int .i64 b),(3,.int .i64 c),(4,.int .i64 d)]).map I.agg=some (enc (⟨a,0,b,c,d⟩:cL)):=by simp[dY,I.bT,I.size];rfl
theorem Ju(a b c d:Int):(dY [.int .i64 0,.int .i64 0,.int .i64 0,.int .i64 0,.int .i64 0] [(0,.int .i64 a),(1,.int .i64 b),(3,.int .i64 c),(4,.int .i64 d)]).map I.agg=some (enc (⟨a,b,0,c,d⟩:cL)):=by simp[dY,I.bT,I.size];rfl
theorem Jx(r:cL):fV 5 (some [enc r])=some (enc [r]):=kO 5 r rfl
theorem JB(a b:aW):fV 3 (some [enc a,enc b])=some (enc [a,b]):=rJ (ys:=[a,b]) 3 rfl
theorem NM(s:fo)(b:ByteArray)(h:s.b=b):cC .eql (enc s) (.bR b)=some (.bool true):=by
 subst h
 show cC .eql (.bR s.b) (.bR s.b)=_
 simp[cC]
theorem HZ:bm Tryd.prog 6 [] (enc true):=by
 have U:=vS 0;have ab:=vS 1;have af:=zo w5 7;have aq:=tD w6;have h5:=vT w7 7 1;have h6:=tE oW 1;have h7:=Hu oW;have h8:=tD oW;have h9:=tE oX 1;have h10:=vU w9 qx;have h11:=zp [oX,rU] 7;have h12:=tD rU;have h13:=tE xa 0;have h14:=vU oX qy;have h15:=zD w8;rw[NR] at U;rw[N1] at ab;rw[NT] at af;rw[NU] at aq;rw[NV] at h5;rw[NW] at h6;rw[NX] at h7;rw[NY] at h8;rw[NZ] at h9;rw[N2] at h10;rw[N6] at h11;rw[N3] at h12;rw[N4] at h13;rw[N0] at h14;rw[NS] at h15;simp only at U ab af aq h5 h6 h7 h8 h9 h10 h11 h12 h13 h14 h15;have h16:=zq [qx] [qx];have h17:=zq [qy] [qy];have h18:=Hv [1] [1];rw[decide_eq_true rfl] at h16 h17 h18;refine bm.cg Tryd.func6 Kj Ld Mf (u8 rfl) (fun hwf W0 bO E1 =>?_);simp only[A2,FP,bQ];clear hwf;have q3:((0:Int)==0)=true:=rfl;have hst:∀ A n b rest x y z w (q:dI),da A (some 4) n [] b (enc q) rest (some (.agg [.int .i64 x,.int .i64 y,.int .i64 z,.bool w]))=aA rest (A.aV n (.box (enc q))):=fun A n b rest x y z w q=>oD.1 A n b rest q x y z w;have hst2:∀ A n b rest (q:cL) x y z w u,da A (some 5) n [] b (enc q) rest (some (.agg [.int .i64 x,.int .i64 y,.int .i64 z,.int .i64 w,.int .i64 u]))=aA rest (A.aV n (.box (enc q))):=fun A n b rest q x y z w u=>oC.1 A n b rest q x y z w u;have eO:(⟨1,0,1,7,1⟩:cL)=qx:=rfl;have eR:(⟨2,1,0,7,1⟩:cL)=qy:=rfl;have hR:=NL ⟨1,1,7,false⟩ ⟨1,1,7,false⟩;rw[decide_eq_true rfl] at hR;have hS:cC .eql (enc xb) (.bR ⟨#[112,111,117,110,100,32,48,32,49,10,112,111,117,110,100,32,55,10,115,101,110,100,32,55,32,49,32,49,10]⟩)=some (.bool true):=NM xb _ rfl;have hL:∀ α:Type,((([]:List α).length:Nat):Int)=0:=fun _=>rfl;have R:=y6 @q3 (y6 @hL (y6 @hst (y6 @hst2 (y6 @Jt (y6 @Ju (y6 @eO (y6 @eR (y6 @wm (y6 @Jx (y6 @JB (y6 @Ak (y6 @hR (y6 @hS (y6 @bE (y6 @bp (y6 @bJ (y6 @bw (y6 @br aK))))))))))))))))))
 repeat' ((first |(with_reducible refine .guard (fun hb =>?_) (fun hb =>?_) <;>try simp only[hb])|refine ae.aM (by decide +kernel) rfl fun K hK =>?_|refine .lead _ (U) ?_|refine .lead _ (ab) ?_|refine .lead _ (af) ?_|refine .lead _ (aq) ?_|refine .lead _ (h5) ?_|refine .lead _ (h6) ?_|refine .lead _ (h7) ?_|refine .lead _ (h8) ?_|refine .lead _ (h9) ?_|refine .lead _ (h10) ?_|refine .lead _ (h11) ?_|refine .lead _ (h12) ?_|refine .lead _ (h13) ?_|refine .lead _ (h14) ?_|refine .lead _ (h15) ?_|refine .flat _ (h16) rfl ?_|refine .flat _ (h17) rfl ?_|refine .flat _ (h18) rfl ?_|(refine .aD [0,1,2,3,4,5,6,7,8,9,10,11,12,13,14,15,16,17,18,19,20,21,22,23,24,25,26] hK ?_;clear hK K)|(with_reducible refine .done (hK _ ?_);clear hK K)|refine ae.of rfl ?_|(with_reducible refine aF.aL (fun h =>?_) (fun h =>?_) <;>try simp only[h])) <;>try simp only[aN,R,simprocAttr])
 all_goals clear R
instance:Enc fk where
 enc g:=.agg [.int .i64 g.kind,.int .i64 g.je,.int .i64 g.aC,.int .i64 g.to,.int .i64 g.no]
 sz:=5
 bd:=.eK [.one,.one,.one,.one,.one]
 im:=true
 done g:=by simp only[I.done,I.fK,Bool.and_self]
 size g:=by simp only[I.size,I.sizes]
 jq g:=by simp only[I.bd,I.cV]
 agg _:=rfl
def dO(v r b:I):I:=.agg [v,r,b]
instance:Enc ee where
 enc w:=dO (enc w.ps) (enc w.rs) (enc w.bs)
 sz:=3
 bd:=.eK [.one,.one,.one]
 im:=true
 done w:=by simp only[dO,I.done,I.fK,Enc.done,Bool.and_self]
 size w:=by simp only[dO,I.size,I.sizes,ue,rR]
 jq w:=by simp only[dO,I.bd,I.cV,fg,wW]
 agg _:=rfl
def eT(v:I):Prop:=v.bT=true∧b8 none v=true∧v.bd=.one∧v.size=1
theorem de{α:Type}[Enc α](l:List α):eT (enc l):=⟨eF _,by simp[rQ,rP],(fg l).trans wW,by rw[ue,rR]⟩
theorem gb(n:Nat)(p:List Nat)(z lo k:Nat):eT (.view n p z lo k):=⟨rfl,rfl,rfl,rfl⟩
theorem pq(n:Nat):eT (.nils n):=⟨rfl,rfl,rfl,rfl⟩
theorem u4(n k:Nat):eT (.own n k):=⟨rfl,rfl,rfl,rfl⟩
theorem Hc{v r b:I}(hv:eT v)(hr:eT r)(hb:eT b):(dO v r b).bd=.eK [.one,.one,.one]:=by simp only[dO,I.bd,I.cV,hv.2.2.1,hr.2.2.1,hb.2.2.1]
theorem Hb{v r b:I}(hv:eT v)(hr:eT r)(hb:eT b):b8 (some 3) (dO v r b)=true:=by simp[b8,dO,I.isAgg,I.size,I.sizes,hv.2.2.2,hr.2.2.2,hb.2.2.2]
theorem jF{v r b:I}(hv:eT v)(hr:eT r)(hb:eT b) :
  (dO v r b).dP=some [v,r,b]∧(dO v r b).bT=true∧b8 (some 3) (dO v r b)=true∧b8 none v=true∧b8 none r=true∧b8 none b=true ∧
  (∀ u,dR [v,r,b] 0 0 u=some u)∧(∀ u,dR [v,r,b] 1 1 u=some u)∧(∀ u,dR [v,r,b] 2 2 u=some u) :=
 ⟨rfl,rfl,Hb hv hr hb,hv.2.1,hr.2.1,hb.2.1,fun _=>mW (by simp) (by simp[I.sizes]),fun _=>mW (by simp) (by simp[I.sizes,hv.2.2.2]),fun _=>mW (by simp) (by simp[I.sizes,hv.2.2.2,hr.2.2.2])⟩
theorem aaA{v r b v2 j5 b2:I}(hv:eT v)(hr:eT r)(hb:eT b)(hv2:eT v2)(hr2:eT j5)(hb2:eT b2)(A:ai)(n:Nat)(c:I)(rest:List aw):da A (some 3) n [] c (dO v r b) rest (some (dO v2 j5 b2))=aA rest (A.aV n (.box (dO v r b))):=by
 rw[dS rfl (Hb hv hr hb) ((Hc hv hr hb).trans (Hc hv2 hr2 hb2).symm),ri]
theorem Ha{v r b u:I}(hv:eT v)(hu:eT u)(A:ai)(n:Nat)(rest:List aw):da A none n [0] (dO v r b) u rest (some v)=aA rest (A.aV n (.box (dO u r b))):=by
 rw[dS hu.1 hu.2.1 (hu.2.2.1.trans hv.2.2.1.symm)];rfl
theorem aaB{v r b u:I}(hv:eT r)(hu:eT u)(A:ai)(n:Nat)(rest:List aw):da A none n [1] (dO v r b) u rest (some r)=aA rest (A.aV n (.box (dO v u b))):=by
 rw[dS hu.1 hu.2.1 (hu.2.2.1.trans hv.2.2.1.symm)];rfl
theorem aaC{v r b u:I}(hv:eT b)(hu:eT u)(A:ai)(n:Nat)(rest:List aw):da A none n [2] (dO v r b) u rest (some b)=aA rest (A.aV n (.box (dO v r u))):=by
 rw[dS hu.1 hu.2.1 (hu.2.2.1.trans hv.2.2.1.symm)];rfl
theorem B5(w:ee):(enc w:I)=dO (enc w.ps) (enc w.rs) (enc w.bs):=rfl
theorem kL{v r b:I}(hv:eT v)(hr:eT r)(hb:eT b)(A:ai)(n:Nat)(c:I)(rest:List aw):da A (some 3) n [] c (dO v r b) rest (some (.agg [.nils 3,.nils 5,.nils 1]))=aA rest (A.aV n (.box (dO v r b))) :=
 aaA hv hr hb (pq 3) (pq 5) (pq 1) A n c rest
theorem uo{v r b:I}{A:ai}{ps:List aW}{rs:List cL}{bs:List Int}(U:bn true A v=some (enc ps))(ab:bn true A r=some (enc rs))(af:bn true A b=some (enc bs)):bn true A (dO v r b)=some (enc (⟨ps,rs,bs⟩:ee)):=by
 simp only[dO,bn,bX,U,ab,af];rfl
theorem eD:(∀ g:fk,(enc g).dP=some [.int .i64 g.kind,.int .i64 g.je,.int .i64 g.aC,.int .i64 g.to,.int .i64 g.no])∧(∀ g:fk,b8 (some 5) (enc g)=true)∧(∀ g:ee,b8 (some 3) (enc g)=true):=⟨fun _=>rfl,fun _=>by rw[fB];rfl,fun _=>by rw[fB];rfl⟩
def py:I:=.agg [.int .i64 0,.nils 4,.int .i64 0]
def gK(ps:List aW)(q:Nat):I:=.agg (ps.map enc++List.replicate q py)
theorem gf(ps:List aW)(q:Nat):(gK ps q).dP=some (ps.map enc++List.replicate q py):=rfl
theorem nt(p:Nat→Bool)(ps:List aW)(q:Nat):(gK ps q).only p=true:=by
 simp only[gK,I.only,j0,eN,Bool.true_and]
 induction q with
 |zero=>rfl
 |succ q ih=>simp only[List.replicate_succ,I.b6,ih,Bool.and_true];rfl
theorem lC{ps:List aW}{q i:Nat}(h:i<ps.length):nN i [] (some (ps.map enc++List.replicate q py))=some (enc (aS ps i)):=by
 simp only[nN,zy6 (show i<(ps.map (enc (α:=aW))).length by simpa using h),zx4,zx0 h,zy2,qg,I.at,mZ h]
theorem nB{ps:List aW}{q i:Nat}(h:i<ps.length)(A:ai)(n:Nat)(v u:aW)(rest:List aw):da A (some 3) n [i] (gK ps q) (enc v) rest (some (enc u))=aA rest (A.aV n (.box (gK (ps.set i v) q))):=by
 rw[dS (eF v) (by rw[fB];rfl) ((fg v).trans (fg u).symm)];have ab:(ps.map (enc (α:=aW))++List.replicate q py)[i]?=some (enc ps[i]):=by
  rw[zy6 (by simpa using h)];simp[h]
 simp only[gK,I.eA,ab,List.map_set];rw[List.set_append_left _ _ (by simpa using h)]
theorem lP{n k i:Nat}(h:i<k)(fs:List I):mP n [] 3 0 k 3 (i:Int) (some fs)=some (.ptr n [i]):=by
 have:=Dw (m:=n) (sz:=3) (lo:=0) (l:=k) (i:=i) (fs:=fs) h
 rwa [zz1] at this
theorem Og{ps:List aW}{q k:Nat}(h:k=ps.length):jT 3 0 k (some (ps.map enc++List.replicate q py))=some (enc ps):=by
 subst h;have ab:((ps.map (enc (α:=aW))++List.replicate q py).drop 0).take ps.length=ps.map enc:=by
  rw[List.drop_zero,List.take_append_of_le_length (by simp),List.take_of_length_le (by simp)]
 simp only[jT,ab,iJ,if_true,iy];rfl
theorem xl{ps:List aW}{q k n:Nat}(h:k=ps.length){A:ai}(hA:A.o n=some (.box (gK ps q))):bn true A (.view n [] 3 0 k)=some (enc ps):=by
 rw[um,hA];exact Og h
theorem aaq(n:Int){m:Int}(hm:0<m):-m<n.tmod m∧n.tmod m<m:=⟨Int.lt_tmod_of_pos n hm,Int.tmod_lt_of_pos n hm⟩
theorem jG(n m:Int)(U:0<m)(ab:m≤1000000000000):bm Tryd.prog 26 [enc n,enc m] (enc (cH n m)):=by
 refine bm.cg Tryd.func26 JR KL LL (u8 rfl) (fun hwf W0 bO E1 =>?_);simp only[AA,Fl,bQ,zz1];clear hwf;have hm:=aaq n U;have aZ:∀ x:Option I,(if m=0 then none else x)=x:=fun x=>if_neg (by omega);have hw:IntKind.i64.wrap (n.tmod m+m)=n.tmod m+m:=jv _ (by omega) (by omega);have R:=y6 @aZ (y6 @hw aK)
 repeat' ((first |(with_reducible refine .guard (fun hb =>?_) (fun hb =>?_) <;>try simp only[hb])|refine ae.aM (by decide +kernel) rfl fun K hK =>?_|(refine .aD [0,1,4] hK ?_;clear hK K)|(with_reducible refine .done (hK _ ?_);clear hK K)|refine ae.of rfl ?_|(with_reducible refine aF.aL (fun h =>?_) (fun h =>?_) <;>try simp only[h])) <;>try simp only[aN,R,simprocAttr])
 all_goals clear R
 all_goals rfl
theorem WZ(e:Int):sj e=(e==0||(e==2||(e==92||(e==93||(e==94||e==90))))):=rfl
theorem nF(e:Int):bm Tryd.prog 31 [enc e] (enc (sj e)):=by
 refine bm.cg Tryd.func31 JX KR LR (u8 rfl) (fun hwf W0 bO E1 =>?_);simp only[AG,Fs,bQ];clear hwf;rw[WZ];rcases U:(e==0) <;>rcases ab:(e==2) <;>rcases af:(e==92) <;>rcases aq:(e==93) <;>rcases h5:(e==94)
 all_goals
  have R:=y6 @U (y6 @ab (y6 @af (y6 @aq (y6 @h5 aK))))
  repeat' ((first |(with_reducible refine .guard (fun hb =>?_) (fun hb =>?_) <;>try simp only[hb])|refine ae.aM (by decide +kernel) rfl fun K hK =>?_|(refine .aD [0,2] hK ?_;clear hK K)|(with_reducible refine .done (hK _ ?_);clear hK K)|refine ae.of rfl ?_|(with_reducible refine aF.aL (fun h =>?_) (fun h =>?_) <;>try simp only[h])) <;>try simp only[aN,R,simprocAttr])
  all_goals clear R
theorem Hy(l:List Int)(n:Int):bm Tryd.prog 27 [enc l,enc n] (enc (decide (n∈l))):=by
 refine bm.cg Tryd.func27 JS KM LM (u8 rfl) (fun hwf W0 bO E1 =>?_);simp only[AB,Fm,bQ,zz1];have hlen:l.length≤maxLen:=((pY l).1 hwf.1).1;simp only[maxLen] at hlen;clear hwf;have R:=y6 @bp aK
 repeat' ((first |(with_reducible refine .guard (fun hb =>?_) (fun hb =>?_) <;>try simp only[hb])|refine ae.aM (by decide +kernel) rfl fun K hK =>?_|(refine .aD [0,1,4,6,7,8,9,10,15] hK ?_;clear hK K)|(with_reducible refine .done (hK _ ?_);clear hK K)|refine ae.of rfl ?_|(with_reducible refine aF.aL (fun h =>?_) (fun h =>?_) <;>try simp only[h])) <;>try simp only[aN,R,simprocAttr])
 all_goals clear R
 refine ae.loop (fun i:Nat=>au [(1,.int .i64 n),(7,enc l),(8,.int .i64 l.length),(9,.int .i64 i)] []) (fun i=>i≤l.length∧n∉l.take i) (fun i=>l.length-i) 0 ⟨zw4 _,by simp⟩ ?_ (fun i hi =>?_)
 ·refine bt.c8 ?_ ?_ ?_ ?_ <;>simp[cn,cY,cu,cB,cw,I.only,cv]
 obtain ⟨hi1,hi2⟩:=hi;by_cases hlt:i<l.length
 ·have hc:=h0 hlt;have he:=fun A=>fT (A:=A) 1 hlt rfl;have hw:=gl (i:=i) (by omega);rcases hp:(l[i]==n)
  ·have R:=y6 @hc (y6 @he (y6 @hp (y6 @hw aK)))
   repeat' ((first |(with_reducible refine .guard (fun hb =>?_) (fun hb =>?_) <;>try simp only[hb])|refine ae.aM (by decide +kernel) rfl fun K hK =>?_|(refine .aD [0,1,4,6,7,8,9,10,15] hK ?_;clear hK K)|(with_reducible refine .done (hK _ ?_);clear hK K)|refine ae.of rfl ?_|(with_reducible refine aF.aL (fun h =>?_) (fun h =>?_) <;>try simp only[h])) <;>try simp only[aN,R,simprocAttr])
   all_goals clear R
   refine ⟨i+1,⟨by omega,?_⟩,by omega,?_⟩
   ·rw[zy0 hlt];have:¬ l[i]=n:=by simpa using hp
    simp only[zy4,zy1];exact fun h=>h.elim hi2 fun e=>this e.symm
   ·refine bt.c8 ?_ ?_ ?_ ?_ <;>simp[cn,cY,cu,cB,cw,I.only,cv]
  ·have hm:n∈l:=by
    have:l[i]=n:=by simpa using hp
    rw[←this];exact zw7 hlt
   have R:=y6 @hc (y6 @he (y6 @hp aK))
   repeat' ((first |(with_reducible refine .guard (fun hb =>?_) (fun hb =>?_) <;>try simp only[hb])|refine ae.aM (by decide +kernel) rfl fun K hK =>?_|(refine .aD [0,1,4,6,7,8,9,10,15] hK ?_;clear hK K)|(with_reducible refine .done (hK _ ?_);clear hK K)|refine ae.of rfl ?_|(with_reducible refine aF.aL (fun h =>?_) (fun h =>?_) <;>try simp only[h])) <;>try simp only[aN,R,simprocAttr])
   all_goals clear R
   simp[hm]
 ·have hc:=hE hlt;have hge:i=l.length:=by omega
  have R:=y6 @hc aK
  repeat' ((first |(with_reducible refine .guard (fun hb =>?_) (fun hb =>?_) <;>try simp only[hb])|refine ae.aM (by decide +kernel) rfl fun K hK =>?_|(refine .aD [0,1,4,6,7,8,9,10,15] hK ?_;clear hK K)|(with_reducible refine .done (hK _ ?_);clear hK K)|refine ae.of rfl ?_|(with_reducible refine aF.aL (fun h =>?_) (fun h =>?_) <;>try simp only[h])) <;>try simp only[aN,R,simprocAttr])
  all_goals clear R
  rw[hge,List.take_length] at hi2;simp[hi2]
end Go.Proofs.YthbdbocionnfgaaDoor
namespace Go.Abs
open Go Go.RowKit Go.ChangeShapes
open Enc (enc)
theorem W6{P:Program}{f:FuncId}{fn:Func}{s:ChangeSpec}{H:Type}{enc0:TypeId×Value→H}{W:World}{ds gs:List (DataW H)}{before:List MemPlace}{xs:List I}{tb:TypeId}{v0:Value}{t0:TypeId}{d0:DataW H}{fL:List MemPlace}{again handsOn kT:Bool}
  (hl:laidOutB P=true) (hpar:fn.params.toList=[t0]) (hds:ds=[d0]) (hgs:gs=[]) (hbef:before=fL)
  (hvars:s.vars=[]) (hfn:s.fn H [d0] = { results:=[.lit (.bool true)],args:=[d0] }) (hres:fn.resultTypes = #[tb]) (htb:P.underlying tb=some .bool)
  (hW:DataW.Whole enc0 P fn.params.toList s.vars false W #[v0].toList ds gs before)
  (aZ:DataW.Trod enc0 P W 0 (fun _=>true) true t0 v0 d0 fL)
  (hr:∀ t∈[t0],P.readableRec t=true∧t<P.types.size)
  (hctr:bm P f xs (enc true)) (hlaid:h2 P W (fun _=>False)) (hv:aG W (nM W) dn xs [v0]) :
  Calls P f #[v0] W fun e W'=>∃ v,e=.returned v∧s.post enc0 P fn false kT handsOn again W #[v0] v W':=by
 subst hds hgs;refine (hctr.2 W (nM W) [v0] hlaid (fun _ _ h=>h) hv).mono fun e W' ⟨v,D',he,hrv,hb,_,_⟩=>⟨v,he,?_⟩
 have hvb:v=.bool true:=lg hrv;subst hvb;have hlt:∀ x∈before,x.block<W.heap.size:=fun x hx=>by simpa using hW.lt x hx
 rw[hbef] at hlt;refine YR (pa:=fL++[]) (pv:=[]) hW (fun _ _ _ =>?_) (fun sp hsp =>?_) (fun _ _ =>?_) (by rw[hbef];simp) hb ?_
 ·simp only[zy3,hfn,hres];exact trodAll_mk1 (shut_bool htb true)
 ·simp only[zy3,hfn,hpar];rw[hbef] at hsp;have bl:∀ {t:TypeId} {v:Value} {d:DataW H} {p:List MemPlace},t∈[t0]→DataW.Trod enc0 P W 0 (fun _=>true) true t v d p→(∀ x∈p,x∈fL)→DataW.Trod enc0 P W' 0 sp true t v d p:=fun ht h hp =>
   WideElems.Trod_stays hl (hr _ ht).1 (hr _ ht).2 h (fun x hx=>hb.same (hlt x (hp x hx))) (fun x hx=>hsp x (hp x hx))
  exact trodAll_mk1 (bl (by simp) aZ fun x hx=>by simp[hx])
 ·simp only[zy3,hfn,hvars];rfl
 ·intro j t r hj hv';rw[hres] at hj hv'
  match j,hj,hv' with
  |0,hj,hv' =>
   simp[Value.resultList] at hj hv';subst hj;subst hv';simp[Value.okWide,htb,Cell.okWide,Cell.ok]
end Go.Abs
namespace Go.Proofs.YthbdbocionnfgaaDoor
open Go Go.Abs Go.ChangeShapes Go.WideShapes Go.RowKit
open Go.Abs.Enc (enc)
theorem Tryd.own:ownKnob Tryd.prog.godebug=none:=by kernel_rfl
theorem Tryd.W4:laidOutB Tryd.prog=true:=by kernel_rfl
theorem sH:mw Tryd.prog 3 Int:=YC (by kernel_rfl) (by kernel_rfl)
theorem XM:mw Tryd.prog 43 fk:=⟨by kernel_rfl,by decide,fun h=>by
 obtain ⟨vs,hv,hr⟩:=YE [(3,0),(3,1),(3,2),(3,3),(3,4)]
  [(1,fun v=>∃ a:Int,v=enc a),(1,fun v=>∃ a:Int,v=enc a),(1,fun v=>∃ a:Int,v=enc a),(1,fun v=>∃ a:Int,v=enc a),(1,fun v=>∃ a:Int,v=enc a)]
  (by kernel_rfl) (by simp only[sI];exact ⟨trivial,sH.bj,trivial,sH.bj,trivial,sH.bj,trivial,sH.bj,trivial,sH.bj,trivial⟩) (by kernel_rfl) h
 obtain ⟨v0,vs0,e0,aZ,hv0⟩:=rD hv;obtain ⟨a0,f0⟩:∃ a:Int,v0=enc a:=aZ;obtain ⟨v1,vs1,e1,U,hv1⟩:=rD hv0;obtain ⟨a1,f1⟩:∃ a:Int,v1=enc a:=U;obtain ⟨v2,vs2,e2,ab,hv2⟩:=rD hv1;obtain ⟨a2,f2⟩:∃ a:Int,v2=enc a:=ab;obtain ⟨v3,vs3,e3,af,hv3⟩:=rD hv2;obtain ⟨a3,f3⟩:∃ a:Int,v3=enc a:=af;obtain ⟨v4,vs4,e4,aq,hv4⟩:=rD hv3;obtain ⟨a4,f4⟩:∃ a:Int,v4=enc a:=aq;have e5:=IE hv4;rw[e0,e1,e2,e3,e4,e5,f0,f1,f2,f3,f4] at hr;exact ⟨⟨a0,a1,a2,a3,a4⟩,hr⟩⟩
theorem XN:mw Tryd.prog 22 (List fk):=YD (by kernel_rfl) XM (by kernel_rfl)
theorem ZI{w:World}{D:aU}{E:bf}{x:I}{a:Value}(hx:∃ cs,bG x a cs∧al w D E x cs):aG w D E [x] [a]:=by
 obtain ⟨c1,U,ab⟩:=hx;simp only[aG];exact ⟨a,[],c1,rfl,U,ab,rfl⟩
def qG : List (String × DataW Unit) := [("math/bits.deBruijn32tab", Rows.laid_math_bits_deBruijn32tab), ("math/bits.deBruijn64tab", Rows.laid_math_bits_deBruijn64tab), ("internal/strconv.uint64pow10", Rows.laid_internal_strconv_uint64pow10)]
def Hj:List Int:=[1,10,100,1000,10000,100000,1000000,10000000,100000000,1000000000,10000000000,100000000000,1000000000000,10000000000000,100000000000000,1000000000000000,10000000000000000,100000000000000000,1000000000000000000,10000000000000000000]
theorem VH : Tryd.prog.globalNamed "internal/strconv.uint64pow10" = some 0 := by kernel_rfl
theorem aal:(Tryd.prog.globals[0]?).map (·.type)=some 151:=by kernel_rfl
theorem Yt{W:World}(h:laidMetH Tryd.prog qG W):h2 Tryd.prog W (fun _=>False):=by
 rw[MakeChecks.laidMetH_plain _ _ _ (by kernel_rfl)] at h;obtain ⟨g', t', cs, fuel, p, hg', ht', hvar, ah⟩ := Lib.laidMet.reads h (n := "internal/strconv.uint64pow10") (d := Rows.laid_internal_strconv_uint64pow10) (by simp [qG])
 obtain rfl:=Option.some.inj (VH.symm.trans hg');obtain rfl:=Option.some.inj (aal.symm.trans ht');have hd':DataW.trod (fun _=>()) Tryd.prog W 0 (fun _=>true) false fuel 151 cs.toList=some (Lib.tabData .u64 Hj,p):=ah;have hc:=Lib.cells_of_tab (n:=20) (e:=133) (WK (by kernel_rfl)) (by kernel_rfl) (by kernel_rfl) (by kernel_rfl) hd';intro g hg;refine ⟨id,?_⟩
 show W.var? Tryd.prog "internal/strconv.uint64pow10" = _
 rw[hvar];have:cs=(Hj.map fun z=>Value.int .u64 z).toArray:=by rw[←hc]
 rw[this];rfl
end Go.Proofs.YthbdbocionnfgaaDoor
namespace Go.Proofs.YthbdbocionnfgaaDoor
open Go Go.Abs
open Go.Abs.Enc (enc)
theorem aar(l:List aI)(b:Int):(l.filter fun x => !(x.aC != b))=l.filter fun x=>x.aC==b:=by
 congr 1;funext x;simp[bne]
def mi(p:aW)(b:Int):List aI×Int:=match cK p with
 |none=>([],91)
 |some _=>if c6 1 9999 b=true then (p.j.filter fun x=>x.aC==b,0) else ([],1)
theorem Hx(p:aW)(b:Int):bm Tryd.prog 23 [enc p,enc b] (.tuple [enc (mi p b).1,enc (mi p b).2]):=by
 refine bm.cg Tryd.func23 JP KJ LJ (u8 rfl) (fun hwf W0 bO E1 =>?_);simp only[Ay,Fj,bQ,zz1];clear hwf;have hF1:=rz p;have hB:=oI b;have hv:∀ k n,(I.int k n).bT=true:=fun _ _=>rfl;simp only[oU] at hF1;cases ho:cK p with
 |none =>
  rw[ho] at hF1;rw[show mi p b=([],91) by simp only[mi,ho]];have R:=y6 @hv (y6 @bE (y6 @bp aK))
  repeat' ((first |(with_reducible refine .guard (fun hb =>?_) (fun hb =>?_) <;>try simp only[hb])|refine ae.aM (by decide +kernel) rfl fun K hK =>?_|refine .flat _ (hF1) rfl ?_|(refine .aD [0,1,2,3,4,5,6,10,14] hK ?_;clear hK K)|(with_reducible refine .done (hK _ ?_);clear hK K)|refine ae.of rfl ?_|(with_reducible refine aF.aL (fun h =>?_) (fun h =>?_) <;>try simp only[h])) <;>try simp only[aN,R,simprocAttr])
  all_goals clear R
  all_goals rfl
 |some s =>
 rw[ho] at hF1
 dsimp only at hF1
 rcases q1:c6 1 9999 b
 ·rw[q1] at hB;rw[show mi p b=([],1) by simp only[mi,ho,q1];rfl];have R:=y6 @hv (y6 @bE (y6 @bp aK))
  repeat' ((first |(with_reducible refine .guard (fun hb =>?_) (fun hb =>?_) <;>try simp only[hb])|refine ae.aM (by decide +kernel) rfl fun K hK =>?_|refine .flat _ (hF1) rfl ?_|refine .flat _ (hB) rfl ?_|(refine .aD [0,1,2,3,4,5,6,10,14] hK ?_;clear hK K)|(with_reducible refine .done (hK _ ?_);clear hK K)|refine ae.of rfl ?_|(with_reducible refine aF.aL (fun h =>?_) (fun h =>?_) <;>try simp only[h])) <;>try simp only[aN,R,simprocAttr])
  all_goals clear R
  all_goals rfl
 rw[q1] at hB;rw[show mi p b=(p.j.filter fun x=>x.aC==b,0) by simp only[mi,ho,q1];rfl];have hl:=(fF ho).2.2.2.1;have hall:([I.ptr 3 []].all fun y=>y.bT)=true:=rfl;have hfe:∀ A,bX false A [enc p.j]=some [enc p.j]:=fun A=>by simp only[bX,mH]
 have ah:I.fK [.ref (enc b)]=true:=by simp[I.fK,I.done,kl]
 have R:=y6 @hall (y6 @hv (y6 @bE (y6 @bp aK)))
 repeat' ((first |(with_reducible refine .guard (fun hb =>?_) (fun hb =>?_) <;>try simp only[hb])|refine ae.aM (by decide +kernel) rfl fun K hK =>?_|refine .flat _ (hF1) rfl ?_|refine .flat _ (hB) rfl ?_|refine aT.BL (by omega) rfl (hfe _) rfl (fun v os' hcj =>?_)|(refine .aD [0,1,2,3,4,5,6,10,14] hK ?_;clear hK K)|(with_reducible refine .done (hK _ ?_);clear hK K)|refine ae.of rfl ?_|(with_reducible refine aF.aL (fun h =>?_) (fun h =>?_) <;>try simp only[h])) <;>try simp only[aN,R,zz2,simprocAttr])
 all_goals clear R
 have hF3:bm Tryd.prog 48 [enc ([]:List aI),.func 50 [.ref (enc b)]] (enc ([]:List aI)):=HO [.ref (enc b)] ah;rcases hcj with ⟨hz,hv2,rfl⟩ | ⟨hne,m,rfl,rfl⟩
 ·rw[hz];have hfin:∀ aJ A,bn aJ A (.nils 4)=some (enc ([]:List aI))∧bn aJ A (.c0 4)=some (enc ([]:List aI)):=fun aJ A=>⟨by simp only[bn];rfl,by simp only[bn];rfl⟩
  rcases hv2 with rfl | rfl
  ·have R:=y6 @hall (y6 @hv (y6 @bE (y6 @bp aK)))
   repeat' ((first |(with_reducible refine .guard (fun hb =>?_) (fun hb =>?_) <;>try simp only[hb])|refine ae.aM (by decide +kernel) rfl fun K hK =>?_|(refine .aD [0,1,2,3,4,5,6,10,14] hK ?_;clear hK K)|(with_reducible refine .done (hK _ ?_);clear hK K)|refine ae.of rfl ?_|(with_reducible refine aF.aL (fun h =>?_) (fun h =>?_) <;>try simp only[h])) <;>try simp only[aN,R,zz2,zx3,simprocAttr])
   all_goals clear R
   refine .jz [3] (enc ([]:List aI)) rfl hF3 ?_ ?_ ?_
   ·try simp only[lQ,zw0,List.filter_nil,List.contains_cons,Nat.reduceBEq,Bool.true_or,BEq.rfl,hfin,bK,simprocAttr]
   ·simp[ef,cB,ao.only,cv]
   ·try simp only[kS,ef,zw0,List.filter_nil,List.contains_cons,Nat.reduceBEq,Bool.true_or,BEq.rfl,zz4,zx6,bK,simprocAttr]
    have R:=y6 @hv (y6 @bE (y6 @bp aK))
    repeat' ((first |(with_reducible refine .guard (fun hb =>?_) (fun hb =>?_) <;>try simp only[hb])|refine ae.aM (by decide +kernel) rfl fun K hK =>?_|(refine .aD [0,1,2,3,4,5,6,10,14] hK ?_;clear hK K)|(with_reducible refine .done (hK _ ?_);clear hK K)|refine ae.of rfl ?_|(with_reducible refine aF.aL (fun h =>?_) (fun h =>?_) <;>try simp only[h])) <;>try simp only[aN,R,simprocAttr])
    all_goals clear R
    rw[hz];rfl
  ·have R:=y6 @hall (y6 @hv (y6 @bE (y6 @bp aK)))
   repeat' ((first |(with_reducible refine .guard (fun hb =>?_) (fun hb =>?_) <;>try simp only[hb])|refine ae.aM (by decide +kernel) rfl fun K hK =>?_|(refine .aD [0,1,2,3,4,5,6,10,14] hK ?_;clear hK K)|(with_reducible refine .done (hK _ ?_);clear hK K)|refine ae.of rfl ?_|(with_reducible refine aF.aL (fun h =>?_) (fun h =>?_) <;>try simp only[h])) <;>try simp only[aN,R,zz2,zx3,simprocAttr])
   all_goals clear R
   refine .jz [3] (enc ([]:List aI)) rfl hF3 ?_ ?_ ?_
   ·try simp only[lQ,zw0,List.filter_nil,List.contains_cons,Nat.reduceBEq,Bool.true_or,BEq.rfl,hfin,bK,simprocAttr]
   ·simp[ef,cB,ao.only,cv]
   ·try simp only[kS,ef,zw0,List.filter_nil,List.contains_cons,Nat.reduceBEq,Bool.true_or,BEq.rfl,zz4,zx6,bK,simprocAttr]
    have R:=y6 @hv (y6 @bE (y6 @bp aK))
    repeat' ((first |(with_reducible refine .guard (fun hb =>?_) (fun hb =>?_) <;>try simp only[hb])|refine ae.aM (by decide +kernel) rfl fun K hK =>?_|(refine .aD [0,1,2,3,4,5,6,10,14] hK ?_;clear hK K)|(with_reducible refine .done (hK _ ?_);clear hK K)|refine ae.of rfl ?_|(with_reducible refine aF.aL (fun h =>?_) (fun h =>?_) <;>try simp only[h])) <;>try simp only[aN,R,simprocAttr])
    all_goals clear R
    rw[hz];rfl
 ·have R:=y6 @hall (y6 @hv (y6 @bE (y6 @bp aK)))
  repeat' ((first |(with_reducible refine .guard (fun hb =>?_) (fun hb =>?_) <;>try simp only[hb])|refine ae.aM (by decide +kernel) rfl fun K hK =>?_|(refine .aD [0,1,2,3,4,5,6,10,14] hK ?_;clear hK K)|(with_reducible refine .done (hK _ ?_);clear hK K)|refine ae.of rfl ?_|(with_reducible refine aF.aL (fun h =>?_) (fun h =>?_) <;>try simp only[h])) <;>try simp only[aN,R,zz2,zx3,simprocAttr])
  all_goals clear R
  have hne2:0<(p.j++List.replicate m ft).length:=by
   have:=List.length_pos_iff.2 hne;rw[zz6];omega
  refine .bP true [(1000000,7)] (ka 1000000 (p.j++List.replicate m ft)) [.view 1000000 [] 4 0 p.j.length,.func 50 [.ref (enc b)]] (BX p.j (fun x=>x.aC != b) (p.j++List.replicate m ft).length) rfl
   (HN p.j (List.replicate m ft) hl hne2 [.ref (enc b)] ah (fun x=>x.aC != b) (fun x _=>HR x b)) ⟨?_,?_⟩ ⟨.inl ⟨?_,?_,rfl⟩,.inr ?_,trivial⟩ ?_ ?_
  ·intro n x h;simp only[ka,aj] at h;split at h
   ·rename_i hn';subst hn';simp only[v6] at h;subst h;exact ⟨by simp only[pI,yL,pE,bK,simprocAttr],uO _ _,rfl⟩
   ·cases h
  ·intro a b ha hb _;rw[hU.1 ha,hU.1 hb]
  ·try simp only[yL,simprocAttr]
  ·exact hU.2 rfl
  ·try simp only[iQ,ka,pI,bx,ef,zw0,List.filter_nil,zz4,zx6,List.contains_cons,List.contains_nil,Nat.reduceBEq,Bool.or_false,BEq.rfl,bK,simprocAttr]
  ·rintro x os' ⟨us,rfl,rfl,u1,u2⟩;exact gm.one (fun p=>uO p _) (fun _=>by simp only[I.dJ];exact Xa us) (hU.2 rfl) (fun _=>rfl)
  ·rintro x os' ⟨us,rfl,rfl,u1,u2⟩
   try simp only[ka,pI,yL,pE,zz2,zx3,bK,simprocAttr]
   have u1':us.take (p.j.filter fun x => !(x.aC != b)).length=p.j.filter fun x => !(x.aC != b):=u1;have hfv:jT 4 0 (p.j.filter fun x => !(x.aC != b)).length (some (us.map enc))=some (enc (p.j.filter fun x=>x.aC==b)):=by
    rw[rX (α:=aI) (sz:=4) rfl,u1',aar]
   have R:=y6 @hfv (y6 @bE (y6 @bp aK))
   repeat' ((first |(with_reducible refine .guard (fun hb =>?_) (fun hb =>?_) <;>try simp only[hb])|refine ae.aM (by decide +kernel) rfl fun K hK =>?_|(refine .aD [0,1,2,3,4,5,6,10,14] hK ?_;clear hK K)|(with_reducible refine .done (hK _ ?_);clear hK K)|refine ae.of rfl ?_|(with_reducible refine aF.aL (fun h =>?_) (fun h =>?_) <;>try simp only[h])) <;>try simp only[aN,R,simprocAttr])
   all_goals clear R
def gp(i:Nat):List aW:=(List.range i).map fun k:Nat=>⟨(k:Int),[],0⟩
def eZ:ee:=⟨gp 6,[],[]⟩
theorem I6(i:Nat):gp (i+1)=gp i++[⟨(i:Int),[],0⟩]:=by simp[gp,List.range_succ]
theorem oR(i:Nat):(gp i).length=i:=by simp[gp]
def vY(i:Nat):ai:=au [(0,.ptr 0 []),(1,.bool false),(2,.ptr 2 []),(3,.int .i64 i)] [(905,.bU 36 3 ((gp i).map enc)),(2,.box (dO (.own 905 i) (.nils 5) (.nils 1))),(0,.box (.agg [.nils 3,.nils 5,.nils 1]))]
theorem Oa{xs:List aW}{k:Nat}(h:k=xs.length):jS k (some (.bU 36 3 (xs.map enc)))=some (enc xs):=by subst h;exact oY 3 rfl rfl
theorem ml(p:Nat→Bool)(v r b:I):(dO v r b).only p=(v.only p&&(r.only p&&b.only p)):=by simp[dO,I.only,I.b6]
theorem Hk:bm Tryd.prog 10 [] (.tuple [enc eZ,.bool true]):=by
 refine bm.cg Tryd.func10 JD Kx Lw (u8 rfl) (fun hwf W0 bO E1 =>?_);simp only[Al,E6,bQ];clear hwf;have R:=aK
 repeat' ((first |(with_reducible refine .guard (fun hb =>?_) (fun hb =>?_) <;>try simp only[hb])|refine ae.aM (by decide +kernel) rfl fun K hK =>?_|(refine .aD [0,1,2,3,4,5,7,16] hK ?_;clear hK K)|(with_reducible refine .done (hK _ ?_);clear hK K)|refine ae.of rfl ?_|(with_reducible refine aF.aL (fun h =>?_) (fun h =>?_) <;>try simp only[h])) <;>try simp only[aN,R,simprocAttr])
 all_goals clear R
 refine ae.loop vY (fun i=>i≤6) (fun i=>6-i) 0 (by omega) ?_ (fun i hi =>?_)
 ·refine bt.zP 2 905 36 3 3 [0] _ rfl rfl rfl ?_;simp only[vY];refine bt.c8 ?_ ?_ ?_ ?_ <;>simp[cn,cY,cu,cB,av,cw,cW,I.only,I.b6,ao.only,eN]
  all_goals first | rfl | exact ⟨rfl,rfl⟩
 simp only[vY];have hT:=jF (u4 905 i) (pq 5) (pq 1);by_cases hlt:i<6
 ·have hc:decide ((i:Int)<6)=true:=by simp;omega
  have hw:=gl (i:=i) (by omega);have hN:=vS (i:Int);rw[show mT (i:Int)=(⟨(i:Int),[],0⟩,0) by simp only[mT];rw[if_pos (iC.2 (by omega))]] at hN;simp only at hN;obtain ⟨r,hr⟩:∃ r:aW,r=⟨(i:Int),[],0⟩:=⟨_,rfl⟩
  rw[←hr] at hN;have hbs:fV 3 (some [enc r])=some (enc [r]):=kO 3 _ rfl;have hap:=fun (A:ai) d rest=>qf (A:=A) (d:=d) 36 3 40 905 (l:=i) (es:=gp i) (ys:=[r]) (rest:=rest) (oR i).symm rfl (by simp) (by simp[maxLen,oR];omega) (by simp[oR];omega);have hl1:(gp i++[r]).length=i+1:=by simp[oR]
  simp only[hl1] at hap;have hs0:=Ha (r:=.nils 5) (b:=.nils 1) (u4 905 i) (u4 905 (i+1));have hn:∀ a:Int,(a != a)=false:=fun a=>by simp
  have R:=y6 @hc (y6 @hw (y6 @hT (y6 @hbs (y6 @hap (y6 @hs0 (y6 @hn (y6 @bE (y6 @bp aK))))))))
  repeat' ((first |(with_reducible refine .guard (fun hb =>?_) (fun hb =>?_) <;>try simp only[hb])|refine ae.aM (by decide +kernel) rfl fun K hK =>?_|refine .lead _ (hN) ?_|(refine .aD [0,1,2,3,4,5,7,16] hK ?_;clear hK K)|(with_reducible refine .done (hK _ ?_);clear hK K)|refine ae.of rfl ?_|(with_reducible refine aF.aL (fun h =>?_) (fun h =>?_) <;>try simp only[h])) <;>try simp only[aN,R,simprocAttr])
  all_goals clear R
  refine ⟨i+1,by omega,by omega,?_⟩;rw[I6,←hr];clear hr hN hap hbs hs0;refine bt.c8 ?_ ?_ ?_ ?_ <;>simp[*,cn,cY,cu,cB,av,cw,cW,I.only,I.b6,ao.only,eN,j0,cv,ml]
 ·have he:i=6:=by omega
  have hc:decide ((i:Int)<6)=false:=by simp;omega
  have hs:=kL (v:=.own 905 i) (r:=.nils 5) (b:=.nils 1) (u4 905 i) (pq 5) (pq 1);have hf:∀ ts os,aj os 905=some (.bU 36 3 ((gp i).map enc))→bn true (au ts os) (dO (.own 905 i) (.nils 5) (.nils 1))=some (enc eZ):=fun ts os h=>by
   refine uo ?_ (by simp only[bn];rfl) (by simp only[bn];rfl);rw[Cq]
   show jS i (aj os 905)=_
   rw[h,Oa (oR i).symm,he]
  have R:=y6 @hc (y6 @hT (y6 @hs (y6 @hf (y6 @bp aK))))
  repeat' ((first |(with_reducible refine .guard (fun hb =>?_) (fun hb =>?_) <;>try simp only[hb])|refine ae.aM (by decide +kernel) rfl fun K hK =>?_|(refine .aD [0,1,2,3,4,5,7,16] hK ?_;clear hK K)|(with_reducible refine .done (hK _ ?_);clear hK K)|refine ae.of rfl ?_|(with_reducible refine aF.aL (fun h =>?_) (fun h =>?_) <;>try simp only[h])) <;>try simp only[aN,R,simprocAttr])
  all_goals clear R
def rE(k b:Int)(l:List aW):Bool:=l.any fun p=>p.j.any fun x=>decide (x.aC=b)&&decide (x.kind=k)
def mz(k:Int)(l:List aI):Bool:=l.any fun x=>x.kind==k
theorem zS{k b:Int}{ps:List aW}{i:Nat}(h:i<ps.length):rE k b (ps.take (i+1))=(rE k b (ps.take i)||mz k ((aS ps i).j.filter fun x=>x.aC==b)):=by
 rw[zy0 h,mZ h];simp only[rE,List.any_append,List.any_cons,List.any_nil,Bool.or_false,mz,List.any_filter]
 congr 1
theorem zT{k:Int}{l:List aI}{i:Nat}(h:i<l.length):mz k (l.take (i+1))=(mz k (l.take i)||l[i].kind==k):=by
 rw[zy0 h];simp only[mz,List.any_append,List.any_cons,List.any_nil,Bool.or_false]
def p8(ps:List aW)(b:Int)(l:List Int)(r:List dI)(ts:List (Nat×I))(t:Nat×Bool×Bool):ai :=
 au ([(1,.int .i64 b),(4,.bool false),(5,enc l),(7,enc r),(53,enc ps),(54,.int .i64 ps.length),(55,.int .i64 t.1),(9,.bool t.2.1),(10,.bool t.2.2)]++ts) []
theorem Z7(A:ai)(n:Nat)(b:I)(q:aI)(x y z w:Int)(rest:List aw):da A (some 4) n [] b (enc q) rest (some (.agg [.int .i64 x,.int .i64 y,.int .i64 z,.int .i64 w]))=aA rest (A.aV n (.box (enc q))):=dS (eF _) (by rw[fB];rfl) (fg _)
theorem Ih(w:ee)(b:Int)(ar:Whole w.ps)(O:vX w.ps)(hb:c6 1 9999 b=true):bm Tryd.prog 8 [enc w,enc b] (enc true):=by
 refine bm.cg Tryd.func8 Km Lg Mq (u8 rfl) (fun hwf W0 bO E1 =>?_);simp only[A6,F1,bQ,zz1];clear hwf;obtain ⟨ps,rs,bs⟩:=w;simp only at ar O;have hT:=jF (de ps) (de rs) (de bs);have hW:=zp ps b;have hR:=Hw ps b;obtain ⟨w1,w2⟩:=ar.aaG hb;have lX:=ar.Zb b;rw[ar.zR hb] at hR;rw[w2] at hW;simp only at hR;obtain ⟨o1,o2⟩:=Yy ar O b;rw[←w1,←lX] at o1 o2;generalize (oG ps b).1=l at *;generalize lZ (jJ ps) b (jJ ps)=r at *;have hn0:∀ a:Int,(a != a)=false:=fun a=>by simp
 have c1:decide ((l.length:Int)>1)=false:=decide_eq_false (by omega);have hlen:=ar.len;have c2:((l.length:Int)==1)=true→decide ((r.length:Int)>0)=false:=fun h=>decide_eq_false (by have:=eq_of_beq h;omega);simp only[B5];rcases q1:((l.length:Int)==1)
 all_goals
  have R:=y6 @hT (y6 @hn0 (y6 @c1 (y6 @c2 (y6 @q1 (y6 @bE (y6 @bp aK))))))
  repeat' ((first |(with_reducible refine .guard (fun hb =>?_) (fun hb =>?_) <;>try simp only[hb])|refine ae.aM (by decide +kernel) rfl fun K hK =>?_|refine .lead _ (hW) ?_|refine .lead _ (hR) ?_|(refine .aD [0,1,2,4,5,6,7,8,9,10,12,13,14,16,51,53,54,55,56,66,67,68,69,70,91] hK ?_;clear hK K)|(with_reducible refine .done (hK _ ?_);clear hK K)|refine ae.of rfl ?_|(with_reducible refine aF.aL (fun h =>?_) (fun h =>?_) <;>try simp only[h])) <;>try simp only[aN,R,simprocAttr])
  all_goals clear R
  refine ae.loop (p8 ps b l r []) (fun t=>t.1≤ps.length∧t.2.1=rE 1 b (ps.take t.1)∧t.2.2=rE 2 b (ps.take t.1)) (fun t=>ps.length-t.1) (0,false,false) ⟨zw4 _,rfl,rfl⟩ ?_ ?_
  ·simp only[p8,zy3];refine bt.c8 ?_ ?_ ?_ ?_ <;>simp[cn,cY,cu,cB,cw,I.only,cv]
 all_goals
  rintro ⟨i,f,g⟩ ⟨hi,hf,hg⟩;simp only at hi hf hg;simp only[p8,zy3];by_cases hlt:i<ps.length
  rotate_left
  ·have hlc:=hE hlt;have hge:i=ps.length:=by omega
   rw[hge,List.take_length] at hf hg;have hfin:f=true→g=false→((l.length:Int)+(r.length:Int)==1)=true:=fun U ab=>by
    have:=o2 (hf.symm.trans U) (hg.symm.trans ab);simp;omega
   have hwr:IntKind.i64.wrap ((l.length:Int)+(r.length:Int))=(l.length:Int)+(r.length:Int):=jv _ (by omega) (by omega);rcases f
   ·have R:=y6 @hlc (y6 @bE (y6 @bp aK))
    repeat' ((first |(with_reducible refine .guard (fun hb =>?_) (fun hb =>?_) <;>try simp only[hb])|refine ae.aM (by decide +kernel) rfl fun K hK =>?_|(refine .aD [0,1,2,4,5,6,7,8,9,10,12,13,14,16,51,53,54,55,56,66,67,68,69,70,91] hK ?_;clear hK K)|(with_reducible refine .done (hK _ ?_);clear hK K)|refine ae.of rfl ?_|(with_reducible refine aF.aL (fun h =>?_) (fun h =>?_) <;>try simp only[h])) <;>try simp only[aN,R,simprocAttr])
    all_goals clear R
   ·rcases g
    ·have aq:=hfin rfl rfl;have R:=y6 @hlc (y6 @hwr (y6 @aq (y6 @bE (y6 @bp aK))))
     repeat' ((first |(with_reducible refine .guard (fun hb =>?_) (fun hb =>?_) <;>try simp only[hb])|refine ae.aM (by decide +kernel) rfl fun K hK =>?_|(refine .aD [0,1,2,4,5,6,7,8,9,10,12,13,14,16,51,53,54,55,56,66,67,68,69,70,91] hK ?_;clear hK K)|(with_reducible refine .done (hK _ ?_);clear hK K)|refine ae.of rfl ?_|(with_reducible refine aF.aL (fun h =>?_) (fun h =>?_) <;>try simp only[h])) <;>try simp only[aN,R,simprocAttr])
     all_goals clear R
    ·have R:=y6 @hlc (y6 @bE (y6 @bp aK))
     repeat' ((first |(with_reducible refine .guard (fun hb =>?_) (fun hb =>?_) <;>try simp only[hb])|refine ae.aM (by decide +kernel) rfl fun K hK =>?_|(refine .aD [0,1,2,4,5,6,7,8,9,10,12,13,14,16,51,53,54,55,56,66,67,68,69,70,91] hK ?_;clear hK K)|(with_reducible refine .done (hK _ ?_);clear hK K)|refine ae.of rfl ?_|(with_reducible refine aF.aL (fun h =>?_) (fun h =>?_) <;>try simp only[h])) <;>try simp only[aN,R,simprocAttr])
     all_goals clear R
  have hlc:=h0 hlt;have he:=fun A=>fT (A:=A) 3 hlt rfl;have hw:=gl (i:=i) (by omega);have hs1:=zS (k:=1) (b:=b) hlt;have hs2:=zS (k:=2) (b:=b) hlt;rw[←hf] at hs1;rw[←hg] at hs2;have hTr:=Hx (aS ps i) b;have hjl:=(fF (ar.val i (by omega))).2.2.2.1;rw[show mi (aS ps i) b=((aS ps i).j.filter fun x=>x.aC==b,0) by simp only[mi,ar.val i (by omega),hb,if_true]] at hTr;simp only at hTr;have htl:((aS ps i).j.filter fun x=>x.aC==b).length≤200:=Nat.le_trans (List.length_filter_le _ _) hjl;rw[mZ hlt] at he;generalize ((aS ps i).j.filter fun x=>x.aC==b)=tr at *;have R:=y6 @hlc (y6 @he (y6 @hn0 (y6 @bE (y6 @bp aK))))
  repeat' ((first |(with_reducible refine .guard (fun hb =>?_) (fun hb =>?_) <;>try simp only[hb])|refine ae.aM (by decide +kernel) rfl fun K hK =>?_|refine .lead _ (hTr) ?_|(refine .aD [0,1,2,4,5,6,7,8,9,10,12,13,14,16,51,53,54,55,56,66,67,68,69,70,91] hK ?_;clear hK K)|(with_reducible refine .done (hK _ ?_);clear hK K)|refine ae.of rfl ?_|(with_reducible refine aF.aL (fun h =>?_) (fun h =>?_) <;>try simp only[h])) <;>try simp only[aN,R,simprocAttr])
  all_goals clear R
  refine ae.loop (fun t:Nat×Bool×Bool=>p8 ps b l r [(67,enc tr),(68,.int .i64 tr.length),(69,.int .i64 t.1)] (i,t.2)) (fun t=>t.1≤tr.length∧t.2.1=(f||mz 1 (tr.take t.1))∧t.2.2=(g||mz 2 (tr.take t.1))) (fun t=>tr.length-t.1) (0,f,g) ⟨zw4 _,by simp[mz],by simp[mz]⟩ ?_ ?_
  ·simp only[p8,zz2,zx3];clear hf hg;refine bt.c8 ?_ ?_ ?_ ?_ <;>simp[cn,cY,cu,cB,cw,I.only,cv]
  rintro ⟨k,f2,g2⟩ ⟨hk,hf2,hg2⟩;simp only at hk hf2 hg2;simp only[p8,zz2,zx3];by_cases hkt:k<tr.length
  rotate_left
  ·have hkc:=hE hkt;have hge:k=tr.length:=by omega
   rw[hge,List.take_length] at hf2 hg2;have R:=y6 @hkc (y6 @hw (y6 @bE (y6 @bp aK)))
   repeat' ((first |(with_reducible refine .guard (fun hb =>?_) (fun hb =>?_) <;>try simp only[hb])|refine ae.aM (by decide +kernel) rfl fun K hK =>?_|(refine .aD [0,1,2,4,5,6,7,8,9,10,12,13,14,16,51,53,54,55,56,66,67,68,69,70,91] hK ?_;clear hK K)|(with_reducible refine .done (hK _ ?_);clear hK K)|refine ae.of rfl ?_|(with_reducible refine aF.aL (fun h =>?_) (fun h =>?_) <;>try simp only[h])) <;>try simp only[aN,R,simprocAttr])
   all_goals clear R
   refine ⟨(i+1,f2,g2),⟨by simp only;omega,by simp only;rw[hs1];exact hf2,by simp only;rw[hs2];exact hg2⟩,by simp only;omega,?_⟩;simp only[];clear hf hg hf2 hg2;refine bt.c8 ?_ ?_ ?_ ?_ <;>simp[cn,cY,cu,cB,cw,I.only,cv]
  have hkc:=h0 hkt;have hke:=fun A=>fT (A:=A) 4 hkt rfl;have hkw:=gl (i:=k) (by omega);have ht1:=zT (k:=1) hkt;have ht2:=zT (k:=2) hkt;generalize tr[k]=x at *;rcases f2 <;>rcases g2 <;>rcases p1:(x.kind==1) <;>rcases p2:(x.kind==2)
  all_goals
   have R:=y6 @hkc (y6 @hke (y6 @hkw (y6 @p1 (y6 @p2 (y6 @Z7 (y6 @bE (y6 @bp aK)))))))
   repeat' ((first |(with_reducible refine .guard (fun hb =>?_) (fun hb =>?_) <;>try simp only[hb])|refine ae.aM (by decide +kernel) rfl fun K hK =>?_|(refine .aD [0,1,2,4,5,6,7,8,9,10,12,13,14,16,51,53,54,55,56,66,67,68,69,70,91] hK ?_;clear hK K)|(with_reducible refine .done (hK _ ?_);clear hK K)|refine ae.of rfl ?_|(with_reducible refine aF.aL (fun h =>?_) (fun h =>?_) <;>try simp only[h])) <;>try simp only[aN,R,simprocAttr])
   all_goals clear R
  all_goals
   first
    |(refine ⟨(k+1,false,false),⟨by simp only;omega,by simp only;rw[ht1,←Bool.or_assoc,←hf2,p1];rfl,by simp only;rw[ht2,←Bool.or_assoc,←hg2,p2];rfl⟩,by simp only;omega,?_⟩)
    |(refine ⟨(k+1,true,false),⟨by simp only;omega,by simp only;rw[ht1,←Bool.or_assoc,←hf2,p1];rfl,by simp only;rw[ht2,←Bool.or_assoc,←hg2,p2];rfl⟩,by simp only;omega,?_⟩)
    |(refine ⟨(k+1,false,true),⟨by simp only;omega,by simp only;rw[ht1,←Bool.or_assoc,←hf2,p1];rfl,by simp only;rw[ht2,←Bool.or_assoc,←hg2,p2];rfl⟩,by simp only;omega,?_⟩)
    |(refine ⟨(k+1,true,true),⟨by simp only;omega,by simp only;rw[ht1,←Bool.or_assoc,←hf2,p1];rfl,by simp only;rw[ht2,←Bool.or_assoc,←hg2,p2];rfl⟩,by simp only;omega,?_⟩)
   simp only[];clear hf hg hf2 hg2 ht1 ht2 hs1 hs2;refine bt.c8 ?_ ?_ ?_ ?_ <;>simp[cn,cY,cu,cB,cw,I.only,cv]
end Go.Proofs.YthbdbocionnfgaaDoor
namespace Go.Abs
open Go Go.RowKit
theorem sx(ρ:Nat→Nat):∀ (ts:List (Nat×I)) (t:Nat),bI (ts.map fun q=>(q.1,q.2.a8 ρ)) t=(bI ts t).a8 ρ
 | [],_=>rfl
 |(k,v)::ts,t=>by
  simp only[zz4,bI];split
  ·rfl
  ·exact sx ρ ts t
theorem bt.a8{ts:List (Nat×I)}{os:List (Nat×ao)}(ρ:List (Nat×Nat))(inj:∀ m m',av os m=true→av os m'=true→bx ρ m=bx ρ m'→m=m')(sm:∀ m,av os m=true→bx ρ m<1000000∨bx ρ m=m)
  (hT:cu (av os) ts) (hO:∀ n x,aj os n=some x→x.only (av os)=true):bt (au ts os) (au (ts.map fun q=>(q.1,q.2.a8 (bx ρ))) (df ρ os)):=by
 rintro c a w ⟨D,E,hs⟩
 let E':bf:=fun n=>match pre ρ os n with | some m=>E m | none=>none
 have ay:∀ m,av os m=true→E' (bx ρ m)=E m:=fun m hm=>by
  show (match pre ρ os (bx ρ m) with | some m=>E m | none=>none)=E m
  cases hp:pre ρ os (bx ρ m) with
  |none=>exact absurd rfl (vh hp hm)
  |some m' =>
   obtain ⟨k1,k2⟩:=jk hp;rw[inj m' m k1 hm k2]
 refine ⟨D,E',hs.sz,hs.eB,fun t =>?_,hs.dG,hs.cZ,hs.aQ,fun n =>?_,fun n m e e' b U ab af aq =>?_,fun n e hn =>?_,hs.eL,hs.cR,hs.eV,hs.fw⟩
 ·simp only[au,sx];exact (bg.a8 (p:=av os) ay (u6 hT t)).2 (hs.dN t)
 ·have hl:=qM ρ os [] n;rw[zy3] at hl;simp only[au,hl];cases hp:pre ρ os n with
  |none =>
   show (match pre ρ os n with | some m=>E m | none=>none)=none
   rw[hp]
  |some m =>
   obtain ⟨k1,k2⟩:=jk hp;have hEn:E' n=E m:=by rw[←k2];exact ay m k1
   cases hx:aj os m with
   |none=>simp[av,hx] at k1
   |some x =>
    have ho:=hs.bP m;have hon:=hO m x hx;simp only[au,hx] at ho;simp only[hx,zy2];cases x with
    |box x =>
     simp only[ao.a8,cN];obtain ⟨b,cs,T,q1,q2,q3,q4,q5⟩:=ho;exact ⟨b,cs,T,by rw[hEn,vt];exact q1,q2,q3,(al.a8 (p:=av os) ay x _ (by simpa[ao.only] using hon)).2 q4,q5⟩
    |bU T sz es =>
     simp only[ao.a8,cN];obtain ⟨aH,q1,q2,q3⟩:=ho;refine ⟨aH,by rw[hEn,pC];exact q1,fun e he =>?_,?_⟩
     ·rw[pD] at he;obtain ⟨e',he',rfl⟩:=zy5.1 he;rw[qY];exact q2 e' he'
     ·cases aH with
      |none=>simp only at q3 ⊢;rw[q3];rfl
      |some bc =>
       obtain ⟨b,cap⟩:=bc;obtain ⟨cs,pr,rest,g1,g2,g3,g4,g5,g6,g7,g8⟩:=q3;exact ⟨cs,pr,rest,g1,g2,g3,(aP.a8 (p:=av os) ay es _ (by simpa[ao.only] using hon)).2 g4,g5,by rw[pC];exact g6,g7,g8⟩
    |dD T xs =>
     simp only[ao.a8,cN];obtain ⟨aH,q1,q2,q3⟩:=ho;exact ⟨aH,by rw[hEn];exact q1,q2,q3⟩
    |dC x =>
     simp only[ao.a8,cN];obtain ⟨b,q1,q2⟩:=ho;exact ⟨b,by rw[hEn];exact q1,q2⟩
    |bA ks vs =>
     simp only[ao.a8,cN];obtain ⟨b,es,ck,q1,q2,q3,q4,q5,q6,q7⟩:=ho;simp only[ao.only,t8] at hon;exact ⟨b,es,ck,by rw[hEn];exact q1,q2,q3,q4,(aG.a8 (p:=av os) ay ks _ hon.1).2 q5,(aG.a8 (p:=av os) ay vs _ hon.2).2 q6,q7⟩
    |it ks vs left cur =>
     simp only[ao.a8,cN];obtain ⟨r,b,es,ck,si,se,la,q1,q2,q3,q4,q5,q6,q7⟩:=ho;simp only[ao.only,t8] at hon;exact ⟨r,b,es,ck,si,se,la,by rw[hEn];exact q1,q2,q3,q4,(aG.a8 (p:=av os) ay ks _ hon.1).2 q5,(aG.a8 (p:=av os) ay vs _ hon.2).2 q6,q7⟩
 ·have key:∀ n e,E' n=some e→∃ m,pre ρ os n=some m∧E m=some e:=fun n e h=>by
   have h':(match pre ρ os n with | some m=>E m | none=>none)=some e:=h;cases hp:pre ρ os n with
   |none=>rw[hp] at h';cases h'
   |some m=>rw[hp] at h';exact ⟨m,rfl,h'⟩
  obtain ⟨n',p1,p2⟩:=key n e U;obtain ⟨m',p3,p4⟩:=key m e' ab;have:=hs.cO n' m' e e' b p2 p4 af aq;rw[←(jk p1).2,←(jk p3).2,this]
 ·cases hp:pre ρ os n with
  |none =>
   left
   show (match pre ρ os n with | some m=>E m | none=>none)=none
   rw[hp]
  |some m =>
   obtain ⟨k1,k2⟩:=jk hp;have hEn:E' n=E m:=by rw[←k2];exact ay m k1
   rcases sm m k1 with h | h
   ·have:=(hs.eL n (by rw[hn];simp)).2;omega
   ·rw[hEn];have:m=n:=by omega
    subst this;exact hs.dQ m e hn
theorem bt.Zj{ts ts':List (Nat×I)}{os os':List (Nat×ao)}(ρ:List (Nat×Nat))(inj:∀ m m',av os m=true→av os m'=true→bx ρ m=bx ρ m'→m=m')(sm:∀ m,av os m=true→bx ρ m<1000000∨bx ρ m=m)
  (hT:cu (av os) ts) (hO:∀ n x,aj os n=some x→x.only (av os)=true) (h:bt (au (ts.map fun q=>(q.1,q.2.a8 (bx ρ))) (df ρ os)) (au ts' os')):bt (au ts os) (au ts' os') :=
 (bt.a8 ρ inj sm hT hO).trans h
end Go.Abs
namespace Go.Proofs.YthbdbocionnfgaaDoor
open Go Go.Abs
open Go.Abs.Enc (enc)
section
variable {α:Type} [Enc α] {P:Program} {hs:List FuncId} {Y:Value→List I→List (Nat×ao)→cA→Prop} {K:ai→Prop} {rest:List aw} {d e esz bytes:Nat}
def kh(esz:Nat)(v:I)(os:List (Nat×ao))(l:List α)(S:List Nat):Prop:=(l=[]∧v=.c0 esz)∨∃ n q,n∈S∧v=.view n [] esz 0 l.length∧aj os n=some (.box (.agg ((l++q).map enc)))
theorem zW{A:ai}{q:Nat}(z:I){l:List α}(hsz:Enc.sz α=esz)(hl:l≠[])(hf:A.o d=none)(hb:l.length*bytes≤140737488355328)(hml:l.length≤maxLen) :
  ∃ p:Nat→Prop,fp A (some d) e esz bytes z (enc l) rest (.c0 q)=.any p fun m=>aA rest ((A.aV d (.box (.agg (l.map enc++List.replicate m z)))).aX (some d) (.view d [] esz 0 l.length)):=by
 have hne:l.map (enc (α:=α))≠[]:=by simpa using hl
 have U:eC A esz (.c0 q)=some []:=rfl;refine ⟨fun m=>l.length+m≤maxLen,?_⟩;simp only[fp,U,mb A esz l hsz,fb,if_neg hne,gn,hf,List.length_nil,zz1,zz7,if_pos (y6 hb hml),zx3]
theorem IT{A:ai}(z:I)(hsz:Enc.sz α=esz){n l:Nat}{xs ys:List α}(hy:ys≠[])(ho:A.o n=some (.box (.agg (xs.map enc))))(hl:l≤xs.length)(hr:xs.length<l+ys.length)(hf:A.o d=none)(hb:(l+ys.length)*bytes≤140737488355328)(hml:l+ys.length≤maxLen) :
  ∃ p:Nat→Prop,fp A (some d) e esz bytes z (enc ys) rest (.view n [] esz 0 l)=.any p fun m=>aA rest ((A.aV d (.box (.agg ((xs.take l).map enc++(ys.map enc++List.replicate m z))))).aX (some d) (.view d [] esz 0 (l+ys.length))):=by
 have U:=tk (A:=A) (esz:=esz) (lo:=0) (k:=l) ho (by omega);have ab:(I.agg (xs.map (enc (α:=α)))).at []=some (.agg (xs.map enc)):=rfl;have aq:(xs.take l).length=l:=by rw[zx7];omega
 refine ⟨fun m=>l+ys.length+m≤maxLen,?_⟩;simp only[fp,U,List.drop_zero,mb A esz ys hsz,fb];rw[if_neg (by simpa using hy)];simp only[ho,ab,zz7,zz1];rw[if_neg (by omega)];simp only[gn,hf,zz7,aq];rw[if_pos ⟨hb,hml⟩]
theorem WD(z:α){ts:List (Nat×I)}{os:List (Nat×ao)}{v:I}{l ys:List α}{S:List Nat}(hsz:Enc.sz α=esz)(hg:kh esz v os l S)(hf:aj os d=none)(hb:(l.length+ys.length)*bytes≤140737488355328)(hml:l.length+ys.length≤maxLen) :
  (∃ v' os',fp (au ts os) (some d) e esz bytes (enc z) (enc ys) rest v=aA rest (au ((d,v')::ts) os')∧kh esz v' os' (l++ys) (d::S)∧∀ m,m∉d::S→aj os' m=aj os m) ∨
  (∃ p,∃ v':Nat→I,∃ os':Nat→List (Nat×ao),fp (au ts os) (some d) e esz bytes (enc z) (enc ys) rest v=.any p (fun m=>aA rest (au ((d,v' m)::ts) (os' m)))∧∀ k,kh esz (v' k) (os' k) (l++ys) (d::S)∧∀ m,m∉d::S→aj (os' k) m=aj os m):=by
 by_cases hy:ys=[]
 ·subst hy;rw[zy3];rcases hg with ⟨rfl,rfl⟩ | ⟨n,q,hn,rfl,ho⟩
  ·exact .inl ⟨.c0 esz,os,IU _ hsz,.inl ⟨rfl,rfl⟩,fun _ _=>rfl⟩
  ·refine .inl ⟨_,os,?_,.inr ⟨n,q,List.mem_cons_of_mem _ hn,rfl,ho⟩,fun _ _=>rfl⟩;have U:=tk (A:=au ts os) (esz:=esz) (lo:=0) (k:=l.length) ho (by simp);simp only[fp,U,mb _ esz ([]:List α) hsz,fb,zx6,if_true];rfl
 ·rcases hg with ⟨rfl,rfl⟩ | ⟨n,q,hn,rfl,ho⟩
  ·obtain ⟨p,U⟩:=zW (A:=au ts os) (rest:=rest) (e:=e) (q:=esz) (enc z) hsz hy hf (by simpa using hb) (by simpa using hml);refine .inr ⟨p,fun m=>.view d [] esz 0 ys.length,fun m=>(d,.box (.agg (ys.map enc++List.replicate m (enc z))))::os,U,fun k=>⟨.inr ⟨d,List.replicate k z,List.mem_cons_self,by simp,?_⟩,fun m hm =>?_⟩⟩
   ·simp[aj]
   ·rw[cW,if_neg (fun h=>by rw[h] at hm;exact hm List.mem_cons_self)]
  ·by_cases hr:l.length+ys.length≤(l++q).length
   ·have U:=zX (A:=au ts os) (rest:=rest) (d:=some d) (e:=e) (bytes:=bytes) (esz:=esz) (enc z) hsz hy ho hr;have e1:(l++q).take l.length++(ys++(l++q).drop (l.length+ys.length))=(l++ys)++q.drop ys.length:=by simp[List.drop_append]
    rw[e1] at U;refine .inl ⟨_,(n,.box (.agg (((l++ys)++q.drop ys.length).map enc)))::os,U,.inr ⟨n,q.drop ys.length,List.mem_cons_of_mem _ hn,by simp,by simp[aj]⟩,fun m hm =>?_⟩;rw[cW,if_neg (fun h=>by rw[h] at hm;exact hm (List.mem_cons_of_mem _ hn))]
   ·obtain ⟨p,U⟩:=IT (A:=au ts os) (rest:=rest) (d:=d) (e:=e) (bytes:=bytes) (esz:=esz) (enc z) hsz hy ho (by simp) (by omega) hf hb hml;refine .inr ⟨p,fun m=>.view d [] esz 0 (l.length+ys.length),fun m=>(d,.box (.agg (((l++q).take l.length).map enc++(ys.map enc++List.replicate m (enc z)))))::os,U,fun k=>⟨.inr ⟨d,List.replicate k z,List.mem_cons_self,by simp,?_⟩,fun m hm =>?_⟩⟩
    ·simp[aj]
    ·rw[cW,if_neg (fun h=>by rw[h] at hm;exact hm List.mem_cons_self)]
theorem aT.uw(z:α){ts:List (Nat×I)}{os:List (Nat×ao)}{v:I}{l ys:List α}{S:List Nat}(hsz:Enc.sz α=esz)(hg:kh esz v os l S)(hf:aj os d=none)(hb:(l.length+ys.length)*bytes≤140737488355328)(hml:l.length+ys.length≤maxLen)
  (h:∀ v' os',kh esz v' os' (l++ys) (d::S)→(∀ m,m∉d::S→aj os' m=aj os m)→aT P Y false K (aA rest (au ((d,v')::ts) os'))):aT P Y false K (fp (au ts os) (some d) e esz bytes (enc z) (enc ys) rest v):=by
 rcases WD (rest:=rest) (e:=e) z hsz hg hf hb hml (ts:=ts) with ⟨v',os',U,ab,af⟩ | ⟨p,v',os',U,ab⟩
 ·rw[U];exact h v' os' ab af
 ·rw[U];exact .any rfl fun m _=>h _ _ (ab m).1 (ab m).2
theorem Di(os:List (Nat×ao))(S:List Nat):kh esz (.c0 esz) os ([]:List α) S:=.inl ⟨rfl,rfl⟩
theorem Dg{v:I}{os:List (Nat×ao)}{l:List α}{S:List Nat}{A:ai}(hsz:Enc.sz α=esz)(h:kh esz v os l S)(hA:∀ m∈S,A.o m=aj os m):bn true A v=some (enc l):=by
 rcases h with ⟨rfl,rfl⟩ | ⟨n,q,hn,rfl,ho⟩
 ·simp only[bn,iy,zx6,hsz]
 ·have U:bn true A (.view n [] esz 0 l.length)=jT esz 0 l.length (some ((l++q).map enc)):=by
   rw[um,hA n hn,ho];rfl
  rw[U,rX hsz,List.take_left]
end
theorem aT.mT{P:Program}{Y:Value→List I→List (Nat×ao)→cA→Prop}{K:ai→Prop}{rest:List aw}{d e q:Nat}{ts:List (Nat×I)}{os:List (Nat×ao)}{ps:List aW}(hl:ps≠[])(hf:aj os d=none)(hb:ps.length≤1000)
  (h:∀ m,aT P Y false K (aA rest (au ((d,.view d [] 3 0 ps.length)::ts) ((d,.box (gK ps m))::os)))):aT P Y false K (fp (au ts os) (some d) e 3 40 (.agg [.int .i64 0,.nils 4,.int .i64 0]) (enc ps) rest (.c0 q)):=by
 obtain ⟨p,U⟩:=zW (A:=au ts os) (rest:=rest) (d:=d) (e:=e) (esz:=3) (bytes:=40) (q:=q) py (l:=ps) rfl hl hf (by omega) (by simp only[maxLen];omega);have ab:fp (au ts os) (some d) e 3 40 (.agg [.int .i64 0,.nils 4,.int .i64 0]) (enc ps) rest (.c0 q)=_:=U;rw[ab];exact .any rfl fun m _=>h m
def lz(w:ee)(x:fk)(m:Nat)(b k:Int)(q:Nat):ai :=
 au [(2,.ptr 2 []),(3,.ptr 3 []),(4,.ptr 4 []),(5,.bool false),(6,.int .i64 m),(7,.int .i64 b),(8,.int .i64 k),(9,.ptr 9 []),(10,.int .i64 0)]
  [(9,.box (enc (aS w.ps m))),(20,.box (gK w.ps q)),(4,.box (.agg [.nils 3,.nils 5,.nils 1])),(3,.box (enc x)),(2,.box (dO (.view 20 [] 3 0 w.ps.length) (enc w.rs) (enc w.bs)))]
theorem gh(A:ai)(n:Nat)(b:I)(q:aW)(x y:Int)(rest:List aw):da A (some 3) n [] b (enc q) rest (some (.agg [.int .i64 x,.nils 4,.int .i64 y]))=aA rest (A.aV n (.box (enc q))):=dS (eF _) (by rw[fB];rfl) (fg _)
theorem og{W0:World}{bO:aU}{n:Nat}{own dn:_}(y:bD)(Q:Exit→ai→Prop)(w:ee)(x:fk)(hl:w.ps.length=6)
  (h:∀ q,ae { P:=Tryd.prog,eZ:=W0,bO:=bO,n:=n,own:=own,dn:=dn,Y:=dv,l4:=none } y Q (lz w x (bz x) (er x) (cH x.to 6) q)) :
  ae { P:=Tryd.prog,eZ:=W0,bO:=bO,n:=n,own:=own,dn:=dn,Y:=dv,l4:=none } (.seq (.cm none CE) (.seq (.cm none CF) (.seq (.cm none CG) (.seq (.cm none CH) (.seq (.cm none CI) (.seq (.cm none CJ) (.seq (.cm none CK) y))))))) Q (au [(0,enc w),(1,enc x)] []):=by
 obtain ⟨ps,rs,bs⟩:=w;simp only at hl;have hT:=jF (de ps) (de rs) (de bs);have hT1:=jF (gb 20 [] 3 0 ps.length) (de rs) (de bs);have hS:=Ha (r:=enc rs) (b:=enc bs) (de ps) (gb 20 [] 3 0 ps.length);have hmod:=iE x.je (m:=6) (by decide);have hm:cH x.je 6=(bz x:Int):=by simp only[bz];omega
 have hbm:=iE x.aC (m:=5) (by decide);have hwb:IntKind.i64.wrap (1+cH x.aC 5)=er x:=jv _ (by omega) (by omega);have hF1:=jG x.je 6 (by decide) (by decide);have hF2:=jG x.aC 5 (by decide) (by decide);have hF3:=jG x.to 6 (by decide) (by decide);rw[hm] at hF1;have hi:bz x<ps.length:=by rw[hl];simp only[bz];omega
 have hv:=lP (n:=20) hi;have hat:=fun q=>lC (q:=q) hi;have hne:ps≠[]:=fun e=>by rw[e] at hl;cases hl
 simp only[lz] at h;simp only[B5];have R:=y6 @hT (y6 @hT1 (y6 @hS (y6 @hwb (y6 @hv (y6 @hat (y6 @gf (y6 @gh (y6 @eD (y6 @bE (y6 @bp (y6 @dX aK)))))))))))
 repeat' ((first |(with_reducible refine .guard (fun hb =>?_) (fun hb =>?_) <;>try simp only[hb])|refine ae.aM (by decide +kernel) rfl fun K hK =>?_|refine .flat _ (hF1) rfl ?_|refine .flat _ (hF2) rfl ?_|refine .flat _ (hF3) rfl ?_|refine aT.mT hne rfl (by omega) (fun q =>?_)|(refine .aD [0,1,2,3,4,5,6,7,8,9,10,11,12,13,14,15,16,39,43,67,72,81,90,95,103,114,127,145,154,166,171,187] hK ?_;clear hK K)|(with_reducible refine .done (hK _ ?_);clear hK K)|refine ae.of rfl ?_|(with_reducible refine aF.aL (fun h =>?_) (fun h =>?_) <;>try simp only[h])) <;>try simp only[aN,R,simprocAttr])
 all_goals clear R
 refine ae.sub ?_ (h q);clear h hT hT1 hS hat;refine bt.c8 ?_ ?_ ?_ ?_ <;>simp[*,cn,cY,cu,cB,av,cw,cW,I.only,I.b6,ao.only,cv,ml,nt]
theorem lj{ps:List aW}(h:ps.length=6)(i:Nat)(p:aW):(ps.set i p).length=6:=by rw[List.length_set,h]
theorem iA{ps:List aW}{rs:List cL}{bs:List Int}{q:Nat}(h:ps.length=6)(ts:List (Nat×I))(os:List (Nat×ao))(hA:aj os 20=some (.box (gK ps q))):bn true (au ts os) (dO (.view 20 [] 3 0 6) (enc rs) (enc bs))=some (enc (⟨ps,rs,bs⟩:ee)) :=
 uo (xl h.symm hA) (by simp only[mH]) (by simp only[mH])
theorem Hn(w:ee)(x:fk)(aw:gD w)(hk:cH x.kind 10=1):bm Tryd.prog 11 [enc w,enc x] (.tuple [enc (dE w x).1,enc (dE w x).2]):=by
 refine bm.cg Tryd.func11 nP nR nT (u8 rfl) (fun hwf W0 bO E1 =>?_);simp only[mB,nf,bQ,zz1];clear hwf;have ar:=aw.gM;refine og _ _ w x ar.len (fun q =>?_);obtain ⟨ps,rs,bs⟩:=w;simp only at ar;have hmod:=iE x.je (m:=6) (by decide);have hm6:bz x<6:=by simp only[bz];omega
 have hi:bz x<ps.length:=by rw[ar.len];exact hm6
 have hl:=ar.len;have hF0:=jG x.kind 10 (by decide) (by decide);rw[hk] at hF0;simp only[lz,hl];have hT1:=jF (gb 20 [] 3 0 6) (de rs) (de bs);have hS4:=kL (gb 20 [] 3 0 6) (de rs) (de bs);have hst:=nB (q:=q) hi;have hat:=lC (q:=q) hi;have hv:=lP (n:=20) hm6;have hf0:=fun ts os=>iA (rs:=rs) (bs:=bs) (q:=q) hl ts os;have hf1:=fun (p:aW) ts os=>iA (rs:=rs) (bs:=bs) (q:=q) (lj hl (bz x) p) ts os;have hA:dE ⟨ps,rs,bs⟩ x=if x.no.tmod 3=0 then eH ⟨ps,rs,bs⟩ (bz x) (oo (aS ps (bz x)) (er x)) rs bs else (⟨ps,rs,bs⟩,true):=by simp only[dE,hk];rfl
 have hF:=Hz (aS ps (bz x)) (er x);rcases q1:(x.no.tmod 3 != 0)
 ·have q2:x.no.tmod 3=0:=by simpa using q1
  rw[hA,if_pos q2];simp only[eH];generalize oo (aS ps (bz x)) (er x)=r at *;obtain ⟨p',e⟩:=r;simp only at hF ⊢;have hKn:=nF e;rcases q3:(e==0)
  ·have q4:¬ e=0:=by simpa using q3
   rw[if_neg q4];have R:=y6 @hT1 (y6 @hS4 (y6 @hst (y6 @hat (y6 @hv (y6 @hf0 (y6 @q1 (y6 @q3 (y6 @gf (y6 @gh (y6 @eD (y6 @bE (y6 @bp (y6 @dX aK)))))))))))))
   repeat' ((first |(with_reducible refine .guard (fun hb =>?_) (fun hb =>?_) <;>try simp only[hb])|refine ae.aM (by decide +kernel) rfl fun K hK =>?_|refine .flat _ (hF0) rfl ?_|refine .flat _ (hKn) rfl ?_|refine .lead _ (hF) ?_|(refine .aD [0,1,2,3,4,5,6,7,8,9,10,11,12,13,14,15,16,39,43,67,72,81,90,95,103,114,127,145,154,166,171,187] hK ?_;clear hK K)|(with_reducible refine .done (hK _ ?_);clear hK K)|refine ae.of rfl ?_|(with_reducible refine aF.aL (fun h =>?_) (fun h =>?_) <;>try simp only[h])) <;>try simp only[aN,R,simprocAttr])
   all_goals clear R
  ·have q4:e=0:=by simpa using q3
   rw[if_pos q4];have hf2:=hf1 p';have R:=y6 @hT1 (y6 @hS4 (y6 @hst (y6 @hat (y6 @hv (y6 @hf2 (y6 @q1 (y6 @q3 (y6 @gf (y6 @gh (y6 @eD (y6 @bE (y6 @bp (y6 @dX aK)))))))))))))
   repeat' ((first |(with_reducible refine .guard (fun hb =>?_) (fun hb =>?_) <;>try simp only[hb])|refine ae.aM (by decide +kernel) rfl fun K hK =>?_|refine .flat _ (hF0) rfl ?_|refine .flat _ (hKn) rfl ?_|refine .lead _ (hF) ?_|(refine .aD [0,1,2,3,4,5,6,7,8,9,10,11,12,13,14,15,16,39,43,67,72,81,90,95,103,114,127,145,154,166,171,187] hK ?_;clear hK K)|(with_reducible refine .done (hK _ ?_);clear hK K)|refine ae.of rfl ?_|(with_reducible refine aF.aL (fun h =>?_) (fun h =>?_) <;>try simp only[h])) <;>try simp only[aN,R,simprocAttr])
   all_goals clear R
 ·have q2:¬ x.no.tmod 3=0:=by simpa using q1
  rw[hA,if_neg q2];have R:=y6 @hT1 (y6 @hS4 (y6 @hst (y6 @hat (y6 @hv (y6 @hf0 (y6 @q1 (y6 @gf (y6 @gh (y6 @eD (y6 @bE (y6 @bp (y6 @dX aK))))))))))))
  repeat' ((first |(with_reducible refine .guard (fun hb =>?_) (fun hb =>?_) <;>try simp only[hb])|refine ae.aM (by decide +kernel) rfl fun K hK =>?_|refine .flat _ (hF0) rfl ?_|(refine .aD [0,1,2,3,4,5,6,7,8,9,10,11,12,13,14,15,16,39,43,67,72,81,90,95,103,114,127,145,154,166,171,187] hK ?_;clear hK K)|(with_reducible refine .done (hK _ ?_);clear hK K)|refine ae.of rfl ?_|(with_reducible refine aF.aL (fun h =>?_) (fun h =>?_) <;>try simp only[h])) <;>try simp only[aN,R,simprocAttr])
  all_goals clear R
theorem Ho(w:ee)(x:fk)(aw:gD w)(hk:cH x.kind 10=2):bm Tryd.prog 11 [enc w,enc x] (.tuple [enc (dE w x).1,enc (dE w x).2]):=by
 refine bm.cg Tryd.func11 nP nR nT (u8 rfl) (fun hwf W0 bO E1 =>?_);simp only[mB,nf,bQ,zz1];clear hwf;have ar:=aw.gM;refine og _ _ w x ar.len (fun q =>?_);obtain ⟨ps,rs,bs⟩:=w;simp only at ar;have hmod:=iE x.je (m:=6) (by decide);have hm6:bz x<6:=by simp only[bz];omega
 have hi:bz x<ps.length:=by rw[ar.len];exact hm6
 have hl:=ar.len;have hF0:=jG x.kind 10 (by decide) (by decide);rw[hk] at hF0;simp only[lz,hl];have hT1:=jF (gb 20 [] 3 0 6) (de rs) (de bs);have hS4:=kL (gb 20 [] 3 0 6) (de rs) (de bs);have hst:=nB (q:=q) hi;have hat:=lC (q:=q) hi;have hv:=lP (n:=20) hm6;have hf0:=fun ts os=>iA (rs:=rs) (bs:=bs) (q:=q) hl ts os;have hf1:=fun (p:aW) ts os=>iA (rs:=rs) (bs:=bs) (q:=q) (lj hl (bz x) p) ts os;have hA:dE ⟨ps,rs,bs⟩ x=eH ⟨ps,rs,bs⟩ (bz x) ((iY (aS ps (bz x)) (er x) (cH x.to 6)).1,(iY (aS ps (bz x)) (er x) (cH x.to 6)).2.2) rs bs:=by simp only[dE,hk];rfl
 have hF:=vT (aS ps (bz x)) (er x) (cH x.to 6);rw[hA];simp only[eH];generalize iY (aS ps (bz x)) (er x) (cH x.to 6)=r at *;obtain ⟨p',cU,e⟩:=r;simp only at hF ⊢;have hKn:=nF e;rcases q3:(e==0)
 ·have q4:¬ e=0:=by simpa using q3
  rw[if_neg q4];have R:=y6 @hT1 (y6 @hS4 (y6 @hst (y6 @hat (y6 @hv (y6 @hf0 (y6 @q3 (y6 @gf (y6 @gh (y6 @eD (y6 @bE (y6 @bp (y6 @dX aK))))))))))))
  repeat' ((first |(with_reducible refine .guard (fun hb =>?_) (fun hb =>?_) <;>try simp only[hb])|refine ae.aM (by decide +kernel) rfl fun K hK =>?_|refine .flat _ (hF0) rfl ?_|refine .flat _ (hKn) rfl ?_|refine .lead _ (hF) ?_|(refine .aD [0,1,2,3,4,5,6,7,8,9,10,11,12,13,14,15,16,39,43,67,72,81,90,95,103,114,127,145,154,166,171,187] hK ?_;clear hK K)|(with_reducible refine .done (hK _ ?_);clear hK K)|refine ae.of rfl ?_|(with_reducible refine aF.aL (fun h =>?_) (fun h =>?_) <;>try simp only[h])) <;>try simp only[aN,R,simprocAttr])
  all_goals clear R
 ·have q4:e=0:=by simpa using q3
  rw[if_pos q4];have hf2:=hf1 p';have R:=y6 @hT1 (y6 @hS4 (y6 @hst (y6 @hat (y6 @hv (y6 @hf2 (y6 @q3 (y6 @gf (y6 @gh (y6 @eD (y6 @bE (y6 @bp (y6 @dX aK))))))))))))
  repeat' ((first |(with_reducible refine .guard (fun hb =>?_) (fun hb =>?_) <;>try simp only[hb])|refine ae.aM (by decide +kernel) rfl fun K hK =>?_|refine .flat _ (hF0) rfl ?_|refine .flat _ (hKn) rfl ?_|refine .lead _ (hF) ?_|(refine .aD [0,1,2,3,4,5,6,7,8,9,10,11,12,13,14,15,16,39,43,67,72,81,90,95,103,114,127,145,154,166,171,187] hK ?_;clear hK K)|(with_reducible refine .done (hK _ ?_);clear hK K)|refine ae.of rfl ?_|(with_reducible refine aF.aL (fun h =>?_) (fun h =>?_) <;>try simp only[h])) <;>try simp only[aN,R,simprocAttr])
  all_goals clear R
theorem Hp(w:ee)(x:fk)(aw:gD w)(hk:cH x.kind 10=3):bm Tryd.prog 11 [enc w,enc x] (.tuple [enc (dE w x).1,enc (dE w x).2]):=by
 refine bm.cg Tryd.func11 nP nR nT (u8 rfl) (fun hwf W0 bO E1 =>?_);simp only[mB,nf,bQ,zz1];clear hwf;have ar:=aw.gM;refine og _ _ w x ar.len (fun q =>?_);obtain ⟨ps,rs,bs⟩:=w;simp only at ar;have hmod:=iE x.je (m:=6) (by decide);have hm6:bz x<6:=by simp only[bz];omega
 have hi:bz x<ps.length:=by rw[ar.len];exact hm6
 have hl:=ar.len;have hF0:=jG x.kind 10 (by decide) (by decide);rw[hk] at hF0;simp only[lz,hl];have hT1:=jF (gb 20 [] 3 0 6) (de rs) (de bs);have hS4:=kL (gb 20 [] 3 0 6) (de rs) (de bs);have hst:=nB (q:=q) hi;have hat:=lC (q:=q) hi;have hv:=lP (n:=20) hm6;have hf0:=fun ts os=>iA (rs:=rs) (bs:=bs) (q:=q) hl ts os;have hf1:=fun (p:aW) ts os=>iA (rs:=rs) (bs:=bs) (q:=q) (lj hl (bz x) p) ts os;have hA:dE ⟨ps,rs,bs⟩ x=eH ⟨ps,rs,bs⟩ (bz x) ((iY (aS ps (bz x)) (er x) (cH x.to 6)).1,(iY (aS ps (bz x)) (er x) (cH x.to 6)).2.2) rs bs:=by simp only[dE,hk];rfl
 have hF:=vT (aS ps (bz x)) (er x) (cH x.to 6);rw[hA];simp only[eH];generalize iY (aS ps (bz x)) (er x) (cH x.to 6)=r at *;obtain ⟨p',cU,e⟩:=r;simp only at hF ⊢;have hKn:=nF e;rcases q3:(e==0)
 ·have q4:¬ e=0:=by simpa using q3
  rw[if_neg q4];have R:=y6 @hT1 (y6 @hS4 (y6 @hst (y6 @hat (y6 @hv (y6 @hf0 (y6 @q3 (y6 @gf (y6 @gh (y6 @eD (y6 @bE (y6 @bp (y6 @dX aK))))))))))))
  repeat' ((first |(with_reducible refine .guard (fun hb =>?_) (fun hb =>?_) <;>try simp only[hb])|refine ae.aM (by decide +kernel) rfl fun K hK =>?_|refine .flat _ (hF0) rfl ?_|refine .flat _ (hKn) rfl ?_|refine .lead _ (hF) ?_|(refine .aD [0,1,2,3,4,5,6,7,8,9,10,11,12,13,14,15,16,39,43,67,72,81,90,95,103,114,127,145,154,166,171,187] hK ?_;clear hK K)|(with_reducible refine .done (hK _ ?_);clear hK K)|refine ae.of rfl ?_|(with_reducible refine aF.aL (fun h =>?_) (fun h =>?_) <;>try simp only[h])) <;>try simp only[aN,R,simprocAttr])
  all_goals clear R
 ·have q4:e=0:=by simpa using q3
  rw[if_pos q4];have hf2:=hf1 p';have R:=y6 @hT1 (y6 @hS4 (y6 @hst (y6 @hat (y6 @hv (y6 @hf2 (y6 @q3 (y6 @gf (y6 @gh (y6 @eD (y6 @bE (y6 @bp (y6 @dX aK))))))))))))
  repeat' ((first |(with_reducible refine .guard (fun hb =>?_) (fun hb =>?_) <;>try simp only[hb])|refine ae.aM (by decide +kernel) rfl fun K hK =>?_|refine .flat _ (hF0) rfl ?_|refine .flat _ (hKn) rfl ?_|refine .lead _ (hF) ?_|(refine .aD [0,1,2,3,4,5,6,7,8,9,10,11,12,13,14,15,16,39,43,67,72,81,90,95,103,114,127,145,154,166,171,187] hK ?_;clear hK K)|(with_reducible refine .done (hK _ ?_);clear hK K)|refine ae.of rfl ?_|(with_reducible refine aF.aL (fun h =>?_) (fun h =>?_) <;>try simp only[h])) <;>try simp only[aN,R,simprocAttr])
  all_goals clear R
theorem Hq(w:ee)(x:fk)(aw:gD w)(hk:cH x.kind 10=5):bm Tryd.prog 11 [enc w,enc x] (.tuple [enc (dE w x).1,enc (dE w x).2]):=by
 refine bm.cg Tryd.func11 nP nR nT (u8 rfl) (fun hwf W0 bO E1 =>?_);simp only[mB,nf,bQ,zz1];clear hwf;have ar:=aw.gM;refine og _ _ w x ar.len (fun q =>?_);obtain ⟨ps,rs,bs⟩:=w;simp only at ar;have hmod:=iE x.je (m:=6) (by decide);have hm6:bz x<6:=by simp only[bz];omega
 have hi:bz x<ps.length:=by rw[ar.len];exact hm6
 have hl:=ar.len;have hF0:=jG x.kind 10 (by decide) (by decide);rw[hk] at hF0;simp only[lz,hl];have hT1:=jF (gb 20 [] 3 0 6) (de rs) (de bs);have hS4:=kL (gb 20 [] 3 0 6) (de rs) (de bs);have hst:=nB (q:=q) hi;have hat:=lC (q:=q) hi;have hv:=lP (n:=20) hm6;have hf0:=fun ts os=>iA (rs:=rs) (bs:=bs) (q:=q) hl ts os;have hf1:=fun (p:aW) ts os=>iA (rs:=rs) (bs:=bs) (q:=q) (lj hl (bz x) p) ts os;have hA:dE ⟨ps,rs,bs⟩ x=eH ⟨ps,rs,bs⟩ (bz x) (mF (aS ps (bz x)) x.no) rs bs:=by simp only[dE,hk];rfl
 have hF:=HC (aS ps (bz x)) x.no;rw[hA];simp only[eH];generalize mF (aS ps (bz x)) x.no=r at *;obtain ⟨p',e⟩:=r;simp only at hF ⊢;have hKn:=nF e;rcases q3:(e==0)
 ·have q4:¬ e=0:=by simpa using q3
  rw[if_neg q4];have R:=y6 @hT1 (y6 @hS4 (y6 @hst (y6 @hat (y6 @hv (y6 @hf0 (y6 @q3 (y6 @gf (y6 @gh (y6 @eD (y6 @bE (y6 @bp (y6 @dX aK))))))))))))
  repeat' ((first |(with_reducible refine .guard (fun hb =>?_) (fun hb =>?_) <;>try simp only[hb])|refine ae.aM (by decide +kernel) rfl fun K hK =>?_|refine .flat _ (hF0) rfl ?_|refine .flat _ (hKn) rfl ?_|refine .lead _ (hF) ?_|(refine .aD [0,1,2,3,4,5,6,7,8,9,10,11,12,13,14,15,16,39,43,67,72,81,90,95,103,114,127,145,154,166,171,187] hK ?_;clear hK K)|(with_reducible refine .done (hK _ ?_);clear hK K)|refine ae.of rfl ?_|(with_reducible refine aF.aL (fun h =>?_) (fun h =>?_) <;>try simp only[h])) <;>try simp only[aN,R,simprocAttr])
  all_goals clear R
 ·have q4:e=0:=by simpa using q3
  rw[if_pos q4];have hf2:=hf1 p';have R:=y6 @hT1 (y6 @hS4 (y6 @hst (y6 @hat (y6 @hv (y6 @hf2 (y6 @q3 (y6 @gf (y6 @gh (y6 @eD (y6 @bE (y6 @bp (y6 @dX aK))))))))))))
  repeat' ((first |(with_reducible refine .guard (fun hb =>?_) (fun hb =>?_) <;>try simp only[hb])|refine ae.aM (by decide +kernel) rfl fun K hK =>?_|refine .flat _ (hF0) rfl ?_|refine .flat _ (hKn) rfl ?_|refine .lead _ (hF) ?_|(refine .aD [0,1,2,3,4,5,6,7,8,9,10,11,12,13,14,15,16,39,43,67,72,81,90,95,103,114,127,145,154,166,171,187] hK ?_;clear hK K)|(with_reducible refine .done (hK _ ?_);clear hK K)|refine ae.of rfl ?_|(with_reducible refine aF.aL (fun h =>?_) (fun h =>?_) <;>try simp only[h])) <;>try simp only[aN,R,simprocAttr])
  all_goals clear R
theorem Zy{p:aW}{s:az}(h:cK p=some s):(iX p).1.length≤200∧(iX p).2=0:=by
 have:=ym h;simp only[iX,h,nq,zz7,GP,az.bu,and_true];exact this
theorem Hr(w:ee)(x:fk)(aw:gD w)(hk:cH x.kind 10=4):bm Tryd.prog 11 [enc w,enc x] (.tuple [enc (dE w x).1,enc (dE w x).2]):=by
 refine bm.cg Tryd.func11 nP nR nT (u8 rfl) (fun hwf W0 bO E1 =>?_);simp only[mB,nf,bQ,zz1];clear hwf;have ar:=aw.gM;refine og _ _ w x ar.len (fun q =>?_);obtain ⟨ps,rs,bs⟩:=w;simp only at ar;have hmod:=iE x.je (m:=6) (by decide);have hm6:bz x<6:=by simp only[bz];omega
 have hi:bz x<ps.length:=by rw[ar.len];exact hm6
 have hl:=ar.len;have hF0:=jG x.kind 10 (by decide) (by decide);rw[hk] at hF0;simp only[lz,hl];have hT1:=jF (gb 20 [] 3 0 6) (de rs) (de bs);have hS4:=kL (gb 20 [] 3 0 6) (de rs) (de bs);have hst:=nB (q:=q) hi;have hat:=lC (q:=q) hi;have hv:=lP (n:=20) hm6;have hf0:=fun ts os=>iA (rs:=rs) (bs:=bs) (q:=q) hl ts os;have hf1:=fun (p:aW) ts os=>iA (rs:=rs) (bs:=bs) (q:=q) (lj hl (bz x) p) ts os;have hA:dE ⟨ps,rs,bs⟩ x=if (iX (aS ps (bz x))).1=[] then (⟨ps,rs,bs⟩,true) else
  eH ⟨ps,rs,bs⟩ (bz x) (nQ (aS ps (bz x)) ((iX (aS ps (bz x))).1.getD (cH x.no (iX (aS ps (bz x))).1.length).toNat default).no) rs bs:=by simp only[dE,hk];rfl
 have hR:=zD (aS ps (bz x));obtain ⟨l1,l2⟩:=Zy (ar.val _ hm6);rw[l2] at hR;rw[hA];generalize (iX (aS ps (bz x))).1=l at *;have hn0:((0:Int) != 0)=false:=rfl;have hn1:((0:Int)==0)=true:=rfl;by_cases hl0:l=[]
 ·rw[if_pos hl0];have hc:((l.length:Int)==0)=true:=by rw[hl0];rfl
  have R:=y6 @hT1 (y6 @hS4 (y6 @hst (y6 @hat (y6 @hv (y6 @hf0 (y6 @hn0 (y6 @hn1 (y6 @hc (y6 @gf (y6 @gh (y6 @eD (y6 @bE (y6 @bp (y6 @dX aK))))))))))))))
  repeat' ((first |(with_reducible refine .guard (fun hb =>?_) (fun hb =>?_) <;>try simp only[hb])|refine ae.aM (by decide +kernel) rfl fun K hK =>?_|refine .flat _ (hF0) rfl ?_|refine .lead _ (hR) ?_|(refine .aD [0,1,2,3,4,5,6,7,8,9,10,11,12,13,14,15,16,39,43,67,72,81,90,95,103,114,127,145,154,166,171,187] hK ?_;clear hK K)|(with_reducible refine .done (hK _ ?_);clear hK K)|refine ae.of rfl ?_|(with_reducible refine aF.aL (fun h =>?_) (fun h =>?_) <;>try simp only[h])) <;>try simp only[aN,R,simprocAttr])
  all_goals clear R
 ·rw[if_neg hl0];have hlp:=List.length_pos_iff.2 hl0;have hc:((l.length:Int)==0)=false:=beq_eq_false_iff_ne.2 (by omega);have hi2:=iE x.no (m:=l.length) (by omega);have hF2:=jG x.no l.length (by omega) (by omega);obtain ⟨i,hi3⟩:∃ i:Nat,cH x.no l.length=(i:Int):=⟨(cH x.no l.length).toNat,by omega⟩
  rw[hi3] at hF2 hi2;rw[hi3,Int.toNat_natCast];have hil:i<l.length:=by omega
  have he:=fun A=>fT (A:=A) 4 hil rfl;rw[show l.getD i default=l[i] by rw[zz0,zx0 hil];rfl];generalize l[i]=cU at *;have hF:=HA (aS ps (bz x)) cU.no;simp only[eH];generalize nQ (aS ps (bz x)) cU.no=r at *;obtain ⟨p',e⟩:=r;simp only at hF ⊢;have hKn:=nF e;rcases q3:(e==0)
  ·have q4:¬ e=0:=by simpa using q3
   rw[if_neg q4];have R:=y6 @hT1 (y6 @hS4 (y6 @hst (y6 @hat (y6 @hv (y6 @hf0 (y6 @hn0 (y6 @hn1 (y6 @hc (y6 @he (y6 @q3 (y6 @gf (y6 @gh (y6 @eD (y6 @bE (y6 @bp (y6 @dX aK))))))))))))))))
   repeat' ((first |(with_reducible refine .guard (fun hb =>?_) (fun hb =>?_) <;>try simp only[hb])|refine ae.aM (by decide +kernel) rfl fun K hK =>?_|refine .flat _ (hF0) rfl ?_|refine .flat _ (hF2) rfl ?_|refine .flat _ (hKn) rfl ?_|refine .lead _ (hR) ?_|refine .lead _ (hF) ?_|(refine .aD [0,1,2,3,4,5,6,7,8,9,10,11,12,13,14,15,16,39,43,67,72,81,90,95,103,114,127,145,154,166,171,187] hK ?_;clear hK K)|(with_reducible refine .done (hK _ ?_);clear hK K)|refine ae.of rfl ?_|(with_reducible refine aF.aL (fun h =>?_) (fun h =>?_) <;>try simp only[h])) <;>try simp only[aN,R,simprocAttr])
   all_goals clear R
  ·have q4:e=0:=by simpa using q3
   rw[if_pos q4];have hf2:=hf1 p';have R:=y6 @hT1 (y6 @hS4 (y6 @hst (y6 @hat (y6 @hv (y6 @hf2 (y6 @hn0 (y6 @hn1 (y6 @hc (y6 @he (y6 @q3 (y6 @gf (y6 @gh (y6 @eD (y6 @bE (y6 @bp (y6 @dX aK))))))))))))))))
   repeat' ((first |(with_reducible refine .guard (fun hb =>?_) (fun hb =>?_) <;>try simp only[hb])|refine ae.aM (by decide +kernel) rfl fun K hK =>?_|refine .flat _ (hF0) rfl ?_|refine .flat _ (hF2) rfl ?_|refine .flat _ (hKn) rfl ?_|refine .lead _ (hR) ?_|refine .lead _ (hF) ?_|(refine .aD [0,1,2,3,4,5,6,7,8,9,10,11,12,13,14,15,16,39,43,67,72,81,90,95,103,114,127,145,154,166,171,187] hK ?_;clear hK K)|(with_reducible refine .done (hK _ ?_);clear hK K)|refine ae.of rfl ?_|(with_reducible refine aF.aL (fun h =>?_) (fun h =>?_) <;>try simp only[h])) <;>try simp only[aN,R,simprocAttr])
   all_goals clear R
theorem Hs(w:ee)(x:fk)(aw:gD w)(hr1:w.rs.length≤1000000)(hk:7≤cH x.kind 10):bm Tryd.prog 11 [enc w,enc x] (.tuple [enc (dE w x).1,enc (dE w x).2]):=by
 refine bm.cg Tryd.func11 nP nR nT (u8 rfl) (fun hwf W0 bO E1 =>?_);simp only[mB,nf,bQ,zz1];clear hwf;have ar:=aw.gM;refine og _ _ w x ar.len (fun q =>?_);obtain ⟨ps,rs,bs⟩:=w;simp only at ar;have hmod:=iE x.je (m:=6) (by decide);have hm6:bz x<6:=by simp only[bz];omega
 have hi:bz x<ps.length:=by rw[ar.len];exact hm6
 have hl:=ar.len;have hF0:=jG x.kind 10 (by decide) (by decide);simp only[lz,hl];have hT1:=jF (gb 20 [] 3 0 6) (de rs) (de bs);have hS4:=kL (gb 20 [] 3 0 6) (de rs) (de bs);have hst:=nB (q:=q) hi;have hat:=lC (q:=q) hi;have hv:=lP (n:=20) hm6;have hf0:=fun ts os=>iA (rs:=rs) (bs:=bs) (q:=q) hl ts os;have hf1:=fun (p:aW) ts os=>iA (rs:=rs) (bs:=bs) (q:=q) (lj hl (bz x) p) ts os;have e0:(cH x.kind 10==0)=false:=beq_eq_false_iff_ne.2 (by omega);have e1:(cH x.kind 10==1)=false:=beq_eq_false_iff_ne.2 (by omega);have e2:(cH x.kind 10==2)=false:=beq_eq_false_iff_ne.2 (by omega);have e3:(cH x.kind 10==3)=false:=beq_eq_false_iff_ne.2 (by omega);have e4:(cH x.kind 10==4)=false:=beq_eq_false_iff_ne.2 (by omega);have e5:(cH x.kind 10==5)=false:=beq_eq_false_iff_ne.2 (by omega);have e6:(cH x.kind 10==6)=false:=beq_eq_false_iff_ne.2 (by omega);have hA:dE ⟨ps,rs,bs⟩ x=if rs=[] then (⟨ps,rs,bs⟩,true) else
  eH ⟨ps,rs,bs⟩ (rs.getD (cH x.no rs.length).toNat default).to.toNat (iN (aS ps (rs.getD (cH x.no rs.length).toNat default).to.toNat) (rs.getD (cH x.no rs.length).toNat default)) rs bs:=by
  simp only[dE];rw[if_neg (by omega),if_neg (by omega),if_neg (by omega),if_neg (by omega),if_neg (by omega),if_neg (by omega)]
 rw[hA];clear hA;generalize cH x.kind 10=k0 at *;by_cases hl0:rs=[]
 ·rw[if_pos hl0];have hc:((rs.length:Int)==0)=true:=by rw[hl0];rfl
  have R:=y6 @hT1 (y6 @hS4 (y6 @hst (y6 @hat (y6 @hv (y6 @hf0 (y6 @hc (y6 @e0 (y6 @e1 (y6 @e2 (y6 @e3 (y6 @e4 (y6 @e5 (y6 @e6 (y6 @gf (y6 @gh (y6 @eD (y6 @bE (y6 @bp (y6 @dX aK)))))))))))))))))))
  repeat' ((first |(with_reducible refine .guard (fun hb =>?_) (fun hb =>?_) <;>try simp only[hb])|refine ae.aM (by decide +kernel) rfl fun K hK =>?_|refine .flat _ (hF0) rfl ?_|(refine .aD [0,1,2,3,4,5,6,7,8,9,10,11,12,13,14,15,16,39,43,67,72,81,90,95,103,114,127,145,154,166,171,187] hK ?_;clear hK K)|(with_reducible refine .done (hK _ ?_);clear hK K)|refine ae.of rfl ?_|(with_reducible refine aF.aL (fun h =>?_) (fun h =>?_) <;>try simp only[h])) <;>try simp only[aN,R,simprocAttr])
  all_goals clear R
 ·rw[if_neg hl0];have hlp:=List.length_pos_iff.2 hl0;simp only at hr1;have hc:((rs.length:Int)==0)=false:=beq_eq_false_iff_ne.2 (by omega);have hi2:=iE x.no (m:=rs.length) (by omega);have hF2:=jG x.no rs.length (by omega) (by omega);obtain ⟨i,hi3⟩:∃ i:Nat,cH x.no rs.length=(i:Int):=⟨(cH x.no rs.length).toNat,by omega⟩
  rw[hi3] at hF2 hi2;rw[hi3,Int.toNat_natCast];have hil:i<rs.length:=by omega
  have he:=fun A=>fT (A:=A) 5 hil rfl;have hrm:=aw.rl _ (zw7 hil);rw[show rs.getD i default=rs[i] by rw[zz0,zx0 hil];rfl];generalize rs[i]=r at *;obtain ⟨_,_,hto,_⟩:=u3 hrm.ok;obtain ⟨m2,hm2⟩:∃ m2:Nat,r.to=(m2:Int):=⟨r.to.toNat,by omega⟩
  rw[hm2,Int.toNat_natCast];have hj:m2<6:=by omega
  have hst2:=nB (q:=q) (show m2<ps.length by omega);have hat2:=lC (q:=q) (show m2<ps.length by omega);have hv2:=lP (n:=20) hj;have hf3:=fun (p:aW) ts os=>iA (rs:=rs) (bs:=bs) (q:=q) (lj hl m2 p) ts os;have hF:=vU (aS ps m2) r;have hse:∀ A n b rest x y z v u,da A (some 5) n [] b (enc r) rest (some (.agg [.int .i64 x,.int .i64 y,.int .i64 z,.int .i64 v,.int .i64 u]))=aA rest (A.aV n (.box (enc r))):=fun A n b rest x y z v u=>dS (eF _) (by rw[fB];rfl) (fg _);simp only[eH];generalize iN (aS ps m2) r=rr at *;obtain ⟨p',e⟩:=rr;simp only at hF ⊢;have hKn:=nF e;rcases q3:(e==0)
  ·have q4:¬ e=0:=by simpa using q3
   rw[if_neg q4];have R:=y6 @hT1 (y6 @hS4 (y6 @hst (y6 @hat (y6 @hv (y6 @hst2 (y6 @hat2 (y6 @hv2 (y6 @hf0 (y6 @hc (y6 @he (y6 @hm2 (y6 @hse (y6 @e0 (y6 @e1 (y6 @e2 (y6 @e3 (y6 @e4 (y6 @e5 (y6 @e6 (y6 @q3 (y6 @gf (y6 @gh (y6 @eD (y6 @bE (y6 @bp (y6 @dX aK))))))))))))))))))))))))))
   repeat' ((first |(with_reducible refine .guard (fun hb =>?_) (fun hb =>?_) <;>try simp only[hb])|refine ae.aM (by decide +kernel) rfl fun K hK =>?_|refine .flat _ (hF0) rfl ?_|refine .flat _ (hF2) rfl ?_|refine .flat _ (hKn) rfl ?_|refine .lead _ (hF) ?_|(refine .aD [0,1,2,3,4,5,6,7,8,9,10,11,12,13,14,15,16,39,43,67,72,81,90,95,103,114,127,145,154,166,171,187] hK ?_;clear hK K)|(with_reducible refine .done (hK _ ?_);clear hK K)|refine ae.of rfl ?_|(with_reducible refine aF.aL (fun h =>?_) (fun h =>?_) <;>try simp only[h])) <;>try simp only[aN,R,simprocAttr])
   all_goals clear R
  ·have q4:e=0:=by simpa using q3
   rw[if_pos q4];have hf2:=hf3 p';have R:=y6 @hT1 (y6 @hS4 (y6 @hst (y6 @hat (y6 @hv (y6 @hst2 (y6 @hat2 (y6 @hv2 (y6 @hf2 (y6 @hc (y6 @he (y6 @hm2 (y6 @hse (y6 @e0 (y6 @e1 (y6 @e2 (y6 @e3 (y6 @e4 (y6 @e5 (y6 @e6 (y6 @q3 (y6 @gf (y6 @gh (y6 @eD (y6 @bE (y6 @bp (y6 @dX aK))))))))))))))))))))))))))
   repeat' ((first |(with_reducible refine .guard (fun hb =>?_) (fun hb =>?_) <;>try simp only[hb])|refine ae.aM (by decide +kernel) rfl fun K hK =>?_|refine .flat _ (hF0) rfl ?_|refine .flat _ (hF2) rfl ?_|refine .flat _ (hKn) rfl ?_|refine .lead _ (hF) ?_|(refine .aD [0,1,2,3,4,5,6,7,8,9,10,11,12,13,14,15,16,39,43,67,72,81,90,95,103,114,127,145,154,166,171,187] hK ?_;clear hK K)|(with_reducible refine .done (hK _ ?_);clear hK K)|refine ae.of rfl ?_|(with_reducible refine aF.aL (fun h =>?_) (fun h =>?_) <;>try simp only[h])) <;>try simp only[aN,R,simprocAttr])
   all_goals clear R
end Go.Proofs.YthbdbocionnfgaaDoor
