/-
  A part of the proof that the law RollScans returns true for every input; five variables of Go's library start as the text lays them (the card ties them); conditions: none beyond the statement's own. (part 5 of 6)
-/
import Derived.ChangeArms
import Derived.Test.YtoffnnjbplgnaaaGreatDoorRows
import Derived.Test.YtoffnnjbplgnaaaGreatDoorCards
import Derived.Test.YtoffnnjbplgnaaaGreatDoorTie
import Derived.LaidMore
import Derived.MakeChecks
import Derived.Lib.LaidTab
import Derived.Lib.LaidU8
import Derived.HandedShaped
import Derived.Shelf.Vars
import Derived.Shelf.SlSortCmp.WholeK
import Derived.Shelf.SlSortCmp.NoneTotal
import Derived.Shelf.Small.Wraps
import Derived.WalkKit
import Derived.Lib.RowBridge
import Derived.Lib.SortBridge
import Derived.Test.YtoffnnjbplgnaaaGreatDoorNad
set_option linter.unusedSimpArgs false
set_option linter.unusedVariables false
set_option maxHeartbeats 16000000
set_option maxRecDepth 100000
namespace Go.Proofs.YtoffnnjbplgnaaaGreatDoor
open Go Go.Abs
open Go.Abs.Enc (enc)
theorem Dd{out:List ai}{s:Int}{z:Nat}{x:List UInt8}{au:List (List UInt8)}(h:dA bf s x=none):fX (dA bf) dc out s z (x::au)=(out,z):=by rw[fX,h]
theorem De{out:List ai}{s:Int}{z:Nat}{x:List UInt8}{au:List (List UInt8)}{q:ai×Int}(h:dA bf s x=some q):fX (dA bf) dc out s z (x::au)=if dc out q.1=true then fX (dA bf) dc (out++[q.1]) q.2 (z+x.length) au else (out,z):=by rw[fX,h]
structure nf (t:List UInt8) (k:Nat) (out:List ai) (s:Int) (z:Nat):Prop where
 eq:fX (dA bf) dc [] 1 0 (dj t)=fX (dA bf) dc out s z ((dj t).drop k)
 sum:0≤s∧s<1000003
 ok:∀ r∈out,bf r=true
 len:out.length≤60
 size:z+(ed k t).length=t.length
structure km (t:List UInt8) (out:List ai) (z:Nat):Prop where
 eq:fX (dA bf) dc [] 1 0 (dj t)=(out,z)
 len:out.length≤60
 size:z≤t.length
theorem CM{t:List UInt8}{k:Nat}(hk:k<(dj t).length):∃ w v,cE 10 (ed k t)=some (w,v)∧(dj t)[k]=w++[10]∧ed (k+1) t=v∧ed k t=w++10::v:=by
 have hrd:=oa (Nat.le_of_lt hk);cases h:cE 10 (ed k t) with
 |none=>rw[rN h] at hrd;have:=congrArg List.length hrd;simp at this;omega
 |some p =>
  obtain ⟨w,v⟩:=p;refine ⟨w,v,rfl,?_,vF h,(nv h).1⟩;rw[pA h,List.drop_eq_getElem_cons hk] at hrd;exact (List.cons.inj hrd).1.symm
theorem vu(t:List UInt8):nf t 0 [] 1 0:=⟨rfl,by omega,by simp,by simp,by simp[ed]⟩
theorem VS{t:List UInt8}{out:List ai}{s:Int}{z:Nat}(h:nf t (dj t).length out s z):km t out z :=
 ⟨by rw[h.eq,List.drop_length,fX],h.len,by have:=h.size;omega⟩
theorem nE{t:List UInt8}{out:List ai}{z:Nat}(h:km t out z):gJ bf dc t=(out,t.take z):=by rw[gJ,h.eq]
theorem AW{out:List ai}{r:ai}(h:dc out r=true):out.length<60:=by
 simp only[dc,Z0,decide_eq_true_eq] at h;exact h.1
theorem s8(t:List UInt8)(ht:t.length≤281474976710656):aQ Tryz.prog 15 [enc (aj.of t)] (.tuple [enc (gJ bf dc t).1,enc (aj.of (gJ bf dc t).2)]):=by
 refine aQ.bM Tryz.func15 Gp Hz IQ (t8 rfl) (fun hwf W0 bF E1 =>?_);simp only[xI,BR,bB];clear hwf;have h69:=EC t;have R:=y6 @qh (y6 @bg aD)
 repeat' ((first |(with_reducible refine .guard (fun hb =>?_) (fun hb =>?_) <;>try simp only[hb])|refine U.aG (by decide +kernel) rfl fun K hK =>?_|(refine .aE [0,2,3,4,5,6,7,8,9,10,12,13,28] hK ?_;clear hK K)|(with_reducible refine .done (hK _ ?_);clear hK K)|refine U.of rfl ?_|(with_reducible refine aw.aF (fun h =>?_) (fun h =>?_) <;>try simp only[h])) <;>try simp only[aH,R,simprocAttr])
 all_goals clear R
 refine .bx false [] [] [enc (aj.of t)] _ rfl h69 ⟨fun m y hy=>by simp[aJ] at hy,fun m m' h=>by simp[aB,aJ] at h⟩ ⟨.inl ⟨(iE _ _).symm,bG _ _,fe _⟩,trivial⟩ ?_ ?_
 ·rintro r os' ⟨rfl,rfl⟩;refine ⟨fun m y hy =>?_,fun m m' _ _ h=>h,fun m hm=>by simp[aB,aJ] at hm,fun m hm _ =>?_,⟨rfl,fun h=>by cases h⟩⟩
  ·simp only[aJ] at hy;split at hy
   ·cases hy;exact ⟨bG _ _,rfl,fun h=>by cases h⟩
   ·cases hy
  ·simp only[aB,aJ] at hm;split at hm
   ·rename_i e;subst e;exact ⟨rfl,by decide⟩
   ·simp at hm
 rintro r os' ⟨rfl,rfl⟩
 try simp only[cX,Z4,Y9,ah.aR,iE,bp,I.aR,I.cS,Y3,X3,aZ,simprocAttr]
 refine .done (hK _ ?_);clear hK K;refine U.sub (bw.E0 4 80 50 8 8 [] _ rfl rfl rfl (B:=ay [(0,enc (aj.of t)),(4,.ptr 4 []),(5,.ptr 5 []),(6,.ptr 6 []),(12,.func 122 [.ptr 1 []])] [(4,.box (.own 80 0)),(80,.bC 50 8 []),(1,.box (enc (aj.of t))),(5,.box (.int .i64 1)),(6,.box (.int .i64 0))]) ?_) ?_
 ·simp only[fi];refine bw.cK ?_ ?_ ?_ ?_ <;>simp[cj,cn,cm,bQ,aB,cg,dR,I.only,I.cF,ah.only,bG]
 refine U.block (U.Wx (osb0:=dw t [] 1 0) (tsR:=[(4,.ptr 1000004 []),(5,.ptr 1000005 []),(6,.ptr 1000006 [])]) (ρ:=[(1999999,999999),(1000001,1),(1000004,4),(1000080,80),(1000005,5),(1000006,6)]) (g:=122) (caps0:=[.ptr 1 []]) (caps:=[.ptr 1000001 []]) (N:=(dj t).length) (item:=nL t)
  (rC t (nf t)) (rD t (nf t)) (pn (km t)) ⟨rfl,rfl⟩ (t8 rfl) (by simp only[aZ,simprocAttr]) (by simp[I.aR,bp]) ?_ yz (Uh ht (vu t)) (fun _=>rfl) rfl rfl rfl (fun o=>⟨?_,?_⟩) ?_ ?_ ?_ ?_ ?_ ?_ ?_)
 ·intro x hx;simp only[List.mem_singleton] at hx;subst hx;exact ⟨rfl,rfl⟩
 ·intro n x hx;simp only[bL,dw,aJ] at hx
  repeat' split at hx
  all_goals first | (cases hx;done) | (subst_vars;simp only[v6] at hx;subst hx;simp[bL,dw,aB,bp,aJ,ah.aR,I.aR,I.cS,iE,ah.only,I.only,I.cF,bG,ah.ef])
 ·intro a b ha hb;simp only[bL,dw,aB,aJ] at ha hb
  repeat' split at ha
  all_goals first | (simp at ha;done) | skip
  all_goals (repeat' split at hb)
  all_goals first | (simp at hb;done) | (subst_vars;simp[bp])
 ·simp[lQ,cg,I.aR,bp,I.only,dw,aB,aJ]
 ·rintro k os ⟨out,s,z,rfl,_⟩;exact mS ..
 ·rintro e os ⟨_,u,out,s,z,rfl,_⟩;exact mS ..
 ·exact ⟨[],1,0,rfl,vu t⟩
 ·rintro k osb hk ⟨out,s,z,rfl,hP⟩ W1 D1 E1 Xx o1 o2;obtain ⟨w,v,hcut,hL,hnext,hrest⟩:=CM hk;have jv:nL t k=[enc (aj.of (w++[10]))]:=by
   rw[nL,Y7,Y8 hk,Option.getD_some,hL]
  have hdrop:(dj t).drop k=(w++[10])::(dj t).drop (k+1):=by rw[List.drop_eq_getElem_cons hk,hL]
  have hsz:=hP.size;rw[hrest] at hsz;have hll:(w++[10]).length+v.length=(w++10::v).length:=by simp;omega
  generalize hx:w++[10]=line at jv hdrop hll;have hlen:z+line.length+v.length=t.length:=by omega
  have h70:=wP hP.sum (t:=line) (by omega);have hlt:=kX line;have hwz:IntKind.i64.wrap ((z:Int)+(line.length:Int))=((z+line.length:Nat):Int):=by rw[dB _ (by omega) (by omega)];rfl
  have hfo:jV out.length (some (.bC 50 8 (out.map enc)))=some (enc out):=o8 8 rfl rfl;have hpe:=hP.eq;rw[hdrop] at hpe;generalize hu:ed k t=u at *;rw[jv];simp only[sk,bL,dw];have R:=y6 @bg aD
  repeat' ((first |(with_reducible refine .guard (fun hb =>?_) (fun hb =>?_) <;>try simp only[hb])|refine U.aG (by decide +kernel) rfl fun K hK =>?_|(refine .aE [0,2,3,4,5,6,7,8,9,10,12,13,28] hK ?_;clear hK K)|(with_reducible refine .done (hK _ ?_);clear hK K)|refine U.of rfl ?_|(with_reducible refine aw.aF (fun h =>?_) (fun h =>?_) <;>try simp only[h])) <;>try simp only[aH,R,simprocAttr])
  all_goals clear R
  refine ⟨by simp[],?_⟩;have stop:fX (dA bf) dc [] 1 0 (dj t)=(out,z)→∀ ts z1 z2 z3,CQ o2 (rD t (nf t) k) (pn (km t)) (.exit 0)
    (ay ts ([(8,z1),(8,z2),(1999999,.c8 o2),(1999999,z3)]++dw u out s z)):=fun h ts z1 z2 z3=>by
   refine ⟨dw u out s z,?_,rfl,u,out,s,z,rfl,h,hP.len,by omega⟩;intro n x hx;simp only[bL,dw,aJ] at hx
   (repeat' split at hx) <;>first
    |(cases hx;done)
    |(subst_vars;simp only[v6] at hx;subst hx;simp[bL,dw,aB,ay,aJ,ah.only,I.only,bG,ah.ef,mw])
  cases hq:dA bf s line with
  |none =>
   rw[gH,hq,ki] at h70;rw[Dd hq] at hpe;have R:=y6 @ec (y6 @dI (y6 @bg aD))
   repeat' ((first |(with_reducible refine .guard (fun hb =>?_) (fun hb =>?_) <;>try simp only[hb])|refine U.aG (by decide +kernel) rfl fun K hK =>?_|refine .lead _ (h70) ?_|(refine .aE [0,2,3,4,5,6,7,8,9,10,12,13,28] hK ?_;clear hK K)|(with_reducible refine .done (hK _ ?_);clear hK K)|refine U.of rfl ?_|(with_reducible refine aw.aF (fun h =>?_) (fun h =>?_) <;>try simp only[h])) <;>try simp only[aH,R,simprocAttr])
   all_goals clear R
   exact stop hpe _ _ _ _
  |some q =>
   obtain ⟨r,n⟩:=q;obtain ⟨hok,_,hns⟩:=vB bf hq;simp only at hok hns;rw[gH,hq,ki] at h70;rw[De hq] at hpe;simp only at hpe;have h71:=wQ out r (by have:=hP.len;omega) (fun q hq=>lH (hP.ok q hq)) (lH hok);cases hn:dc out r
   ·rw[hn] at h71 hpe;rw[if_neg (by decide)] at hpe;have R:=y6 @hfo (y6 @ec (y6 @dI (y6 @bg aD)))
    repeat' ((first |(with_reducible refine .guard (fun hb =>?_) (fun hb =>?_) <;>try simp only[hb])|refine U.aG (by decide +kernel) rfl fun K hK =>?_|refine .lead _ (h70) ?_|refine .flat _ (h71) rfl ?_|(refine .aE [0,2,3,4,5,6,7,8,9,10,12,13,28] hK ?_;clear hK K)|(with_reducible refine .done (hK _ ?_);clear hK K)|refine U.of rfl ?_|(with_reducible refine aw.aF (fun h =>?_) (fun h =>?_) <;>try simp only[h])) <;>try simp only[aH,R,simprocAttr])
    all_goals clear R
    exact stop hpe _ _ _ _
   ·have hol:=AW hn;rw[hn] at h71 hpe;rw[if_pos rfl] at hpe;have stOwn:∀ (A:ab) n b m k m' k' rest,er A none n [] b (.own m k) rest (some (.own m' k'))=ao rest (A.aP n (.box (.own m k))) :=
     fun _ _ _ m k m' k' _=>by rw[fj (s:=none) (v:=.own m k) (old:=.own m' k') rfl rfl rfl,fi]
    have hbs:gw 8 (some [enc r])=some (enc [r]):=oO 8 r rfl;have hap:=fun (A:ab) d rest=>w9 (A:=A) (d:=d) 50 8 72 1000080 (l:=out.length) (es:=out) (ys:=[r]) (rest:=rest) rfl rfl (by simp) (by simp[maxLen];omega) (by simp;omega);have R:=y6 @hfo (y6 @hbs (y6 @hap (y6 @stOwn (y6 @hlt (y6 @hwz (y6 @ec (y6 @dI (y6 @qh (y6 @bg aD)))))))))
    repeat' ((first |(with_reducible refine .guard (fun hb =>?_) (fun hb =>?_) <;>try simp only[hb])|refine U.aG (by decide +kernel) rfl fun K hK =>?_|refine .lead _ (h70) ?_|refine .flat _ (h71) rfl ?_|(refine .aE [0,2,3,4,5,6,7,8,9,10,12,13,28] hK ?_;clear hK K)|(with_reducible refine .done (hK _ ?_);clear hK K)|refine U.of rfl ?_|(with_reducible refine aw.aF (fun h =>?_) (fun h =>?_) <;>try simp only[h])) <;>try simp only[aH,R,simprocAttr])
    all_goals clear R
    refine ⟨dw u (out++[r]) n (z+line.length),?_,out++[r],n,z+line.length,by rw[hu],⟨hpe,?_,?_,?_,?_⟩⟩
    ·intro n x hx;simp only[bL,dw,aJ] at hx
     (repeat' split at hx) <;>first
      |(cases hx;done)
      |(subst_vars;simp only[v6] at hx;subst hx;simp[bL,dw,aB,ay,aJ,ah.only,I.only,bG,ah.ef,mw,-List.map_append])
    ·rw[hns];exact lR hP.sum _
    ·intro q hq;rcases zz2.1 hq with h1 | h1
     ·exact hP.ok q h1
     ·rw[List.mem_singleton.1 h1];exact hok
    ·simp;omega
    ·rw[hnext];exact hlen
 ·rintro os ⟨out,s,z,rfl,hP⟩;have hF:=VS hP;have hfo:jV out.length (some (.bC 50 8 (out.map enc)))=some (enc out):=o8 8 rfl rfl;have hsh:=oi (aj.of t) (j:=z) (by rw[aj.c6];exact hF.size);rw[aj.c6] at hsh;rw[nE hF];simp only[dw,cX,Z4,Y9,bp,ah.aR,I.aR,iE,mG,cP,kC,reduceIte,Nat.reduceEqDiff,Y3,X3];have R:=y6 @hfo (y6 @hsh (y6 @bg aD))
  repeat' ((first |(with_reducible refine .guard (fun hb =>?_) (fun hb =>?_) <;>try simp only[hb])|refine U.aG (by decide +kernel) rfl fun K hK =>?_|(refine .aE [0,2,3,4,5,6,7,8,9,10,12,13,28] hK ?_;clear hK K)|(with_reducible refine .done (hK _ ?_);clear hK K)|refine U.of rfl ?_|(with_reducible refine aw.aF (fun h =>?_) (fun h =>?_) <;>try simp only[h])) <;>try simp only[aH,R,simprocAttr])
  all_goals clear R
  all_goals rfl
 ·rintro e os ⟨rfl,u,out,s,z,rfl,hF⟩;have hfo:jV out.length (some (.bC 50 8 (out.map enc)))=some (enc out):=o8 8 rfl rfl;have hsh:=oi (aj.of t) (j:=z) (by rw[aj.c6];exact hF.size);rw[aj.c6] at hsh;rw[nE hF];simp only[dw,cX,Z4,Y9,bp,ah.aR,I.aR,iE,mG,ug,cP,kC,reduceIte,Nat.reduceEqDiff,Y3,X3];have R:=y6 @hfo (y6 @hsh (y6 @bg aD))
  repeat' ((first |(with_reducible refine .guard (fun hb =>?_) (fun hb =>?_) <;>try simp only[hb])|refine U.aG (by decide +kernel) rfl fun K hK =>?_|(refine .aE [0,2,3,4,5,6,7,8,9,10,12,13,28] hK ?_;clear hK K)|(with_reducible refine .done (hK _ ?_);clear hK K)|refine U.of rfl ?_|(with_reducible refine aw.aF (fun h =>?_) (fun h =>?_) <;>try simp only[h])) <;>try simp only[aH,R,simprocAttr])
  all_goals clear R
  all_goals rfl
theorem CO:∀ (k:Nat) (t:List UInt8),∃ p,t=p++ed k t
 |0,t=>⟨[],rfl⟩
 |k+1,t=>by
  rw[ed];cases h:cE 10 t with
  |none=>exact ⟨[],rfl⟩
  |some q =>
   obtain ⟨w,v⟩:=q;obtain ⟨h1,_⟩:=nv h;obtain ⟨p,h2⟩:=CO k v;refine ⟨w++10::p,?_⟩;simp only;rw[Y0,Y3,←h2];exact h1
theorem Wp{t:List UInt8}{k z:Nat}(h:z+(ed k t).length=t.length):t.drop z=ed k t:=by
 obtain ⟨p,hp⟩:=CO k t;have:p.length=z:=by have:=congrArg List.length hp;rw[Z1] at this;omega
 rw[hp,←this,List.drop_left];have e:p++ed k t=t:=hp.symm;rw[e]
def tj(t:List UInt8)(x:Nat×List ai×Int×Nat):ab:=ay [(0,enc (aj.of t)),(4,.own 4 x.2.1.length),(5,.int .i64 (x.2.2.2:Int)),(6,.int .i64 x.2.2.1)] [(4,.bC 50 8 (x.2.1.map enc))]
theorem En(t:List UInt8)(ht:t.length≤281474976710656):aQ Tryz.prog 16 [enc (aj.of t)] (.tuple [enc (gJ bf dc t).1,enc (aj.of (gJ bf dc t).2)]):=by
 refine aQ.bM Tryz.func16 Gu HC IU (t8 rfl) (fun hwf W0 bF E1 =>?_);simp only[xL,BU,bB];clear hwf;have hl:=kX t;have R:=y6 @bg aD
 repeat' ((first |(with_reducible refine .guard (fun hb =>?_) (fun hb =>?_) <;>try simp only[hb])|refine U.aG (by decide +kernel) rfl fun K hK =>?_|(refine .aE [0,2,3,4,5,6,7,8,9,10,14,25,31,50] hK ?_;clear hK K)|(with_reducible refine .done (hK _ ?_);clear hK K)|refine U.of rfl ?_|(with_reducible refine aw.aF (fun h =>?_) (fun h =>?_) <;>try simp only[h])) <;>try simp only[aH,R,simprocAttr])
 all_goals clear R
 refine U.loop (tj t) (fun x=>x.1≤(dj t).length∧nf t x.1 x.2.1 x.2.2.1 x.2.2.2) (fun x=>(dj t).length-x.1) (0,[],1,0) ⟨by simp,vu t⟩ ?_ ?_
 ·refine bw.E5 4 4 50 8 8 rfl rfl ?_;simp only[tj,X2,Y9];refine bw.cK ?_ ?_ ?_ ?_ <;>simp[cj,cn,cm,bQ,aB,cg,dR,I.only,I.cF,ah.only,bG]
 rintro ⟨k,out,s,z⟩ ⟨hk,hP⟩;simp only at hk hP;simp only[tj];have hri:=Wp hP.size;have hsz:=hP.size;have hfo:jV out.length (some (.bC 50 8 (out.map enc)))=some (enc out):=o8 8 rfl rfl;have hdone:km t out z→dU (.ss false true) [enc (aj.of t),.int .i64 (z:Int)]=some (enc (aj.of (t.take z))):=fun hF=>by
  have hsh:=oi (aj.of t) (j:=z) (by rw[aj.c6];exact hF.size);rw[aj.c6] at hsh;exact hsh
 by_cases hz:z<t.length
 rotate_left
 ·have hzc:=fm hz;have hF:km t out z:=by
   have:(ed k t)=[]:=List.length_eq_zero_iff.1 (by omega);have h2:=oa hk;rw[this,uY (by simp)] at h2;exact ⟨by rw[hP.eq,←h2,fX],hP.len,by omega⟩
  have hsh:=hdone hF;rw[nE hF];have R:=y6 @hl (y6 @hzc (y6 @hfo (y6 @hsh (y6 @bg aD))))
  repeat' ((first |(with_reducible refine .guard (fun hb =>?_) (fun hb =>?_) <;>try simp only[hb])|refine U.aG (by decide +kernel) rfl fun K hK =>?_|(refine .aE [0,2,3,4,5,6,7,8,9,10,14,25,31,50] hK ?_;clear hK K)|(with_reducible refine .done (hK _ ?_);clear hK K)|refine U.of rfl ?_|(with_reducible refine aw.aF (fun h =>?_) (fun h =>?_) <;>try simp only[h])) <;>try simp only[aH,R,simprocAttr])
  all_goals clear R
  all_goals rfl
 have hzc:=eO hz;generalize hu:ed k t=u at *
 -- where the line ends
 obtain ⟨e,he1,he2,hbelow,hat⟩:∃ e,z≤e∧e≤t.length∧(∀ j (h:j<t.length),z≤j→j<e→t[j]≠10)∧((e=t.length∧cE 10 u=none)∨∃ h:e<t.length,t[e]=10∧cE 10 u=some (u.take (e-z),u.drop (e-z+1))):=by
  have hget:∀ j (h:j<t.length) (h2:z≤j),t[j]=u[j-z]'(by omega):=fun j h h2=>by
   have:(t.drop z)[j-z]'(by rw[zz1];omega)=t[j]:=by rw[List.getElem_drop];congr 1;omega
   rw[←this];congr 1
  rcases nu 10 u with ⟨h1,_⟩ | ⟨i,hi,_,h1⟩
  ·refine ⟨t.length,by omega,Z3 _,fun j h h2 h3 =>?_,.inl ⟨rfl,h1⟩⟩;rw[hget j h h2];exact tP h1 _ (List.getElem_mem _)
  ·obtain ⟨h2,h3⟩:=nv h1;refine ⟨z+i,by omega,by omega,fun j h h4 h5 =>?_,.inr ⟨by omega,?_,by rw[h1];congr 3 <;>omega⟩⟩
   ·rw[hget j h h4];refine h3 _ ?_;rw[List.mem_take_iff_getElem];exact ⟨j-z,by omega,rfl⟩
   ·rw[hget _ (by omega) (by omega)];have:u[i]?=some 10:=by
     rw[h2,List.getElem?_append_right (by rw[Z9];omega),Z9,show i-min i u.length=0 by omega];rfl
    rw[Y8 hi] at this;have e2:u[z+i-z]'(by omega)=u[i]:=by congr 1;omega
    rw[e2];exact Option.some.inj this
 have R:=y6 @hl (y6 @hzc (y6 @bg aD))
 repeat' ((first |(with_reducible refine .guard (fun hb =>?_) (fun hb =>?_) <;>try simp only[hb])|refine U.aG (by decide +kernel) rfl fun K hK =>?_|(refine .aE [0,2,3,4,5,6,7,8,9,10,14,25,31,50] hK ?_;clear hK K)|(with_reducible refine .done (hK _ ?_);clear hK K)|refine U.of rfl ?_|(with_reducible refine aw.aF (fun h =>?_) (fun h =>?_) <;>try simp only[h])) <;>try simp only[aH,R,simprocAttr])
 all_goals clear R
 refine U.loop (fun j:Nat=>ay [(0,enc (aj.of t)),(4,.own 4 out.length),(5,.int .i64 (z:Int)),(6,.int .i64 s),(7,.int .i64 (j:Int))] [(4,.bC 50 8 (out.map enc))]) (fun j=>z≤j∧j≤e) (fun j=>e-j) z ⟨Z3 _,he1⟩ ?_ ?_
 ·refine bw.cK ?_ ?_ ?_ ?_ <;>simp[cj,cn,cm,bQ,aB,cg,dR,I.only,ah.only,mw,bG]
 rintro j ⟨hj1,hj2⟩;by_cases hje:j<e
 ·have hjl:j<t.length:=by omega
  have hjc:=eO hjl;have hsi:=oh t hjl;have hne:=hbelow j hjl hj1 hje;generalize t[j]=c at *;have hc:((c.toNat:Int) != 10)=true:=by
   have:¬ c.toNat=10:=fun e=>hne (UInt8.toNat_inj.1 e);simp;omega
  have hw:=eE (i:=j) (by omega);have R:=y6 @hl (y6 @hjc (y6 @hsi (y6 @hc (y6 @hw (y6 @bg aD)))))
  repeat' ((first |(with_reducible refine .guard (fun hb =>?_) (fun hb =>?_) <;>try simp only[hb])|refine U.aG (by decide +kernel) rfl fun K hK =>?_|(refine .aE [0,2,3,4,5,6,7,8,9,10,14,25,31,50] hK ?_;clear hK K)|(with_reducible refine .done (hK _ ?_);clear hK K)|refine U.of rfl ?_|(with_reducible refine aw.aF (fun h =>?_) (fun h =>?_) <;>try simp only[h])) <;>try simp only[aH,R,simprocAttr])
  all_goals clear R
  refine ⟨j+1,⟨by omega,by omega⟩,by omega,?_⟩;refine bw.cK ?_ ?_ ?_ ?_ <;>simp[cj,cn,cm,bQ,aB,cg,dR,I.only,ah.only,mw,bG]
  all_goals rfl
 have hje':j=e:=by omega
 subst hje';rcases hat with ⟨hee,hcut⟩ | ⟨hlt,h10,hcut⟩
 ·have hjc:=fm (show ¬ j<t.length by omega);have hjl:((j:Int)==(t.length:Int))=true:=by rw[beq_iff_eq];omega
  have hF:km t out z:=by
   have h2:=oa hk;rw[hu,rN hcut] at h2;exact ⟨by rw[hP.eq,←h2,fX],hP.len,by omega⟩
  have hsh:=hdone hF;rw[nE hF];have R:=y6 @hl (y6 @hjc (y6 @hjl (y6 @hfo (y6 @hsh (y6 @bg aD)))))
  repeat' ((first |(with_reducible refine .guard (fun hb =>?_) (fun hb =>?_) <;>try simp only[hb])|refine U.aG (by decide +kernel) rfl fun K hK =>?_|(refine .aE [0,2,3,4,5,6,7,8,9,10,14,25,31,50] hK ?_;clear hK K)|(with_reducible refine .done (hK _ ?_);clear hK K)|refine U.of rfl ?_|(with_reducible refine aw.aF (fun h =>?_) (fun h =>?_) <;>try simp only[h])) <;>try simp only[aH,R,simprocAttr])
  all_goals clear R
  all_goals rfl
 have hjc:=eO hlt;have hsi:=oh t hlt;rw[h10] at hsi;have hkl:k<(dj t).length:=by
  have h2:=congrArg List.length (oa hk);rw[hu,pA hcut,zz1] at h2;simp only[Y4] at h2;omega
 have hjl:((j:Int)==(t.length:Int))=false:=by rw[beq_eq_false_iff_ne];omega
 have hc:((((10:UInt8).toNat:Nat):Int) != 10)=false:=rfl;have hw:=eE (i:=j) (by omega);have hss:=Da (aj.of t) (i:=z) (j:=j+1) (by omega) (by rw[aj.c6];omega);rw[aj.c6,hri] at hss;obtain ⟨w,v,hcut2,hL,hnext,hrest⟩:=CM hkl;rw[hu] at hcut2 hrest;have hline:u.take (j+1-z)=w++[10]:=by
  rw[hcut] at hcut2;simp only[v6,Prod.mk.injEq] at hcut2;have hwl:w.length=j-z:=by rw[←hcut2.1,Z9];omega
  rw[hrest,show j+1-z=w.length+1 by omega,List.append_cons w 10 v,List.take_left' (by simp)]
 have hdrop:(dj t).drop k=(w++[10])::(dj t).drop (k+1):=by rw[List.drop_eq_getElem_cons hkl,hL]
 rw[hline] at hss;have hsz2:=hsz;rw[hrest] at hsz2;have hll:(w++[10]).length+v.length=(w++10::v).length:=by simp;omega
 have hll2:(w++[10]).length=j+1-z:=by rw[←hline,Z9];omega
 generalize hx:w++[10]=line at *;have hpe:=hP.eq;rw[hdrop] at hpe;have h32:=Ez s line (by omega);have hin:dQ 0 1000002 s=true:=mc.2 (by have:=hP.sum;omega);have hkok:∀ q∈out,0≤q.bd∧q.bd≤5:=fun q hq=>lH (hP.ok q hq);cases hq:dA bf s line with
 |none =>
  rw[show fF s line=(default,0,87) by rw[fF,if_neg (by simp[hin]),hq],wy] at h32;rw[Dd hq] at hpe;have hF:km t out z:=⟨hpe,hP.len,by omega⟩
  have hsh:=hdone hF;rw[nE hF];have R:=y6 @hl (y6 @hjc (y6 @hsi (y6 @hc (y6 @hjl (y6 @hw (y6 @hss (y6 @hfo (y6 @hsh (y6 @ec (y6 @dI (y6 @bg aD)))))))))))
  repeat' ((first |(with_reducible refine .guard (fun hb =>?_) (fun hb =>?_) <;>try simp only[hb])|refine U.aG (by decide +kernel) rfl fun K hK =>?_|refine .lead _ (h32) ?_|(refine .aE [0,2,3,4,5,6,7,8,9,10,14,25,31,50] hK ?_;clear hK K)|(with_reducible refine .done (hK _ ?_);clear hK K)|refine U.of rfl ?_|(with_reducible refine aw.aF (fun h =>?_) (fun h =>?_) <;>try simp only[h])) <;>try simp only[aH,R,simprocAttr])
  all_goals clear R
  all_goals rfl
 |some q =>
  obtain ⟨r,n⟩:=q;obtain ⟨hok,_,hns⟩:=vB bf hq;simp only at hok hns;rw[show fF s line=(r,n,0) by rw[fF,if_neg (by simp[hin]),hq],wy] at h32;rw[De hq] at hpe;simp only at hpe;have h72:=ED out r (by have:=hP.len;omega) hkok lH;rw[hok,Bool.true_and] at h72;cases hn:dc out r
  ·rw[hn] at h72 hpe;rw[if_neg (by decide)] at hpe;have hF:km t out z:=⟨hpe,hP.len,by omega⟩
   have hsh:=hdone hF;rw[nE hF];have R:=y6 @hl (y6 @hjc (y6 @hsi (y6 @hc (y6 @hjl (y6 @hw (y6 @hss (y6 @hfo (y6 @hsh (y6 @ec (y6 @dI (y6 @bg aD)))))))))))
   repeat' ((first |(with_reducible refine .guard (fun hb =>?_) (fun hb =>?_) <;>try simp only[hb])|refine U.aG (by decide +kernel) rfl fun K hK =>?_|refine .lead _ (h32) ?_|refine .flat _ (h72) rfl ?_|(refine .aE [0,2,3,4,5,6,7,8,9,10,14,25,31,50] hK ?_;clear hK K)|(with_reducible refine .done (hK _ ?_);clear hK K)|refine U.of rfl ?_|(with_reducible refine aw.aF (fun h =>?_) (fun h =>?_) <;>try simp only[h])) <;>try simp only[aH,R,simprocAttr])
   all_goals clear R
   all_goals rfl
  ·have hol:=AW hn;rw[hn] at h72 hpe;rw[if_pos rfl] at hpe;have hbs:gw 8 (some [enc r])=some (enc [r]):=oO 8 r rfl;have hap:=fun (A:ab) d rest=>w9 (A:=A) (d:=d) 50 8 72 4 (l:=out.length) (es:=out) (ys:=[r]) (rest:=rest) rfl rfl (by simp) (by simp[maxLen];omega) (by simp;omega);have R:=y6 @hl (y6 @hjc (y6 @hsi (y6 @hc (y6 @hjl (y6 @hw (y6 @hss (y6 @hfo (y6 @hbs (y6 @hap (y6 @ec (y6 @dI (y6 @bg aD))))))))))))
   repeat' ((first |(with_reducible refine .guard (fun hb =>?_) (fun hb =>?_) <;>try simp only[hb])|refine U.aG (by decide +kernel) rfl fun K hK =>?_|refine .lead _ (h32) ?_|refine .flat _ (h72) rfl ?_|(refine .aE [0,2,3,4,5,6,7,8,9,10,14,25,31,50] hK ?_;clear hK K)|(with_reducible refine .done (hK _ ?_);clear hK K)|refine U.of rfl ?_|(with_reducible refine aw.aF (fun h =>?_) (fun h =>?_) <;>try simp only[h])) <;>try simp only[aH,R,simprocAttr])
   all_goals clear R
   refine ⟨(k+1,out++[r],n,j+1),⟨by simp only;omega,by rw[show j+1=z+line.length by omega];exact hpe,by rw[hns];exact lR hP.sum _,?_,by simp only[Z1,Y4,X2];omega,by show j+1+(ed (k+1) t).length=t.length;rw[hnext];omega⟩,by simp only;omega,?_⟩
   ·intro q hq;rcases zz2.1 hq with h1 | h1
    ·exact hP.ok q h1
    ·rw[List.mem_singleton.1 h1];exact hok
   ·simp only[];refine bw.cK ?_ ?_ ?_ ?_ <;>simp[cj,cn,cm,bQ,aB,cg,dR,I.only,I.cF,ah.only,mw,VA,bG]
    all_goals rfl
def r2(a n:Int):Int:=(IntKind.i64.wrap (a.tmod n+n)).tmod n
theorem Xt(a n:Int)(hn:n≠0):aQ Tryz.prog 28 [enc a,enc n] (enc (r2 a n)):=by
 refine aQ.bM Tryz.func28 GF HO I5 (t8 rfl) (fun hwf W0 bF E1 =>?_);simp only[xU,B7,bB,Z8];clear hwf;have R:=y6 @hn aD
 repeat' ((first |refine U.aG (by decide +kernel) rfl fun K hK =>?_|(refine .aE [0,1,4] hK ?_;clear hK K)|(with_reducible refine .done (hK _ ?_);clear hK K)|refine U.of rfl ?_|(with_reducible refine aw.aF (fun h =>?_) (fun h =>?_) <;>try simp only[h])) <;>try simp only[aH,R,simprocAttr])
 all_goals clear R
 all_goals rfl
theorem Uw{a n:Int}(ha:-9223372036854775808≤a∧a≤9223372036854775807)(hn:0<n∧n≤4611686018427387904):r2 a n=a%n:=by
 have h1:-n<a.tmod n∧a.tmod n<n:=⟨Int.lt_tmod_of_pos a hn.1,Int.tmod_lt_of_pos a hn.1⟩
 have h2:(a.tmod n+n).tmod n=a%n:=by
  rw[Int.tmod_eq_emod_of_nonneg (by omega),Int.add_emod_right];have:=Int.tmod_add_mul_tdiv a n
  conv=>rhs;rw[←this]
  rw[Int.add_mul_emod_self_left]
 have h3:=Int.emod_nonneg a (show n≠0 by omega);have h4:=Int.emod_lt_of_pos a hn.1;rw[r2,dB _ (by omega) (by omega),h2]
theorem Ep(a b:List ai)(hl:a.length≤1000000000000):aQ Tryz.prog 17 [enc a,enc b] (enc (decide (a=b))):=by
 refine aQ.bM Tryz.func17 Gx HF IX (t8 rfl) (fun hwf W0 bF E1 =>?_);simp only[xO,BX,bB,Z8];clear hwf;cases q:((a.length:Int)==(b.length:Int))
 ·have hne:decide (a=b)=false:=decide_eq_false fun e=>by rw[e] at q;simp at q
  rw[hne];by_cases h0:0<a.length
  ·have hlc:decide ((0:Int)<(a.length:Int))=true:=decide_eq_true (by omega);have R:=y6 @q aD
   repeat' ((first |(with_reducible refine .guard (fun hb =>?_) (fun hb =>?_) <;>try simp only[hb])|refine U.aG (by decide +kernel) rfl fun K hK =>?_|(refine .aE [0,1,4,5,6,18] hK ?_;clear hK K)|(with_reducible refine .done (hK _ ?_);clear hK K)|refine U.of rfl ?_|(with_reducible refine aw.aF (fun h =>?_) (fun h =>?_) <;>try simp only[h])) <;>try simp only[aH,R,simprocAttr])
   all_goals clear R
   refine U.loop (fun _:Unit=>ay [(0,enc a),(1,enc b),(5,.bool false),(6,.int .i64 0)] []) (fun _=>True) (fun _=>0) () trivial ?_ ?_
   ·refine bw.cK ?_ ?_ ?_ ?_ <;>simp[cj,cn,cm,bQ,cg,I.only,bG]
   intro _ _;have R:=y6 @q (y6 @hlc aD)
   repeat' ((first |(with_reducible refine .guard (fun hb =>?_) (fun hb =>?_) <;>try simp only[hb])|refine U.aG (by decide +kernel) rfl fun K hK =>?_|(refine .aE [0,1,4,5,6,18] hK ?_;clear hK K)|(with_reducible refine .done (hK _ ?_);clear hK K)|refine U.of rfl ?_|(with_reducible refine aw.aF (fun h =>?_) (fun h =>?_) <;>try simp only[h])) <;>try simp only[aH,R,simprocAttr])
   all_goals clear R
   all_goals rfl
  ·have hlc:decide ((0:Int)<(a.length:Int))=false:=decide_eq_false (by omega);have R:=y6 @q aD
   repeat' ((first |(with_reducible refine .guard (fun hb =>?_) (fun hb =>?_) <;>try simp only[hb])|refine U.aG (by decide +kernel) rfl fun K hK =>?_|(refine .aE [0,1,4,5,6,18] hK ?_;clear hK K)|(with_reducible refine .done (hK _ ?_);clear hK K)|refine U.of rfl ?_|(with_reducible refine aw.aF (fun h =>?_) (fun h =>?_) <;>try simp only[h])) <;>try simp only[aH,R,simprocAttr])
   all_goals clear R
   refine U.loop (fun _:Unit=>ay [(0,enc a),(1,enc b),(5,.bool false),(6,.int .i64 0)] []) (fun _=>True) (fun _=>0) () trivial ?_ ?_
   ·refine bw.cK ?_ ?_ ?_ ?_ <;>simp[cj,cn,cm,bQ,cg,I.only,bG]
   intro _ _;have R:=y6 @q (y6 @hlc aD)
   repeat' ((first |(with_reducible refine .guard (fun hb =>?_) (fun hb =>?_) <;>try simp only[hb])|refine U.aG (by decide +kernel) rfl fun K hK =>?_|(refine .aE [0,1,4,5,6,18] hK ?_;clear hK K)|(with_reducible refine .done (hK _ ?_);clear hK K)|refine U.of rfl ?_|(with_reducible refine aw.aF (fun h =>?_) (fun h =>?_) <;>try simp only[h])) <;>try simp only[aH,R,simprocAttr])
   all_goals clear R
   all_goals rfl
 have hlen:a.length=b.length:=by have:=eq_of_beq q;omega
 have R:=y6 @q aD
 repeat' ((first |(with_reducible refine .guard (fun hb =>?_) (fun hb =>?_) <;>try simp only[hb])|refine U.aG (by decide +kernel) rfl fun K hK =>?_|(refine .aE [0,1,4,5,6,18] hK ?_;clear hK K)|(with_reducible refine .done (hK _ ?_);clear hK K)|refine U.of rfl ?_|(with_reducible refine aw.aF (fun h =>?_) (fun h =>?_) <;>try simp only[h])) <;>try simp only[aH,R,simprocAttr])
 all_goals clear R
 refine U.loop (fun x:Nat×Bool=>ay [(0,enc a),(1,enc b),(5,.bool x.2),(6,.int .i64 x.1)] []) (fun x=>x.1≤a.length∧(x.2=true→a.take x.1=b.take x.1)∧(x.2=false→a≠b)) (fun x=>a.length-x.1) (0,true) ⟨Nat.zero_le _,by simp,by simp⟩ ?_ ?_
 ·refine bw.cK ?_ ?_ ?_ ?_ <;>simp[cj,cn,cm,bQ,cg,I.only,bG]
 rintro ⟨i,t⟩ ⟨hi,h1,h2⟩;simp only at hi h1 h2 ⊢;cases t
 ·have hne:decide (a=b)=false:=decide_eq_false (h2 rfl);rw[hne];by_cases h0:i<a.length
  ·have hlc:=eO h0;have R:=y6 @hlc aD
   repeat' ((first |(with_reducible refine .guard (fun hb =>?_) (fun hb =>?_) <;>try simp only[hb])|refine U.aG (by decide +kernel) rfl fun K hK =>?_|(refine .aE [0,1,4,5,6,18] hK ?_;clear hK K)|(with_reducible refine .done (hK _ ?_);clear hK K)|refine U.of rfl ?_|(with_reducible refine aw.aF (fun h =>?_) (fun h =>?_) <;>try simp only[h])) <;>try simp only[aH,R,simprocAttr])
   all_goals clear R
   all_goals rfl
  ·have hlc:=fm h0;have R:=y6 @hlc aD
   repeat' ((first |(with_reducible refine .guard (fun hb =>?_) (fun hb =>?_) <;>try simp only[hb])|refine U.aG (by decide +kernel) rfl fun K hK =>?_|(refine .aE [0,1,4,5,6,18] hK ?_;clear hK K)|(with_reducible refine .done (hK _ ?_);clear hK K)|refine U.of rfl ?_|(with_reducible refine aw.aF (fun h =>?_) (fun h =>?_) <;>try simp only[h])) <;>try simp only[aH,R,simprocAttr])
   all_goals clear R
   all_goals rfl
 by_cases hlt:i<a.length
 ·have hlc:=eO hlt;have he:=fun A=>fR (A:=A) 8 hlt rfl;have he2:=fun A=>fR (A:=A) (l:=b) (k:=i) 8 (by omega) rfl;have hw:=eE (i:=i) (by omega);have e1:=jk hlt;have e2:=jk (l:=b) (i:=i) (by omega);have hg:a=b→a[i]=b[i]'(by omega):=fun e=>by subst e;rfl
  have h1':=h1 rfl;generalize a[i]=r at *;generalize (b[i]'(by omega))=r' at *;have R:=y6 @hlc (y6 @he (y6 @he2 (y6 @hw aD)))
  repeat' ((first |(with_reducible refine .guard (fun hb =>?_) (fun hb =>?_) <;>try simp only[hb])|refine U.aG (by decide +kernel) rfl fun K hK =>?_|(refine .aE [0,1,4,5,6,18] hK ?_;clear hK K)|(with_reducible refine .done (hK _ ?_);clear hK K)|refine U.of rfl ?_|(with_reducible refine aw.aF (fun h =>?_) (fun h =>?_) <;>try simp only[h])) <;>try simp only[aH,R,simprocAttr])
  all_goals clear R
  refine ⟨(i+1,decide (r=r')),⟨by simp only;omega,fun h =>?_,fun h =>?_⟩,by simp only;omega,?_⟩
  ·simp only at h ⊢;rw[e1,e2,h1',of_decide_eq_true h]
  ·simp only at h;exact fun e=>of_decide_eq_false h (hg e)
  ·clear hg h1 h2 h1';refine bw.cK ?_ ?_ ?_ ?_ <;>simp[cj,cn,cm,bQ,cg,I.only,bG]
   all_goals rfl
 ·have hlc:=fm hlt;have heq:a=b:=by
   have:=h1 rfl
   rwa [List.take_of_length_le (by omega),List.take_of_length_le (by omega)] at this
  rw[decide_eq_true heq];have R:=y6 @hlc aD
  repeat' ((first |(with_reducible refine .guard (fun hb =>?_) (fun hb =>?_) <;>try simp only[hb])|refine U.aG (by decide +kernel) rfl fun K hK =>?_|(refine .aE [0,1,4,5,6,18] hK ?_;clear hK K)|(with_reducible refine .done (hK _ ?_);clear hK K)|refine U.of rfl ?_|(with_reducible refine aw.aF (fun h =>?_) (fun h =>?_) <;>try simp only[h])) <;>try simp only[aH,R,simprocAttr])
  all_goals clear R
  all_goals rfl
def dh.small(r:dh):Prop:=r.bJ.length≤140737488351232∧r.eh.length≤140737488351232
def db.small(r:db):Prop:=r.dn.small∧r.copy.small
def dh.all(r:dh):List UInt8:=r.bJ++r.eh
theorem dh.qC{r:dh}(h:r.small):r.all.length≤281474976710656:=by
 have:=h.1;have:=h.2;rw[dh.all,Z1];omega
theorem js:I.agg [.ak ⟨#[]⟩,.ak ⟨#[]⟩]=enc (⟨[],[]⟩:dh):=rfl
theorem zc:I.agg [.agg [.ak ⟨#[]⟩,.ak ⟨#[]⟩],.agg [.ak ⟨#[]⟩,.ak ⟨#[]⟩]]=enc (⟨⟨[],[]⟩,⟨[],[]⟩⟩:db):=rfl
theorem l9:I.agg [enc (⟨[],[]⟩:dh),enc (⟨[],[]⟩:dh)]=enc (⟨⟨[],[]⟩,⟨[],[]⟩⟩:db):=rfl
theorem fZ:(∀ A n b rest (q r:dh),er A (some 2) n [] b (enc q) rest (some (enc r))=ao rest (A.aP n (.box (enc q))))∧(∀ A n b rest (q r:db),er A (some 4) n [] b (enc q) rest (some (enc r))=ao rest (A.aP n (.box (enc q)))) ∧
  (∀ A n rest (q r:dh) (s:db),er A (some 2) n [0] (enc s) (enc q) rest (some (enc r))=ao rest (A.aP n (.box (enc (⟨q,s.copy⟩:db)))))∧(∀ A n rest (q r:dh) (s:db),er A (some 2) n [1] (enc s) (enc q) rest (some (enc r))=ao rest (A.aP n (.box (enc (⟨s.dn,q⟩:db))))) :=
 ⟨fun A n b rest q r=>by rw[fj (fe _) (by rw[ib];rfl) ((eA _).trans (eA _).symm),fi],
  fun A n b rest q r=>by rw[fj (fe _) (by rw[ib];rfl) ((eA _).trans (eA _).symm),fi],
  fun A n rest q r s=>by rw[fj (fe _) (by rw[ib];rfl) ((eA _).trans (eA _).symm)];rfl,
  fun A n rest q r s=>by rw[fj (fe _) (by rw[ib];rfl) ((eA _).trans (eA _).symm)];rfl⟩
theorem kz:(∀ x:List UInt8,fy [.ak ⟨#[]⟩,.ak ⟨#[]⟩] [(0,enc (aj.of x))]=some [enc (aj.of x),enc (aj.of [])])∧(∀ x:List UInt8,I.agg [enc (aj.of x),enc (aj.of [])]=enc (⟨x,[]⟩:dh)) ∧
  (∀ p q:dh,fy [.agg [.ak ⟨#[]⟩,.ak ⟨#[]⟩],.agg [.ak ⟨#[]⟩,.ak ⟨#[]⟩]] [(0,enc p),(1,enc q)]=some [enc p,enc q])∧(∀ p q:dh,I.agg [enc p,enc q]=enc (⟨p,q⟩:db)) ∧
  (∀ p q:dh,fy [enc (⟨[],[]⟩:dh),enc (⟨[],[]⟩:dh)] [(0,enc p),(1,enc q)]=some [enc p,enc q]) :=
 ⟨fun _=>rfl,fun _=>rfl,fun _ _=>rfl,fun _ _=>rfl,fun _ _=>rfl⟩
theorem oB(r:dh)(h:r.small):aQ Tryz.prog 73 [enc r] (enc (aj.of r.all)):=by
 refine aQ.bM Tryz.func73 GR HZ Jh (t8 rfl) (fun hwf W0 bF E1 =>?_);simp only[yc,Ch,bB];clear hwf;have ha:=eH r.bJ r.eh (by have:=h.1;have:=h.2;omega);have R:=y6 @ha (y6 @bg aD)
 repeat' ((first |refine U.aG (by decide +kernel) rfl fun K hK =>?_|(refine .aE [0,1,2] hK ?_;clear hK K)|(with_reducible refine .done (hK _ ?_);clear hK K)|refine U.of rfl ?_|(with_reducible refine aw.aF (fun h =>?_) (fun h =>?_) <;>try simp only[h])) <;>try simp only[aH,R,simprocAttr])
 all_goals clear R
 all_goals rfl
def oj(r:db):db:=⟨⟨r.dn.all,[]⟩,⟨r.dn.all,[]⟩⟩
theorem Et(r:db)(h:r.small):aQ Tryz.prog 20 [enc r] (enc (oj r)):=by
 refine aQ.bM Tryz.func20 GB HL I2 (t8 rfl) (fun hwf W0 bF E1 =>?_);simp only[c20,B4,bB];clear hwf;have f:=oB r.dn h.1;have R:=y6 @kz (y6 @js (y6 @l9 (y6 @fZ (y6 @bg aD))))
 repeat' ((first |refine U.aG (by decide +kernel) rfl fun K hK =>?_|refine .flat _ (f) rfl ?_|(refine .aE [0,1,2,3] hK ?_;clear hK K)|(with_reducible refine .done (hK _ ?_);clear hK K)|refine U.of rfl ?_|(with_reducible refine aw.aF (fun h =>?_) (fun h =>?_) <;>try simp only[h])) <;>try simp only[aH,R,simprocAttr])
 all_goals clear R
 all_goals rfl
def oP(r:db)(copy:Bool):db:=if copy then ⟨r.dn,⟨[],[]⟩⟩ else ⟨⟨[],[]⟩,r.copy⟩
theorem Eu(r:db)(b:Bool):aQ Tryz.prog 24 [enc r,enc b] (enc (oP r b)):=by
 refine aQ.bM Tryz.func24 GD HN I4 (t8 rfl) (fun hwf W0 bF E1 =>?_);simp only[xT,B6,bB,Z8];clear hwf;cases b
 ·have R:=y6 @js (y6 @l9 (y6 @fZ (y6 @bg aD)))
  repeat' ((first |refine U.aG (by decide +kernel) rfl fun K hK =>?_|(refine .aE [0,1,2,4,5] hK ?_;clear hK K)|(with_reducible refine .done (hK _ ?_);clear hK K)|refine U.of rfl ?_|(with_reducible refine aw.aF (fun h =>?_) (fun h =>?_) <;>try simp only[h])) <;>try simp only[aH,R,simprocAttr])
  all_goals clear R
  all_goals rfl
 ·have R:=y6 @js (y6 @l9 (y6 @fZ (y6 @bg aD)))
  repeat' ((first |refine U.aG (by decide +kernel) rfl fun K hK =>?_|(refine .aE [0,1,2,4,5] hK ?_;clear hK K)|(with_reducible refine .done (hK _ ?_);clear hK K)|refine U.of rfl ?_|(with_reducible refine aw.aF (fun h =>?_) (fun h =>?_) <;>try simp only[h])) <;>try simp only[aH,R,simprocAttr])
  all_goals clear R
  all_goals rfl
def j5(r:db):db×List ai:=(⟨⟨(sh bf dc r.dn.all r.copy.all).2,[]⟩,⟨(sh bf dc r.dn.all r.copy.all).2,[]⟩⟩,(sh bf dc r.dn.all r.copy.all).1)
theorem vS(t:List UInt8):(gJ bf dc t).2.length≤t.length:=by rw[gJ];simp;omega
theorem qt(r:db)(h:r.small):aQ Tryz.prog 18 [enc r] (.tuple [enc (j5 r).1,enc (j5 r).2]):=by
 refine aQ.bM Tryz.func18 Gz HJ I0 (t8 rfl) (fun hwf W0 bF E1 =>?_);simp only[xQ,B1,bB];clear hwf;have f1:=oB r.dn h.1;have f2:=oB r.copy h.2;have g1:=s8 r.dn.all (dh.qC h.1);have g2:=s8 r.copy.all (dh.qC h.2);have l1:=vS r.dn.all;have l2:=vS r.copy.all;have:=dh.qC h.1;have:=dh.qC h.2;have h74:=fun (x:List UInt8) (hx:x.length≤281474976710656)=>EE (aj.of x) (by rw[aj.c6];exact hx);simp only[j5,sh];generalize gJ bf dc r.dn.all=p at *;generalize gJ bf dc r.copy.all=q at *;by_cases hlt:p.1.length<q.1.length
 ·have hc:decide ((q.1.length:Int)>(p.1.length:Int))=true:=decide_eq_true (by omega);have h74':=h74 q.2 (by omega);simp only[if_pos hlt];have R:=y6 @hc (y6 @kz (y6 @js (y6 @l9 (y6 @fZ (y6 @bg aD)))))
  repeat' ((first |refine U.aG (by decide +kernel) rfl fun K hK =>?_|refine .flat _ (f1) rfl ?_|refine .lead _ (g1) ?_|refine .flat _ (f2) rfl ?_|refine .lead _ (g2) ?_|refine .flat _ (h74') rfl ?_|(refine .aE [0,1,2,3,4,5,6,7,8,27] hK ?_;clear hK K)|(with_reducible refine .done (hK _ ?_);clear hK K)|refine U.of rfl ?_|(with_reducible refine aw.aF (fun h =>?_) (fun h =>?_) <;>try simp only[h])) <;>try simp only[aH,R,simprocAttr])
  all_goals clear R
  all_goals rfl
 ·have hc:decide ((q.1.length:Int)>(p.1.length:Int))=false:=decide_eq_false (by omega);have h74':=h74 p.2 (by omega);simp only[if_neg hlt];have R:=y6 @hc (y6 @kz (y6 @js (y6 @l9 (y6 @fZ (y6 @bg aD)))))
  repeat' ((first |refine U.aG (by decide +kernel) rfl fun K hK =>?_|refine .flat _ (f1) rfl ?_|refine .lead _ (g1) ?_|refine .flat _ (f2) rfl ?_|refine .lead _ (g2) ?_|refine .flat _ (h74') rfl ?_|(refine .aE [0,1,2,3,4,5,6,7,8,27] hK ?_;clear hK K)|(with_reducible refine .done (hK _ ?_);clear hK K)|refine U.of rfl ?_|(with_reducible refine aw.aF (fun h =>?_) (fun h =>?_) <;>try simp only[h])) <;>try simp only[aH,R,simprocAttr])
  all_goals clear R
  all_goals rfl
end Go.Proofs.YtoffnnjbplgnaaaGreatDoor
namespace Go.Abs
open Go Go.RowKit Go.ChangeShapes
open Enc (enc)
theorem VC{P:Program}{t:TypeId}(ht:P.underlying t=some .string)(hc:P.cellsOf t=1):tf P t aj fun s=>s.l.length≤140737488351232 :=
 ⟨hc,Nat.one_pos,fun {H enc0 w fuel cs x} h hw=>by
  obtain ⟨s,rfl,rfl,hs⟩:=DataW.trod_string ht h;refine ⟨⟨s⟩,?_,?_⟩
  ·have:=hw s.data.toList.length (by simp[DataW.weights]);exact this
  ·show af _ _ _ (.ak s) _
   simp only[af,true_and];exact hs⟩
theorem VD{P:Program}{t:TypeId}{α:Type}[Enc α]{B:α→Prop}{H:Type}{enc0:TypeId×Value→H}{w:World}{dT:Nat}{v:Value}{d:DataW H}{p:List MemPlace}(ho:tf P t α B)(hA:Enc.gz α=false)(hst:(match P.underlying t with | some (.slice _) | some (.int _) | some .bool | some .string=>true | _=>false)=true)(hv:Value.okWide P w .any dT t v)
  (h:DataW.Trod enc0 P w 0 (fun _=>true) true t v d p) (hwt:∀ k∈d.weights P t,k≤reachBytes):∃ (a:α),B a∧∃ (cs:List Value),aW (enc a) v cs∧af w (qB w) cG (enc a) cs:=by
 obtain ⟨fuel,h⟩:=h;have hone:v.cells.toList=[v]:=by
  unfold Value.okWide at hv;split at hst
  ·rename_i e ht;rw[ht] at hv;simp only[Cell.okWide,ht] at hv;cases v <;>simp_all[Cell.ok,Value.cells]
  ·rename_i e ht;rw[ht] at hv;simp only[Cell.okWide,ht] at hv;cases v <;>simp_all[Cell.ok,Value.cells]
  ·rename_i ht;rw[ht] at hv;simp only[Cell.okWide,ht] at hv;cases v <;>simp_all[Cell.ok,Value.cells]
  ·rename_i ht;rw[ht] at hv;simp only[Cell.okWide,ht] at hv;cases v <;>simp_all[Cell.ok,Value.cells]
  ·cases hst
 rw[hone] at h;obtain ⟨a,hB,ha⟩:=ho.VE h hwt;exact ⟨a,hB,[v],by simp[aW,Enc.agg,hA],ha⟩
end Go.Abs
namespace Go.Proofs.YtoffnnjbplgnaaaGreatDoor
open Go Go.Abs Go.ChangeShapes Go.WideShapes Go.RowKit
open Go.Abs.Enc (enc)
theorem Tryz.own:ownKnob Tryz.prog.godebug=none:=by kernel_rfl
theorem Tryz.TQ:laidOutB Tryz.prog=true:=by kernel_rfl
theorem Fx:tf Tryz.prog 9 aj fun s=>s.l.length≤140737488351232:=VC (by kernel_rfl) (by kernel_rfl)
theorem WG{w:World}{D:aI}{E:aN}{x:I}{a:Value}(hx:∃ cs,aW x a cs∧af w D E x cs):al w D E [x] [a]:=by
 obtain ⟨c1,h1,h2⟩:=hx;simp only[al];exact ⟨a,[],c1,rfl,h1,h2,rfl⟩
def iZ : List (String × DataW Unit) := [("math/bits.deBruijn32tab", Rows.laid_math_bits_deBruijn32tab), ("math/bits.deBruijn64tab", Rows.laid_math_bits_deBruijn64tab), ("internal/strconv.uint64pow10", Rows.laid_internal_strconv_uint64pow10), ("strconv.ErrRange", Rows.laid_strconv_ErrRange), ("strconv.ErrSyntax", Rows.laid_strconv_ErrSyntax)]
def DV:List Int:=[1,10,100,1000,10000,100000,1000000,10000000,100000000,1000000000,10000000000,100000000000,1000000000000,10000000000000,100000000000000,1000000000000000,10000000000000000,100000000000000000,1000000000000000000,10000000000000000000]
theorem Sk : Tryz.prog.globalNamed "internal/strconv.uint64pow10" = some 3 := by kernel_rfl
theorem W9:(Tryz.prog.globals[3]?).map (·.type)=some 256:=by kernel_rfl
theorem Sj : Tryz.prog.globalNamed "internal/bytealg.MaxLen" = some 0 := by kernel_rfl
theorem Cz:((begin Tryz.prog (fun _ _=>0) default).world.heap[0]?).bind Obj.row?=some (#[.int .i64 0],3):=by kernel_rfl
theorem Sm : Tryz.prog.globalNamed "strconv.ErrSyntax" = some 1 := by kernel_rfl
theorem Sl : Tryz.prog.globalNamed "strconv.ErrRange" = some 2 := by kernel_rfl
theorem DF:(Tryz.prog.globals[1]?).map (·.type)=some 199∧(Tryz.prog.globals[2]?).map (·.type)=some 199:=⟨by kernel_rfl,by kernel_rfl⟩
theorem Ad:(match Tryz.prog.underlying 199 with | some (.interface _)=>true | _=>false)=true:=by kernel_rfl
theorem Uq {W : World} (hsh : W.ShapedOpen Tryz.prog) : ∃ v, W.var? Tryz.prog "internal/bytealg.MaxLen" = some v ∧ rH .int v := by
 obtain ⟨m,hm⟩:=cell_of_shapedOpen_int (k:=.i64) hsh (show 0<Tryz.prog.globals.size from of_decide_eq_true (by kernel_rfl)) Cz rfl (by kernel_rfl) (by kernel_rfl) (by kernel_rfl);obtain ⟨cs,hh,hs,_⟩:=hsh.1 0 _ _ (show 0<Tryz.prog.globals.size from of_decide_eq_true (by kernel_rfl)) Cz;refine ⟨cs,?_,m,?_⟩
 ·unfold World.var?;rw[Sj];simp only[zz0];revert hh;cases hb:W.heap[0]? with
  |none=>intro hh;simp at hh
  |some o =>
   intro hh;cases o <;>simp[] at hh
   simp[hh]
 ·have h1:cs.size=1:=hs;have hcell:W.cell? ⟨0,0,none⟩=cs[0]?:=by
   unfold World.cell?;revert hh;cases hb:W.heap[0]? with
   |none=>intro hh;simp at hh
   |some o =>
    intro hh;cases o <;>simp[] at hh
    rw[←hh.1];rfl
  rw[hcell] at hm;apply Array.ext
  ·simp[h1]
  ·intro i h2 h3;obtain rfl:i=0:=by simp at h3;omega
   have:=(Y2.1 hm).2;simpa using this
theorem zl {W : World} (h : laidMet Tryz.prog iZ W) {n : String} {text : List UInt8} {g : Nat} (hn : (n, DataW.iface "*errors.errorString" (.ptr (.agg [.lit (.string text)]))) ∈ iZ) (hg : Tryz.prog.globalNamed n = some g) (ht : (Tryz.prog.globals[g]?).map (·.type) = some 199) :
  ∃ v,W.var? Tryz.prog n=some v∧rH .ny v:=by
 obtain ⟨g',t',cs,fuel,p,hg',ht',hvar,hd⟩:=Lib.laidMet.reads h hn;obtain rfl:=Option.some.inj (hg.symm.trans hg');obtain rfl:=Option.some.inj (ht.symm.trans ht');cases hi:Tryz.prog.underlying 199 with
 |none=>have:=Ad;rw[hi] at this;cases this
 |some d =>
  cases d <;>(try (have:=Ad;rw[hi] at this;cases this;done))
  obtain ⟨_,u,v,hcs,_,_⟩:=iface_of_trod hi hd;refine ⟨cs,hvar,u,v,?_⟩;apply Array.ext';simpa using hcs
theorem Vq{W:World}(h:laidMetH Tryz.prog iZ W)(hsh:W.ShapedOpen Tryz.prog):ew Tryz.prog W (fun _=>False):=by
 rw[MakeChecks.laidMetH_plain _ _ _ (by kernel_rfl)] at h;intro q hq g hg;refine ⟨id,?_⟩;simp only[mh,zz3,List.not_mem_nil,or_false] at hq;rcases hq with rfl | rfl | rfl | rfl
 ·obtain ⟨g', t', cs, fuel, p, hg', ht', hvar, hd⟩ := Lib.laidMet.reads h (n := "internal/strconv.uint64pow10") (d := Rows.laid_internal_strconv_uint64pow10) (by simp [iZ])
  obtain rfl:=Option.some.inj (Sk.symm.trans hg');obtain rfl:=Option.some.inj (W9.symm.trans ht');have hd':DataW.trod (fun _=>()) Tryz.prog W 0 (fun _=>true) false fuel 256 cs.toList=some (Lib.tabData .u64 DV,p):=hd;have hc:=Lib.cells_of_tab (n:=20) (e:=227) (TA (by kernel_rfl)) (by kernel_rfl) (by kernel_rfl) (by kernel_rfl) hd';refine ⟨cs,hvar,?_⟩
  show cs=Aq
  have:cs=(DV.map fun z=>Value.int .u64 z).toArray:=by rw[←hc]
  rw[this];rfl
 ·exact Uq hsh
 ·exact zl h (n := "strconv.ErrSyntax") (text := [105, 110, 118, 97, 108, 105, 100, 32, 115, 121, 110, 116, 97, 120]) (by simp [iZ, Rows.laid_strconv_ErrSyntax]) Sm DF.1
 ·exact zl h (n := "strconv.ErrRange") (text := [118, 97, 108, 117, 101, 32, 111, 117, 116, 32, 111, 102, 32, 114, 97, 110, 103, 101]) (by simp [iZ, Rows.laid_strconv_ErrRange]) Sl DF.2
theorem Ww{H:Type}{enc0:TypeId×Value→H}{a:Assume}{C:Checked}{os:Os}{f:FuncId}{fn:Func}{s:ChangeSpec}{conds:List PathCond}{apart iW handsOn again:Bool}{X:World→Array Value→Prop}
  (hX:∀ (w w':World) (args:Array Value),w.heap=w'.heap→X w args→X w' args)
  (own:ownKnob C.prog.godebug=none) (started:os.Started) (noInit:C.prog.inits.idxOf? f=none) (hfn:C.prog.funcs[f]?=some fn)
  (witness:∃ (w:World) (tape:Tape) (i:Input),w.os=os∧(w.forCall tape i).Shaped C.prog∧i.vars=[]∧Input.okWide C.prog (w.forCall tape i) .any w.heap.size f i ∧
   ((s.pre enc0 C.prog fn conds apart (w.forCall tape i).memory i.args∧X (w.forCall tape i).memory i.args)∧sizedMet enc0 C.prog fn (OpenSpec.ofChange s) apart (w.forCall tape i).memory i.args)∧a.holds C.prog (lone (Frame.enter C.prog f i.args .normal) [] (w.forCall tape i)))
  (contract:∀ (W:World) (dT:Nat) (args:Array Value) (ds gs:List (DataW H)) (before:List MemPlace),
   (∀ (j:Nat) t v,fn.params[j]?=some t→args[j]?=some v→Value.okWide C.prog W .any dT t v) →
   DataW.Whole enc0 C.prog fn.params.toList s.vars apart W args.toList ds gs before →
   (DataW.weightsEach C.prog (fn.params.toList++s.plain.varTypes C.prog) (ds++gs)).all (· ≤ reachBytes)=true→X W args→W.ShapedOpen C.prog →
   Calls C.prog f args W fun e W'=>∃ v,e=.returned v∧s.post enc0 C.prog fn apart iW handsOn again W args v W') :
  ReturnsInHanded a C os f .any (fun w args=>(s.pre enc0 C.prog fn conds apart w args∧X w args)∧sizedMet enc0 C.prog fn (OpenSpec.ofChange s) apart w args) (s.post enc0 C.prog fn apart iW handsOn again):=by
 refine returnsInHanded_of_calls own started noInit witness ?_;intro w tape i _ hsh _ hok hpre _;obtain ⟨_,_,_,fn',hfn',_,_,_,_,hval⟩:=hok;have e:fn'=fn:=Option.some.inj (hfn'.symm.trans hfn);subst e;obtain ⟨⟨⟨ds,gs,before,hw,_⟩,hx⟩,hz⟩:=hpre;have hw':=DataW.Whole.of_heap (w':=w.forCall tape i) (by rfl) hw;refine (contract (w.forCall tape i) w.heap.size i.args ds gs before hval hw' (hz.weights hw) (hX _ _ _ (by rfl) hx) hsh).mono fun e W' ⟨v,he,hp⟩ =>?_;subst he;exact ChangeSpec.post_blind hp
end Go.Proofs.YtoffnnjbplgnaaaGreatDoor
namespace Go.Proofs.YtoffnnjbplgnaaaGreatDoor
open Go Go.Abs
open Go.Abs.Enc (enc)
def cA:ai:=default
theorem kG:I.agg [.agg [.int .i64 0,.int .i64 0],.int .i64 0,.int .i64 0,.int .i64 0,.agg [.int .i64 0,.int .i64 0],.ak ⟨#[]⟩]=enc cA:=rfl
theorem Dr{A:ab}{l:List ai} : jK A 8 (enc l)=some (l.map enc):=ke A 8 l rfl
theorem Ds{A:ab}{n lo k:Nat}{xs:List ai}(ho:A.o n=some (.box (.agg (xs.map enc))))(hl:lo+k≤xs.length):jK A 8 (.view n [] 8 lo k)=some (((xs.drop lo).take k).map enc):=mR ho hl
theorem gA{k:Nat}{a:ah}{m:Nat} : aB [(k,a)] m=true↔m=k:=by
 constructor
 ·intro h;simp only[aB,aJ] at h;split at h
  ·assumption
  ·simp at h
 ·rintro rfl;simp[aB,aJ]
theorem Aa{A:ab}{k k':Nat}{c c':I}(h1:A.o k=some (.box c))(h2:∀ p,c.only p=true)(h1':A.o k'=some (.box c'))(h2':∀ p,c'.only p=true):∀ n x,aJ [(k,.box c),(k',.box c')] n=some x→A.o n=some x∧x.only (aB [(k,.box c),(k',.box c')])=true∧x.ef=true:=fun n x h=>by
 simp only[aJ] at h;split at h
 ·rename_i hn;subst hn;simp only[v6] at h;subst h;exact ⟨h1,h2 _,rfl⟩
 ·split at h
  ·rename_i hn;subst hn;simp only[v6] at h;subst h;exact ⟨h1',h2' _,rfl⟩
  ·cases h
theorem fT(p:Nat→Bool)(l:List ai):(I.agg (l.map enc)).only p=true:=by simp only[I.only];exact mw p l
def eP(k:Nat)(l:List ai)(m:Nat):List (Nat×ah):=[(k,.box (.agg ((l++List.replicate m cA).map enc)))]
def qO(l:List ai):bY:=fun r os'=>(l=[]∧(r=.nils 8∨r=.c0 8)∧os'=[])∨(l≠[]∧∃ m,r=.view 7 [] 8 0 l.length∧os'=eP 7 l m)
theorem wV(l:List ai)(hl:l.length≤1000):eI Tryz.prog 93 [enc l] [] (qO l):=by
 refine eI.bM Tryz.func93 yD yI yR (t8 rfl) (t8 rfl) (fun m hm=>by simp[aB,aJ] at hm) (fun hwf W0 bF E1 =>?_);simp only[tF,vy,bB];refine .dN (by decide +kernel) fun K hK =>?_;simp only[uE,aZ];refine .done (hK _ ?_);clear hK K;refine U.seq (U.seq ?_);by_cases hn:l=[]
 ·subst hn;refine .gT (by decide +kernel) fun K hK =>?_;simp only[pd,aZ,Nat.reduceEqDiff,reduceIte];simp only[sS,List.isEmpty_nil,nT];refine .any rfl fun b _ =>?_
  try simp only[aZ]
  generalize (b==0)=t;cases t
  ·refine .done (hK _ ?_);clear hK K;try simp only[cP]
   refine U.gB ?_;simp only[aw,aZ,Nat.reduceEqDiff,reduceIte];refine ⟨fun h =>?_,fun h =>?_⟩
   ·cases h
   refine U.skip ?_;try simp only[cP]
   refine .dN (by decide +kernel) fun K hK =>?_;simp only[pf,aZ]
   try simp only[hE,kG,aZ,Nat.reduceEqDiff,reduceIte]
   refine .done (hK _ ?_);clear hK K;refine U.ret ?_;simp only[jG];exact ⟨[],[.c0 8],uM,⟨⟨.c0 8,rfl,.inl ⟨rfl,rfl,rfl⟩⟩,trivial⟩,.inl ⟨rfl,.inr rfl,rfl⟩⟩
  ·refine .done (hK _ ?_);clear hK K;refine U.gB ?_;simp only[aw,aZ,Nat.reduceEqDiff,reduceIte];refine ⟨fun h =>?_,fun h =>?_⟩
   ·refine .dN (by decide +kernel) fun K hK =>?_;simp only[uF,aZ];refine .done (hK _ ?_);clear hK K;refine U.ret ?_;simp only[cP,jG];exact ⟨[],[.nils 8],uM,⟨⟨.nils 8,rfl,.inl ⟨rfl,rfl,rfl⟩⟩,trivial⟩,.inl ⟨rfl,.inl rfl,rfl⟩⟩
   ·cases h
 ·have hu:iI (enc l)=false:=by rw[sS];simpa using hn
  refine .gT (by decide +kernel) fun K hK =>?_;simp only[pd,aZ,Nat.reduceEqDiff,reduceIte]
  try simp only[hu,AS _ l hn,aZ]
  refine .done (hK _ ?_);clear hK K;try simp only[cP]
  refine U.gB ?_;simp only[aw,aZ,Nat.reduceEqDiff,reduceIte];refine ⟨fun h =>?_,fun h =>?_⟩
  ·cases h
  refine U.skip ?_;try simp only[cP]
  refine .dN (by decide +kernel) fun K hK =>?_;simp only[pf,aZ]
  try simp only[hE,kG,aZ,Nat.reduceEqDiff,reduceIte]
  refine aX.tq cA rfl hn rfl (by omega) (by simp only[maxLen];omega) fun m =>?_
  try simp only[aZ,Nat.reduceEqDiff,reduceIte]
  refine .done (hK _ ?_);clear hK K;refine U.ret ?_;simp only[jG];exact ⟨eP 7 l m,[.view 7 [] 8 0 l.length],nH rfl (fun p=>fT p _),⟨⟨_,rfl,.inl ⟨rfl,rfl,rfl⟩⟩,trivial⟩,.inr ⟨hn,m,rfl,rfl⟩⟩
def fQ(l:List ai)(i:Nat)(g:ai):List ai:=l.take i++g::l.drop i
theorem Tz{l:List ai}{i:Nat}(g:ai)(h:i≤l.length):(fQ l i g).length=l.length+1:=by
 simp only[fQ,Z1,Z9,Y4,zz1];omega
def Ah(l:List ai)(i:Nat)(g:ai)(k:Nat):bY:=fun r os' =>
 (∃ q,r=.view 1000000 [] 8 0 (l.length+1)∧os'=eP 1000000 (fQ l i g) q)∨∃ d q,(d=25∨d=40)∧r=.view d [] 8 0 (l.length+1)∧os'=eP d (fQ l i g) q++eP 1000000 l k
theorem Uj(l:List ai)(i q:Nat)(g:ai)(h:i<l.length)(xs:List ai)(hx:xs=l.take i++(List.replicate (l.length+1-i) cA++List.replicate q cA))(ys:List ai)(hy:ys=xs.take i++([g].take 1++xs.drop (i+1))) :
  ys.take (i+1)++((((l++List.replicate 0 cA).drop i).take (l.length-i)).take (l.length-i)++ys.drop (i+1+(l.length-i)))=fQ l i g++List.replicate q cA:=by
 have e1:xs.take i=l.take i:=by rw[hx,List.take_append_of_le_length (by rw[Z9];omega),List.take_take,Nat.min_self]
 have e2:xs.drop (i+1)=List.replicate (l.length-i+q) cA:=by
  have hl:(l.take i).length=i:=by rw[Z9];omega
  rw[hx,List.replicate_append_replicate,List.drop_append,hl,List.drop_eq_nil_of_le (by rw[hl];omega),X3,List.drop_replicate]
  congr 1;omega
 have e3:ys=(l.take i++[g])++List.replicate (l.length-i+q) cA:=by rw[hy,e1,e2];simp
 have hl2:(l.take i++[g]).length=i+1:=by rw[Z1,Z9];simp;omega
 have e4:ys.take (i+1)=l.take i++[g]:=by rw[e3,←hl2,List.take_left]
 have e5:ys.drop (i+1+(l.length-i))=List.replicate q cA:=by
  rw[e3,List.drop_append,hl2,List.drop_eq_nil_of_le (by rw[hl2];omega),X3,List.drop_replicate]
  congr 1;omega
 have e6:(((l++List.replicate 0 cA).drop i).take (l.length-i)).take (l.length-i)=l.drop i:=by
  rw[List.replicate_zero,List.append_nil,List.take_take,Nat.min_self,List.take_of_length_le (by rw[zz1];omega)]
 rw[e4,e5,e6];simp[fQ]
theorem Ui(l:List ai)(i k:Nat)(g:ai)(h:i<l.length)(hk:1≤k)(xs:List ai)(hx:xs=l++List.replicate k cA)(ys:List ai)(hy:ys=xs.take (i+1)++(((xs.drop i).take (l.length+1-i)).take (l.length-i)++xs.drop (i+1+(l.length-i)))) :
  ys.take i++([g].take 1++ys.drop (i+1))=fQ l i g++List.replicate (k-1) cA:=by
 have e1:((xs.drop i).take (l.length+1-i)).take (l.length-i)=l.drop i:=by
  rw[List.take_take,Nat.min_eq_left (by omega),hx,List.drop_append_of_le_length (by omega),List.take_append_of_le_length (by rw[zz1];omega),List.take_of_length_le (by rw[zz1];omega)]
 have e2:xs.drop (i+1+(l.length-i))=List.replicate (k-1) cA:=by
  rw[hx,List.drop_append,List.drop_eq_nil_of_le (by omega),X3,List.drop_replicate]
  congr 1;omega
 have hl:(xs.take (i+1)).length=i+1:=by rw[Z9,hx,Z1];omega
 have e3:ys.take i=l.take i:=by
  rw[hy,List.take_append_of_le_length (by omega),List.take_take,Nat.min_eq_left (by omega),hx,List.take_append_of_le_length (by omega)]
 have e4:ys.drop (i+1)=l.drop i++List.replicate (k-1) cA:=by
  rw[hy,e1,e2];exact List.drop_left' hl
 rw[e3,e4];simp[fQ]
theorem DZ(l:List ai)(i:Nat)(g:ai)(k:Nat)(hi:i≤l.length)(hn:l≠[])(hlen:l.length≤1000) :
  eI Tryz.prog 101 [.view 1000000 [] 8 0 l.length,enc (i:Int),enc [g]] (eP 1000000 l k) (Ah l i g k):=by
 refine eI.bM Tryz.func101 tG tI tO (t8 rfl) (t8 rfl) (fun m hm=>by rw[gA.1 hm];exact Z3 _) (fun hwf W0 bF E1 =>?_);simp only[qK,sn,bB,Z8,Nat.reduceAdd];simp only[eP];have hl0:0<l.length:=List.length_pos_iff.2 hn;have htot:((l++List.replicate k cA).map (enc (α:=ai))).length=l.length+k:=by simp
 refine .dN (by decide +kernel) fun K hK =>?_;simp only[rh,aZ];refine .done (hK _ ?_);clear hK K;obtain ⟨y,hy⟩:=WT (n:=1000000) (p:=[]) (sz:=8) hi (show l.length≤l.length+k by omega);refine .dN (by decide +kernel) fun K hK =>?_;simp only[ri,aZ,Nat.reduceEqDiff,reduceIte]
 try simp only[hE,htot,X7,hy,aZ,reduceIte]
 refine .done (hK _ ?_);clear hK K;refine .dN (by decide +kernel) fun K hK =>?_;simp only[rj,aZ,Nat.reduceEqDiff,reduceIte]
 try simp only[typR,iJ,jC,iT,aZ,Nat.reduceEqDiff,reduceIte,Int.reduceBNe,Int.reduceBEq]
 refine .done (hK _ ?_);clear hK K;refine U.seq (U.seq ?_);refine .gT (by decide +kernel) fun K hK =>?_;simp only[rl,aZ,Nat.reduceEqDiff,reduceIte]
 try simp only[typR,iJ,jC,iT,aZ,Nat.reduceEqDiff,reduceIte,Int.reduceBNe,Int.reduceBEq]
 refine .done (hK _ ?_);clear hK K;try simp only[cP]
 refine U.gB ?_;simp only[aw,aZ,Nat.reduceEqDiff,reduceIte];refine ⟨fun h =>?_,fun h =>?_⟩
 ·first | cases h | simp at h
 refine U.skip ?_;try simp only[cP]
 refine .dN (by decide +kernel) fun K hK =>?_;simp only[rm,aZ,Nat.reduceEqDiff,reduceIte]
 try simp only[hE,aZ,Nat.reduceEqDiff,reduceIte]
 refine .done (hK _ ?_);clear hK K;refine U.seq (U.seq ?_);refine .gT (by decide +kernel) fun K hK =>?_;simp only[rn,aZ,Nat.reduceEqDiff,reduceIte]
 try simp only[typR,iJ,jC,iT,aZ,Nat.reduceEqDiff,reduceIte,Int.reduceBNe,Int.reduceBEq]
 refine .done (hK _ ?_);clear hK K;try simp only[cP]
 have hA:∀ ts,(ay ts [(1000000,.box (.agg ((l++List.replicate k cA).map (enc (α:=ai)))))]).o 1000000=some (.box (.agg ((l++List.replicate k cA).map enc))):=fun _=>rfl;have hN:∀ ts (d:Nat),d≠1000000→(ay ts [(1000000,.box (.agg ((l++List.replicate k cA).map (enc (α:=ai)))))]).o d=none:=fun ts d hd=>by
  have:¬ d=1000000:=hd;simp[ay,aJ,this]
 refine U.gB ?_;simp only[aw,aZ,Nat.reduceEqDiff,reduceIte];refine ⟨fun h =>?_,fun h =>?_⟩
 ·have hil:i=l.length:=by
   have:(i:Int)=l.length:=by simpa using h
   omega
  subst hil;by_cases hk:k=0
  ·subst hk;refine .dN (by decide +kernel) fun K hK =>?_;simp only[pc,aZ,Nat.reduceEqDiff,reduceIte]
   try simp only[kG]
   refine aX.Ff (esz:=8) cA rfl (xs:=l++List.replicate 0 cA) (ys:=[g]) (by simp) (hA _) (by simp) (by simp) (hN _ 25 (by decide)) (by simp;omega) (by simp[maxLen];omega) fun q =>?_;have hc:(l++List.replicate 0 cA).take l.length++([g]++List.replicate q cA)=fQ l l.length g++List.replicate q cA:=by simp[fQ]
   rw[hc]
   try simp only[List.length_singleton,aZ,Nat.reduceEqDiff,reduceIte]
   refine .done (hK _ ?_);clear hK K;refine U.ret ?_;simp only[cP,jG];exact ⟨eP 25 (fQ l l.length g) q++eP 1000000 l 0,[.view 25 [] 8 0 (l.length+1)],Aa rfl (fun p=>fT p _) rfl (fun p=>fT p _),⟨⟨_,rfl,.inl ⟨rfl,rfl,rfl⟩⟩,trivial⟩,.inr ⟨25,q,.inl rfl,rfl,rfl⟩⟩
  ·refine .dN (by decide +kernel) fun K hK =>?_;simp only[pc,aZ,Nat.reduceEqDiff,reduceIte]
   try simp only[kG]
   rw[xa (esz:=8) _ rfl (xs:=l++List.replicate k cA) (ys:=[g]) (by simp) (hA _) (by simp;omega)];have hc:(l++List.replicate k cA).take l.length++([g]++(l++List.replicate k cA).drop (l.length+[g].length))=fQ l l.length g++List.replicate (k-1) cA:=by
    simp[fQ,List.drop_append]
   rw[hc]
   try simp only[List.length_singleton,aZ,Nat.reduceEqDiff,reduceIte]
   refine .done (hK _ ?_);clear hK K;refine U.ret ?_;simp only[cP,jG];exact ⟨eP 1000000 (fQ l l.length g) (k-1),[.view 1000000 [] 8 0 (l.length+1)],nH rfl (fun p=>fT p _),⟨⟨_,rfl,.inl ⟨rfl,rfl,rfl⟩⟩,trivial⟩,.inl ⟨k-1,rfl,rfl⟩⟩
 have hlt:i<l.length:=by
  have:¬ (i:Int)=l.length:=by simpa using h
  omega
 refine U.skip ?_;try simp only[cP]
 refine U.seq (U.seq ?_);refine .gT (by decide +kernel) fun K hK =>?_;simp only[zN,aZ,Nat.reduceEqDiff,reduceIte]
 try simp only[UO,List.length_singleton,aZ,Nat.reduceEqDiff,reduceIte]
 rw[Hg (xs:=l++List.replicate k cA) (hA _)]
 try simp only[aZ,Nat.reduceEqDiff,reduceIte]
 rw[dB _ (by simp;omega) (by simp;omega)];refine .done (hK _ ?_);clear hK K;try simp only[cP]
 have hgt:decide ((((l++List.replicate k cA).length-0:Nat):Int)<(l.length:Int)+((1:Nat):Int))=decide (k=0):=by
  by_cases hk:k=0 <;>simp[hk] <;>omega
 simp only[hgt];by_cases hk:k=0
 ·subst hk;refine U.gB ?_;simp only[aw,aZ,Nat.reduceEqDiff,reduceIte];refine ⟨fun h =>?_,fun h =>?_⟩
  ·have htot0:((l++List.replicate 0 cA).map (enc (α:=ai))).length=l.length:=by simp
   refine .dN (by decide +kernel) fun K hK =>?_;simp only[zO,aZ,Nat.reduceEqDiff,reduceIte]
   try simp only[hE,htot0,X7,Dm (show i≤l.length by omega) hl0,kG,UH,aZ,Nat.reduceEqDiff,reduceIte]
   rw[dB ((l.length:Int)+((1:Nat):Int)) (by omega) (by omega),dB ((l.length:Int)+((1:Nat):Int)-i) (by omega) (by omega)];have hm:(l.length:Int)+((1:Nat):Int)-i=((l.length+1-i:Nat):Int):=by omega
   rw[hm];refine aX.Fp (esz:=8) cA rfl (xs:=l++List.replicate 0 cA) (hA _) (by simp;omega) (by omega) (by simp;omega) (hN _ 40 (by decide)) (by omega) (by simp only[maxLen];omega) fun q =>?_;obtain ⟨xs,hxs⟩:∃ xs,xs=l.take i++(List.replicate (l.length+1-i) cA++List.replicate q cA):=⟨_,rfl⟩
   have hxs':(l++List.replicate 0 cA).take i++(List.replicate (l.length+1-i) cA++List.replicate q cA)=xs:=by rw[hxs,List.take_append_of_le_length (by omega)]
   have hxl:xs.length=l.length+1+q:=by rw[hxs];simp;omega
   have hle:i+(l.length+1-i)=l.length+1:=by omega
   rw[hxs',hle]
   try simp only[aZ,Nat.reduceEqDiff,reduceIte]
   refine .done (hK _ ?_);clear hK K;have hxm:(xs.map (enc (α:=ai))).length=l.length+1+q:=by rw[Z2];exact hxl
   have hA2:∀ ts,(ay ts [(40,.box (.agg (xs.map (enc (α:=ai))))),(1000000,.box (.agg ((l++List.replicate 0 cA).map (enc (α:=ai)))))]).o 40=some (.box (.agg (xs.map enc))):=fun _=>rfl;refine .dN (by decide +kernel) fun K hK =>?_;simp only[zF,aZ,Nat.reduceEqDiff,reduceIte]
   try simp only[hE,hxm,X7,lP (show i≤l.length+1 by omega) (show l.length+1≤l.length+1+q by omega) (show i<l.length+1+q by omega),lG,aZ,Nat.reduceEqDiff,reduceIte]
   rw[Dr,nr (xs:=xs) (c:=1) (hA2 _) (by omega) (by simp;omega)];obtain ⟨ys,hys⟩:∃ ys,ys=xs.take i++([g].take 1++xs.drop (i+1)):=⟨_,rfl⟩
   have hyl:ys.length=l.length+1+q:=by rw[hys];simp;omega
   rw[←hys]
   try simp only[aZ]
   refine .done (hK _ ?_);clear hK K;have hym:(ys.map (enc (α:=ai))).length=l.length+1+q:=by rw[Z2];exact hyl
   have hA3:∀ ts z,(ay ts [(40,.box (.agg (ys.map (enc (α:=ai))))),(40,z),(1000000,.box (.agg ((l++List.replicate 0 cA).map (enc (α:=ai)))))]).o 40=some (.box (.agg (ys.map enc))):=fun _ _=>rfl;have hA4:∀ ts z,(ay ts [(40,.box (.agg (ys.map (enc (α:=ai))))),(40,z),(1000000,.box (.agg ((l++List.replicate 0 cA).map (enc (α:=ai)))))]).o 1000000=some (.box (.agg ((l++List.replicate 0 cA).map enc))):=fun _ _=>rfl;refine .dN (by decide +kernel) fun K hK =>?_;simp only[zG,aZ,Nat.reduceEqDiff,reduceIte];rw[dB ((i:Int)+((1:Nat):Int)) (by omega) (by omega)];have hi1:(i:Int)+((1:Nat):Int)=((i+1:Nat):Int):=by omega
   try simp only[hE,hym,htot0,hi1,X7,Z7,lP (show i+1≤l.length+1 by omega) (show l.length+1≤l.length+1+q by omega) (show i+1<l.length+1+q by omega),lP (show i≤l.length by omega) (Z3 l.length) hlt,lG,aZ,Nat.reduceEqDiff,reduceIte]
   have hd1:l.length+1-(i+1)=l.length-i:=by omega
   rw[hd1,Ds (xs:=l++List.replicate 0 cA) (hA4 _ _) (by simp;omega),nr (xs:=ys) (c:=l.length-i) (hA3 _ _) (by omega) (by simp)];rw[Uj l i q g hlt xs hxs ys hys]
   try simp only[aZ]
   refine .done (hK _ ?_);clear hK K;refine .dN (by decide +kernel) fun K hK =>?_;simp only[zH,aZ,Nat.reduceEqDiff,reduceIte];refine .done (hK _ ?_);clear hK K;refine U.ret ?_;simp only[cP,jG];exact ⟨eP 40 (fQ l i g) q++eP 1000000 l 0,[.view 40 [] 8 0 (l.length+1)],Aa rfl (fun p=>fT p _) rfl (fun p=>fT p _),⟨⟨_,rfl,.inl ⟨rfl,rfl,rfl⟩⟩,trivial⟩,.inr ⟨40,q,.inr rfl,rfl,rfl⟩⟩
  ·simp at h
 ·refine U.gB ?_;simp only[aw,aZ,Nat.reduceEqDiff,reduceIte];refine ⟨fun h =>?_,fun h =>?_⟩
  ·simp at h;omega
  refine U.skip ?_;try simp only[cP]
  have hk1:1≤k:=by omega
  have hn1:(l.length:Int)+((1:Nat):Int)=((l.length+1:Nat):Int):=by omega
  refine .dN (by decide +kernel) fun K hK =>?_;simp only[zI,aZ,Nat.reduceEqDiff,reduceIte];rw[dB ((l.length:Int)+((1:Nat):Int)) (by omega) (by omega)]
  try simp only[hE,htot,hn1,X7,Dm (show l.length+1≤l.length+k by omega) (show 0<l.length+k by omega),aZ,Nat.reduceEqDiff,reduceIte]
  refine .done (hK _ ?_);clear hK K;have hi1:(i:Int)+((1:Nat):Int)=((i+1:Nat):Int):=by omega
  have hd1:l.length+1-(i+1)=l.length-i:=by omega
  refine U.seq (U.seq ?_);refine .gT (by decide +kernel) fun K hK =>?_;simp only[zJ,aZ,Nat.reduceEqDiff,reduceIte];rw[dB ((i:Int)+((1:Nat):Int)) (by omega) (by omega)]
  try simp only[hE,htot,hi1,hd1,X7,lP (show i+1≤l.length+1 by omega) (show l.length+1≤l.length+k by omega) (show i+1<l.length+k by omega),Vm,aZ,Nat.reduceEqDiff,reduceIte]
  refine .ext (.bool false) rfl (Xn (tS:=23) (tR:=4) (e:=50) Tryz.func143 (by kernel_rfl) (by kernel_rfl) (by kernel_rfl) (by kernel_rfl) (by kernel_rfl) (by kernel_rfl) (hA _) rfl ?_ (by decide) (K8 (by intro h;have:=congrArg List.length h;rw[Z1,List.length_replicate,X2] at this;omega) rfl)) ?_
  ·show I.sizes ((l++List.replicate k cA).map enc)≠0
   rw[I.fY (sz:=8) _ (fun e he=>by obtain ⟨x,_,rfl⟩:=X0.1 he;rw[ly];rfl)];rw[htot];omega
  try simp only[aZ,Nat.reduceEqDiff,reduceIte]
  refine .done (hK _ ?_);clear hK K;try simp only[cP]
  refine U.gB ?_;simp only[aw,aZ,Nat.reduceEqDiff,reduceIte];refine ⟨fun h =>?_,fun h =>?_⟩
  case neg.refine_2.refine_2.refine_2=>cases h
  have hd2:l.length+1-i=l.length+1-i:=rfl;obtain ⟨xs,hxs⟩:∃ xs,xs=l++List.replicate k cA:=⟨_,rfl⟩
  have hxl:xs.length=l.length+k:=by rw[hxs];simp
  have hxm:(xs.map (enc (α:=ai))).length=l.length+k:=by rw[Z2];exact hxl
  rw[←hxs];have hB:∀ ts,(ay ts [(1000000,.box (.agg (xs.map (enc (α:=ai)))))]).o 1000000=some (.box (.agg (xs.map enc))):=fun _=>rfl;refine .dN (by decide +kernel) fun K hK =>?_;simp only[zK,aZ,Nat.reduceEqDiff,reduceIte];rw[dB ((i:Int)+((1:Nat):Int)) (by omega) (by omega)]
  try simp only[hE,hxm,hi1,hd1,X7,Z7,lP (show i+1≤l.length+1 by omega) (show l.length+1≤l.length+k by omega) (show i+1<l.length+k by omega),lP (show i≤l.length+1 by omega) (show l.length+1≤l.length+k by omega) (show i<l.length+k by omega),lG,aZ,Nat.reduceEqDiff,reduceIte]
  rw[Ds (xs:=xs) (hB _) (by omega),nr (xs:=xs) (c:=l.length-i) (hB _) (by omega) (by simp;omega)];obtain ⟨ys,hys⟩:∃ ys,ys=xs.take (i+1)++(((xs.drop i).take (l.length+1-i)).take (l.length-i)++xs.drop (i+1+(l.length-i))):=⟨_,rfl⟩
  have hyl:ys.length=l.length+k:=by rw[hys];simp;omega
  have hym:(ys.map (enc (α:=ai))).length=l.length+k:=by rw[Z2];exact hyl
  rw[←hys]
  try simp only[aZ]
  refine .done (hK _ ?_);clear hK K;have hC:∀ ts z,(ay ts [(1000000,.box (.agg (ys.map (enc (α:=ai))))),(1000000,z)]).o 1000000=some (.box (.agg (ys.map enc))):=fun _ _=>rfl;refine .dN (by decide +kernel) fun K hK =>?_;simp only[zL,aZ,Nat.reduceEqDiff,reduceIte]
  try simp only[hE,hym,X7,lP (show i≤l.length+1 by omega) (show l.length+1≤l.length+k by omega) (show i<l.length+k by omega),lG,aZ,Nat.reduceEqDiff,reduceIte]
  rw[Dr,nr (xs:=ys) (c:=1) (hC _ _) (by omega) (by simp;omega)];rw[Ui l i k g hlt hk1 xs hxs ys hys]
  try simp only[aZ]
  refine .done (hK _ ?_);clear hK K;refine .dN (by decide +kernel) fun K hK =>?_;simp only[zM,aZ,Nat.reduceEqDiff,reduceIte];refine .done (hK _ ?_);clear hK K;refine U.ret ?_;simp only[cP,jG];exact ⟨eP 1000000 (fQ l i g) (k-1),[.view 1000000 [] 8 0 (l.length+1)],nH rfl (fun p=>fT p _),⟨⟨_,rfl,.inl ⟨rfl,rfl,rfl⟩⟩,trivial⟩,.inl ⟨k-1,rfl,rfl⟩⟩
def gf(a b:Int):Int:=if a<b then -1 else if a>b then 1 else 0
def lx(a b:Item):Int:=if gf a.bd b.bd≠0 then gf a.bd b.bd else gf a.no b.no
def eR(a b:Item):Bool:=decide (a.bd<b.bd∨(a.bd=b.bd∧a.no<b.no))
theorem yL(a b:Int):(a<b∧gf a b=-1)∨(a=b∧gf a b=0)∨(b<a∧gf a b=1):=by
 simp only[gf]
 (repeat' split) <;>omega
theorem yM(a b:Item):(eR a b=true∧lx a b=-1)∨(a=b∧lx a b=0)∨(eR b a=true∧lx a b=1):=by
 obtain ⟨m,n⟩:=a;obtain ⟨m',n'⟩:=b;simp only[lx,eR,decide_eq_true_eq,Item.mk.injEq];rcases yL m m' with ⟨h,e⟩ | ⟨h,e⟩ | ⟨h,e⟩ <;>rw[e]
 ·simp;omega
 ·rcases yL n n' with ⟨h2,e2⟩ | ⟨h2,e2⟩ | ⟨h2,e2⟩ <;>rw[e2] <;>simp <;>omega
 ·simp;omega
theorem oM(a:Item):eR a a=false:=by simp only[eR,decide_eq_false_iff_not];omega
theorem tx{a b c:Item}(h:eR a b=true)(k:eR b c=true):eR a c=true:=by
 simp only[eR,decide_eq_true_eq] at *;omega
theorem Iu(a b:Item):decide (lx a b<0)=eR a b:=by
 rcases yM a b with ⟨h,e⟩ | ⟨rfl,e⟩ | ⟨h,e⟩
 ·rw[e,h];rfl
 ·rw[e,oM];rfl
 ·rw[e];cases k:eR a b
  ·rfl
  ·have:=tx k h;rw[oM] at this;cases this
theorem Iv(a b:Item):(lx a b==0)=decide (a=b):=by
 rcases yM a b with ⟨h,e⟩ | ⟨rfl,e⟩ | ⟨h,e⟩
 ·rw[e,decide_eq_false (fun k=>by rw[k,oM] at h;cases h)];rfl
 ·rw[e];simp
 ·rw[e,decide_eq_false (fun k=>by rw[k,oM] at h;cases h)];rfl
theorem wN(n:Int):aQ Tryz.prog 175 [enc n] (enc false):=by
 refine aQ.bM Tryz.func175 Gy HI IZ (t8 rfl) (fun hwf W0 bF E1 =>?_);simp only[c175,BZ,bB];clear hwf;have q:(n != n)=false:=by simp
 have R:=y6 @q aD
 repeat' ((first |refine U.aG (by decide +kernel) rfl fun K hK =>?_|(refine .aE [0,2] hK ?_;clear hK K)|(with_reducible refine .done (hK _ ?_);clear hK K)|refine U.of rfl ?_|(with_reducible refine aw.aF (fun h =>?_) (fun h =>?_) <;>try simp only[h])) <;>try simp only[aH,R,simprocAttr])
 all_goals clear R
 all_goals rfl
theorem wM(a b:Int):aQ Tryz.prog 161 [enc a,enc b] (enc (gf a b)):=by
 refine aQ.bM Tryz.func161 Gw HE IW (t8 rfl) (fun hwf W0 bF E1 =>?_);simp only[xN,BW,bB,Z8];clear hwf;have f1:=wN a;have f2:=wN b;simp only[gf];cases q1:decide (a<b)
 ·rw[if_neg (of_decide_eq_false q1)];cases q2:decide (a>b)
  ·rw[if_neg (of_decide_eq_false q2)];have R:=y6 @q1 (y6 @q2 aD)
   repeat' ((first |refine U.aG (by decide +kernel) rfl fun K hK =>?_|refine .flat _ (f1) rfl ?_|refine .flat _ (f2) rfl ?_|(refine .aE [0,1,4,5,6,11,12,13,16,19] hK ?_;clear hK K)|(with_reducible refine .done (hK _ ?_);clear hK K)|refine U.of rfl ?_|(with_reducible refine aw.aF (fun h =>?_) (fun h =>?_) <;>try simp only[h])) <;>try simp only[aH,R,simprocAttr])
   all_goals clear R
   all_goals rfl
  ·rw[if_pos (of_decide_eq_true q2)];have R:=y6 @q1 (y6 @q2 aD)
   repeat' ((first |refine U.aG (by decide +kernel) rfl fun K hK =>?_|refine .flat _ (f1) rfl ?_|refine .flat _ (f2) rfl ?_|(refine .aE [0,1,4,5,6,11,12,13,16,19] hK ?_;clear hK K)|(with_reducible refine .done (hK _ ?_);clear hK K)|refine U.of rfl ?_|(with_reducible refine aw.aF (fun h =>?_) (fun h =>?_) <;>try simp only[h])) <;>try simp only[aH,R,simprocAttr])
   all_goals clear R
   all_goals rfl
 ·rw[if_pos (of_decide_eq_true q1)];have R:=y6 @q1 aD
  repeat' ((first |refine U.aG (by decide +kernel) rfl fun K hK =>?_|refine .flat _ (f1) rfl ?_|refine .flat _ (f2) rfl ?_|(refine .aE [0,1,4,5,6,11,12,13,16,19] hK ?_;clear hK K)|(with_reducible refine .done (hK _ ?_);clear hK K)|refine U.of rfl ?_|(with_reducible refine aw.aF (fun h =>?_) (fun h =>?_) <;>try simp only[h])) <;>try simp only[aH,R,simprocAttr])
  all_goals clear R
  all_goals rfl
theorem Eo(a b:Int):aQ Tryz.prog 160 [enc [a,b]] (enc (if a≠0 then a else b)):=by
 refine aQ.bM Tryz.func160 Gv HD IV (t8 rfl) (fun hwf W0 bF E1 =>?_);simp only[xM,BV,bB];clear hwf;have h0:∀ A,iX A 1 ((0:Nat):Int) (enc [a,b])=some (.ref (enc a)):=fun A=>fR (A:=A) (l:=[a,b]) (k:=0) 1 (by simp) rfl;have h1:∀ A,iX A 1 ((1:Nat):Int) (enc [a,b])=some (.ref (enc b)):=fun A=>fR (A:=A) (l:=[a,b]) (k:=1) 1 (by simp) rfl;have hl:([a,b]:List Int).length=2:=rfl;obtain ⟨l,hll⟩:∃ l,l=[a,b]:=⟨_,rfl⟩
 rw[←hll] at h0 h1 hl ⊢;have R:=aD
 repeat' ((first |refine U.aG (by decide +kernel) rfl fun K hK =>?_|(refine .aE [0,2,3,5,6,7,8,9,14] hK ?_;clear hK K)|(with_reducible refine .done (hK _ ?_);clear hK K)|refine U.of rfl ?_|(with_reducible refine aw.aF (fun h =>?_) (fun h =>?_) <;>try simp only[h])) <;>try simp only[aH,R,simprocAttr])
 all_goals clear R
 refine U.loop (fun i:Nat=>ay [(0,enc l),(3,.int .i64 0),(6,enc l),(7,.int .i64 (l.length:Int)),(8,.int .i64 (i:Int))] []) (fun i=>i≤2∧(0<i→a=0)∧(1<i→b=0)) (fun i=>2-i) 0 ⟨by omega,by omega,by omega⟩ ?_ ?_
 ·refine bw.cK ?_ ?_ ?_ ?_ <;>simp[cj,cn,cm,bQ,cg,I.only,bG]
  all_goals rfl
 rintro i ⟨hi,k0,k1⟩;have hw:=eE (i:=i) (by omega);by_cases e0:i=0
 ·have hc:=eO (show i<l.length by omega);have he:∀ A,iX A 1 (i:Int) (enc l)=some (.ref (enc a)):=fun A=>by rw[e0];exact h0 A
  cases q:(a != 0)
  ·have R:=y6 @hc (y6 @he (y6 @q (y6 @hw aD)))
   repeat' ((first |refine U.aG (by decide +kernel) rfl fun K hK =>?_|(refine .aE [0,2,3,5,6,7,8,9,14] hK ?_;clear hK K)|(with_reducible refine .done (hK _ ?_);clear hK K)|refine U.of rfl ?_|(with_reducible refine aw.aF (fun h =>?_) (fun h =>?_) <;>try simp only[h])) <;>try simp only[aH,R,simprocAttr])
   all_goals clear R
   refine ⟨i+1,⟨by omega,fun _=>by simpa using q,by omega⟩,by omega,?_⟩;refine bw.cK ?_ ?_ ?_ ?_ <;>simp[cj,cn,cm,bQ,cg,I.only,bG]
   all_goals rfl
  ·have ha:a≠0:=by simpa using q
   rw[if_pos ha];have R:=y6 @hc (y6 @he (y6 @q (y6 @hw aD)))
   repeat' ((first |refine U.aG (by decide +kernel) rfl fun K hK =>?_|(refine .aE [0,2,3,5,6,7,8,9,14] hK ?_;clear hK K)|(with_reducible refine .done (hK _ ?_);clear hK K)|refine U.of rfl ?_|(with_reducible refine aw.aF (fun h =>?_) (fun h =>?_) <;>try simp only[h])) <;>try simp only[aH,R,simprocAttr])
   all_goals clear R
   all_goals rfl
 have ha:¬ a≠0:=fun h=>h (k0 (by omega));by_cases e1:i=1
 ·have hc:=eO (show i<l.length by omega);have he:∀ A,iX A 1 (i:Int) (enc l)=some (.ref (enc b)):=fun A=>by rw[e1];exact h1 A
  cases q:(b != 0)
  ·have R:=y6 @hc (y6 @he (y6 @q (y6 @hw aD)))
   repeat' ((first |refine U.aG (by decide +kernel) rfl fun K hK =>?_|(refine .aE [0,2,3,5,6,7,8,9,14] hK ?_;clear hK K)|(with_reducible refine .done (hK _ ?_);clear hK K)|refine U.of rfl ?_|(with_reducible refine aw.aF (fun h =>?_) (fun h =>?_) <;>try simp only[h])) <;>try simp only[aH,R,simprocAttr])
   all_goals clear R
   refine ⟨i+1,⟨by omega,fun _=>k0 (by omega),fun _=>by simpa using q⟩,by omega,?_⟩;refine bw.cK ?_ ?_ ?_ ?_ <;>simp[cj,cn,cm,bQ,cg,I.only,bG]
   all_goals rfl
  ·rw[if_neg ha];have R:=y6 @hc (y6 @he (y6 @q (y6 @hw aD)))
   repeat' ((first |refine U.aG (by decide +kernel) rfl fun K hK =>?_|(refine .aE [0,2,3,5,6,7,8,9,14] hK ?_;clear hK K)|(with_reducible refine .done (hK _ ?_);clear hK K)|refine U.of rfl ?_|(with_reducible refine aw.aF (fun h =>?_) (fun h =>?_) <;>try simp only[h])) <;>try simp only[aH,R,simprocAttr])
   all_goals clear R
   all_goals rfl
 have hc:=fm (show ¬ i<l.length by omega);rw[if_neg ha,k1 (by omega)];have R:=y6 @hc aD
 repeat' ((first |refine U.aG (by decide +kernel) rfl fun K hK =>?_|(refine .aE [0,2,3,5,6,7,8,9,14] hK ?_;clear hK K)|(with_reducible refine .done (hK _ ?_);clear hK K)|refine U.of rfl ?_|(with_reducible refine aw.aF (fun h =>?_) (fun h =>?_) <;>try simp only[h])) <;>try simp only[aH,R,simprocAttr])
 all_goals clear R
 all_goals rfl
theorem Ej(a b:Item):aQ Tryz.prog 140 [enc a,enc b] (enc (lx a b)):=by
 refine aQ.bM Tryz.func140 Gn Hy IP (t8 rfl) (fun hwf W0 bF E1 =>?_);simp only[xH,BQ,bB,Z8];clear hwf;have f1:=wM a.bd b.bd;have f2:=wM a.no b.no;have f3:=Eo (gf a.bd b.bd) (gf a.no b.no);have hbs:gw 1 (some [.int .i64 (gf a.bd b.bd),.int .i64 (gf a.no b.no)])=some (enc [gf a.bd b.bd,gf a.no b.no]):=xl (ys:=[gf a.bd b.bd,gf a.no b.no]) 1 rfl;have R:=y6 @hbs aD
 repeat' ((first |refine U.aG (by decide +kernel) rfl fun K hK =>?_|refine .flat _ (f1) rfl ?_|refine .flat _ (f2) rfl ?_|refine .flat _ (f3) rfl ?_|(refine .aE [0,1,2,3,4] hK ?_;clear hK K)|(with_reducible refine .done (hK _ ?_);clear hK K)|refine U.of rfl ?_|(with_reducible refine aw.aF (fun h =>?_) (fun h =>?_) <;>try simp only[h])) <;>try simp only[aH,R,simprocAttr])
 all_goals clear R
 all_goals rfl
theorem wK(x:ai)(a:Item):aQ Tryz.prog 139 [enc x,enc a] (enc (lx x.bA a)):=by
 refine aQ.bM Tryz.func139 Gl Hw IM (t8 rfl) (fun hwf W0 bF E1 =>?_);simp only[xF,BO,bB,Z8];clear hwf;have R:=aD
 repeat' ((first |refine U.aG (by decide +kernel) rfl fun K hK =>?_|refine .flat _ (Ej x.bA a) rfl ?_|(refine .aE [0,1,2,3,4] hK ?_;clear hK K)|(with_reducible refine .done (hK _ ?_);clear hK K)|refine U.of rfl ?_|(with_reducible refine aw.aF (fun h =>?_) (fun h =>?_) <;>try simp only[h])) <;>try simp only[aH,R,simprocAttr])
 all_goals clear R
 all_goals rfl
theorem Xk(x y:Nat)(h:x+y<9223372036854775807):IntKind.i64.wrap ((x:Int)+(y:Int))=((x+y:Nat):Int):=by rw[dB _ (by omega) (by omega)];omega
theorem Xl{n:Nat}(h:n≤9223372036854775807):IntKind.i64.wrap (n:Int)=(n:Int):=dB _ (by omega) (by omega)
theorem u4(x:Nat):Int.fdiv (x:Int) (2^min (Int.toNat 1) IntKind.u64.bits)=((x / 2:Nat):Int):=by
 have:min (Int.toNat 1) IntKind.u64.bits=1:=rfl;rw[this]
 show Int.fdiv (x:Int) 2=_
 rw[Int.fdiv_eq_ediv_of_nonneg _ (by decide)];rfl
theorem AN(x:Nat):Int.fdiv (x:Int) (2^min 1 IntKind.u64.bits)=((x / 2:Nat):Int):=u4 x
theorem Ur{x:Nat}(h:x<9223372036854775807):IntKind.u64.wrap (x:Int)=(x:Int):=by
 simp only[IntKind.wrap,IntKind.bits,IntKind.signed];simp;omega
theorem AM:((0:Int)≤1)=True:=by simp
abbrev oG(l:List ai):Prop:=l.Pairwise fun a b=>nk a b=true
def fx(l:List ai)(a:Item):Nat:=l.findIdx fun x => !eR x.bA a
def jX(l:List ai)(a:Item):Bool:=l.any fun x=>decide (x.bA=a)
theorem VM(l:List ai)(a:Item):fx l a≤l.length:=List.findIdx_le_length
theorem v8{l:List ai}(h:oG l){i j:Nat}(hij:i<j)(hj:j<l.length):eR (l[i]'(by omega)).bA l[j].bA=true:=List.pairwise_iff_getElem.1 h i j (by omega) hj hij
theorem Bt{l:List ai}{a:Item}{i:Nat}(hi:i≤l.length)(h1:∀ k (h:k<l.length),k<i→eR l[k].bA a=true)(h2:∀ h:i<l.length,eR l[i].bA a=false):fx l a=i:=by
 simp only[fx];by_cases hlt:i<l.length
 ·refine (List.findIdx_eq hlt).2 ⟨by rw[h2 hlt];rfl,fun j hj =>?_⟩;rw[h1 j (by omega) hj];rfl
 ·have e:i=l.length:=by omega
  rw[e];refine List.findIdx_eq_length.2 fun x hx =>?_;obtain ⟨k,hk,rfl⟩:=List.getElem_of_mem hx;rw[h1 k hk (by omega)];rfl
theorem z7{l:List ai}(hs:oG l)(a:Item):jX l a=true↔∃ h:fx l a<l.length,(l[fx l a]).bA=a:=by
 constructor
 ·intro h;simp only[jX,List.any_eq_true,decide_eq_true_eq] at h;obtain ⟨x,hx,rfl⟩:=h;obtain ⟨k,hk,rfl⟩:=List.getElem_of_mem hx;have h1:fx l l[k].bA=k:=Bt (by omega) (fun j hj hjk=>v8 hs hjk hk) (fun _=>oM _);exact ⟨by omega,by simp only[h1]⟩
 ·rintro ⟨h1,h2⟩;simp only[jX,List.any_eq_true,decide_eq_true_eq];exact ⟨_,List.getElem_mem h1,h2⟩
theorem Eg(l:List ai)(a:Item)(hs:oG l)(hl:l.length≤1000):aQ Tryz.prog 138 [enc l,enc a,.func 139 []] (.tuple [enc (fx l a:Int),enc (jX l a)]):=by
 refine aQ.bM Tryz.func138 Gk Hv IL (t8 rfl) (fun hwf W0 bF E1 =>?_);simp only[xE,BN,bB,Z8,Nat.reduceAdd];clear hwf;have R:=aD
 repeat' ((first |(with_reducible refine .guard (fun hb =>?_) (fun hb =>?_) <;>try simp only[hb])|refine U.aG (by decide +kernel) rfl fun K hK =>?_|(refine .aE [0,1,2,4,6,7,8,9,10,11,17,31] hK ?_;clear hK K)|(with_reducible refine .done (hK _ ?_);clear hK K)|refine U.of rfl ?_|(with_reducible refine aw.aF (fun h =>?_) (fun h =>?_) <;>try simp only[h])) <;>try simp only[aH,R,simprocAttr])
 all_goals clear R
 refine U.loop (fun s:Nat×Nat=>ay [(0,enc l),(2,.func 139 []),(4,.ptr 4 []),(8,.int .i64 l.length),(9,.int .i64 s.1),(10,.int .i64 s.2)] [(4,.box (enc a))]) (fun s=>s.1≤s.2∧s.2≤l.length∧(∀ k (h:k<l.length),k<s.1→eR l[k].bA a=true)∧∀ k (h:k<l.length),s.2≤k→eR l[k].bA a=false) (fun s=>s.2-s.1) (0,l.length) ⟨Nat.zero_le _,Z3 _,fun k _ hk=>by omega,fun k h1 h2=>by simp only at h2;omega⟩ ?_ ?_
 ·refine bw.cK ?_ ?_ ?_ ?_ <;>simp[cj,cn,cm,bQ,aB,cg,dR,I.only,I.cF,ah.only,bG]
  all_goals rfl
 rintro ⟨i,j⟩ ⟨h1,h2,h3,h4⟩;simp only at h1 h2 h3 h4 ⊢;by_cases hlt:i<j
 ·have hc:=eO hlt;have w1:=Xk i j (by omega);have w2:=Ur (x:=i+j) (by omega);obtain ⟨h,hh⟩:∃ h,h=(i+j) / 2:=⟨_,rfl⟩
  have w5:=Xl (n:=h) (by omega);have hhl:h<l.length:=by omega
  have he:=fun A=>fR (A:=A) 8 hhl rfl;have hn:=Iu l[h].bA a;have hw:=eE (i:=h) (by omega);have f139:=wK l[h] a;rcases hb:eR l[h].bA a
  ·rw[hb] at hn;have hlo:∀ k (h':k<l.length),h≤k→eR l[k].bA a=false:=fun k hkl hk=>by
    cases hbk:eR l[k].bA a with
    |false=>rfl
    |true =>
     by_cases e:k=h
     ·subst e;rw[hb] at hbk;cases hbk
     ·have:=tx (v8 hs (show h<k by omega) hkl) hbk;rw[this] at hb;cases hb
   clear hb;generalize l[h]=r at *;have R:=y6 @hc (y6 @w1 (y6 @w2 (y6 @w5 (y6 @he (y6 @hn (y6 @hw (y6 @AN (y6 @u4 (y6 @AM (y6 @jS aD))))))))))
   repeat' ((first |(with_reducible refine .guard (fun hb =>?_) (fun hb =>?_) <;>try simp only[hb])|refine U.aG (by decide +kernel) rfl fun K hK =>?_|refine .flat _ (f139) rfl ?_|(refine .aE [0,1,2,4,6,7,8,9,10,11,17,31] hK ?_;clear hK K)|(with_reducible refine .done (hK _ ?_);clear hK K)|refine U.of rfl ?_|(with_reducible refine aw.aF (fun h =>?_) (fun h =>?_) <;>try simp only[h])) <;>try simp only[aH,R,←hh,Y3,simprocAttr])
   all_goals clear R
   refine ⟨(i,h),⟨by simp only;omega,by simp only;omega,h3,hlo⟩,by simp only;omega,?_⟩;clear hlo;refine bw.cK ?_ ?_ ?_ ?_ <;>simp[cj,cn,cm,bQ,aB,cg,dR,I.only,I.cF,ah.only,bG]
   all_goals rfl
  ·rw[hb] at hn;have hhi:∀ k (h':k<l.length),k<h+1→eR l[k].bA a=true:=fun k hkl hk=>by
    by_cases e:k=h
    ·subst e;exact hb
    ·cases hbk:eR l[k].bA a with
     |true=>rfl
     |false =>
      have:=tx (v8 hs (show k<h by omega) hhl) hb;rw[this] at hbk;cases hbk
   clear hb;generalize l[h]=r at *;have R:=y6 @hc (y6 @w1 (y6 @w2 (y6 @w5 (y6 @he (y6 @hn (y6 @hw (y6 @AN (y6 @u4 (y6 @AM (y6 @jS aD))))))))))
   repeat' ((first |(with_reducible refine .guard (fun hb =>?_) (fun hb =>?_) <;>try simp only[hb])|refine U.aG (by decide +kernel) rfl fun K hK =>?_|refine .flat _ (f139) rfl ?_|(refine .aE [0,1,2,4,6,7,8,9,10,11,17,31] hK ?_;clear hK K)|(with_reducible refine .done (hK _ ?_);clear hK K)|refine U.of rfl ?_|(with_reducible refine aw.aF (fun h =>?_) (fun h =>?_) <;>try simp only[h])) <;>try simp only[aH,R,←hh,Y3,simprocAttr])
   all_goals clear R
   refine ⟨(h+1,j),⟨by simp only;omega,h2,hhi,h4⟩,by simp only;omega,?_⟩;clear hhi;refine bw.cK ?_ ?_ ?_ ?_ <;>simp[cj,cn,cm,bQ,aB,cg,dR,I.only,I.cF,ah.only,bG]
   all_goals rfl
 ·have hij:i=j:=by omega
  subst hij;have hc:=fm hlt;have hp:fx l a=i:=Bt h2 h3 fun h=>h4 i h (Z3 _);have hh:=z7 hs a;rw[hp];by_cases hil:i<l.length
  ·have hc2:=eO hil;have he:=fun A=>fR (A:=A) 8 hil rfl;have hz:=Iv l[i].bA a;have hhz:jX l a=decide (l[i].bA=a):=by
    rw[Bool.eq_iff_iff,hh,decide_eq_true_eq];constructor
    ·rintro ⟨_,e⟩;simp only[hp] at e;exact e
    ·intro e;exact ⟨by omega,by simp only[hp];exact e⟩
   have f139:=wK l[i] a;rw[hhz];clear hhz h3 h4;generalize l[i]=r at *;have R:=y6 @hc (y6 @hc2 (y6 @he (y6 @hz (y6 @jS aD))))
   repeat' ((first |(with_reducible refine .guard (fun hb =>?_) (fun hb =>?_) <;>try simp only[hb])|refine U.aG (by decide +kernel) rfl fun K hK =>?_|refine .flat _ (f139) rfl ?_|(refine .aE [0,1,2,4,6,7,8,9,10,11,17,31] hK ?_;clear hK K)|(with_reducible refine .done (hK _ ?_);clear hK K)|refine U.of rfl ?_|(with_reducible refine aw.aF (fun h =>?_) (fun h =>?_) <;>try simp only[h])) <;>try simp only[aH,R,Y3,simprocAttr])
   all_goals clear R
   all_goals rfl
  ·have hc2:=fm hil;have hhz:jX l a=false:=by
    cases q:jX l a
    ·rfl
    ·obtain ⟨h,_⟩:=hh.1 q;omega
   rw[hhz];have R:=y6 @hc (y6 @hc2 aD)
   repeat' ((first |(with_reducible refine .guard (fun hb =>?_) (fun hb =>?_) <;>try simp only[hb])|refine U.aG (by decide +kernel) rfl fun K hK =>?_|(refine .aE [0,1,2,4,6,7,8,9,10,11,17,31] hK ?_;clear hK K)|(with_reducible refine .done (hK _ ?_);clear hK K)|refine U.of rfl ?_|(with_reducible refine aw.aF (fun h =>?_) (fun h =>?_) <;>try simp only[h])) <;>try simp only[aH,R,simprocAttr])
   all_goals clear R
   all_goals rfl
theorem EK(l:List ai)(a:Item)(hs:oG l)(hl:l.length≤1000):aQ Tryz.prog 94 [enc (⟨l⟩:iK),enc a] (.tuple [enc (fx l a:Int),enc (jX l a)]):=by
 have hF:=Eg l a hs hl;refine aQ.bM Tryz.func94 G7 Ig Jw (t8 rfl) (fun hwf W0 bF E1 =>?_);simp only[yq,Cw,bB,Z8];clear hwf;have R:=aD
 repeat' ((first |refine U.aG (by decide +kernel) rfl fun K hK =>?_|refine .lead _ (hF) ?_|(refine .aE [0,1,2,3,4,5] hK ?_;clear hK K)|(with_reducible refine .done (hK _ ?_);clear hK K)|refine U.of rfl ?_|(with_reducible refine aw.aF (fun h =>?_) (fun h =>?_) <;>try simp only[h])) <;>try simp only[aH,R,simprocAttr])
 all_goals clear R
 all_goals rfl
def kM(x:ai):List ai→Nat→Int
 | [],_=>-1
 |r::l,i=>if x=r then (i:Int) else kM x l (i+1)
theorem Ae(x:ai):∀ (l:List ai) (i:Nat),decide (kM x l i≥0)=decide (x∈l)
 | [],i=>by simp[kM]
 |r::l,i=>by
  rw[kM];by_cases h:x=r
  ·rw[if_pos h];subst h;simp
  ·rw[if_neg h,Ae x l (i+1)];simp[h]
theorem Em(l:List ai)(x:ai)(hl:l.length≤1000000000):aQ Tryz.prog 159 [enc l,enc x] (enc (kM x l 0)):=by
 refine aQ.bM Tryz.func159 Gt HB IT (t8 rfl) (fun hwf W0 bF E1 =>?_);simp only[xK,BT,bB,Z8];clear hwf;have R:=aD
 repeat' ((first |refine U.aG (by decide +kernel) rfl fun K hK =>?_|(refine .aE [0,1,3,4,5,7,8,9,16] hK ?_;clear hK K)|(with_reducible refine .done (hK _ ?_);clear hK K)|refine U.of rfl ?_|(with_reducible refine aw.aF (fun h =>?_) (fun h =>?_) <;>try simp only[h])) <;>try simp only[aH,R,simprocAttr])
 all_goals clear R
 refine U.loop (fun i:Nat=>ay [(0,enc l),(3,.ptr 3 []),(7,.int .i64 l.length),(8,.int .i64 i)] [(3,.box (enc x))]) (fun i=>i≤l.length∧kM x l 0=kM x (l.drop i) i) (fun i=>l.length-i) 0 ⟨Nat.zero_le _,by simp⟩ ?_ ?_
 ·refine bw.cK ?_ ?_ ?_ ?_ <;>simp[cj,cn,cm,bQ,aB,cg,dR,I.only,ah.only,bG]
  all_goals rfl
 rintro i ⟨hi,heq⟩;rw[heq];by_cases hlt:i<l.length
 ·have hlc:=eO hlt;have he:=fun A=>fR (A:=A) 8 hlt rfl;have hw:=eE (i:=i) (by omega);have hd:=List.drop_eq_getElem_cons hlt;rw[hd,kM] at heq ⊢;generalize l[i]=r at *;by_cases q:x=r
  ·rw[if_pos q];have q1:decide (x=r)=true:=decide_eq_true q;have R:=y6 @hlc (y6 @he (y6 @hw (y6 @q1 aD)))
   repeat' ((first |refine U.aG (by decide +kernel) rfl fun K hK =>?_|(refine .aE [0,1,3,4,5,7,8,9,16] hK ?_;clear hK K)|(with_reducible refine .done (hK _ ?_);clear hK K)|refine U.of rfl ?_|(with_reducible refine aw.aF (fun h =>?_) (fun h =>?_) <;>try simp only[h])) <;>try simp only[aH,R,simprocAttr])
   all_goals clear R
   all_goals rfl
  ·rw[if_neg q] at heq ⊢;have q1:decide (x=r)=false:=decide_eq_false q;have R:=y6 @hlc (y6 @he (y6 @hw (y6 @q1 aD)))
   repeat' ((first |refine U.aG (by decide +kernel) rfl fun K hK =>?_|(refine .aE [0,1,3,4,5,7,8,9,16] hK ?_;clear hK K)|(with_reducible refine .done (hK _ ?_);clear hK K)|refine U.of rfl ?_|(with_reducible refine aw.aF (fun h =>?_) (fun h =>?_) <;>try simp only[h])) <;>try simp only[aH,R,simprocAttr])
   all_goals clear R
   refine ⟨i+1,⟨by omega,rfl⟩,by omega,?_⟩;clear hd heq;refine bw.cK ?_ ?_ ?_ ?_ <;>simp[cj,cn,cm,bQ,aB,cg,dR,I.only,ah.only,bG]
   all_goals rfl
 ·have hlc:=fm hlt;rw[List.drop_eq_nil_of_le (by omega),kM];have R:=y6 @hlc aD
  repeat' ((first |refine U.aG (by decide +kernel) rfl fun K hK =>?_|(refine .aE [0,1,3,4,5,7,8,9,16] hK ?_;clear hK K)|(with_reducible refine .done (hK _ ?_);clear hK K)|refine U.of rfl ?_|(with_reducible refine aw.aF (fun h =>?_) (fun h =>?_) <;>try simp only[h])) <;>try simp only[aH,R,simprocAttr])
  all_goals clear R
  all_goals rfl
theorem Ee(l:List ai)(x:ai)(hl:l.length≤1000000000):aQ Tryz.prog 136 [enc l,enc x] (enc (decide (x∈l))):=by
 refine aQ.bM Tryz.func136 Gi Ht IJ (t8 rfl) (fun hwf W0 bF E1 =>?_);simp only[xC,BL,bB,Z8];clear hwf;have f:=Em l x hl;have h:=Ae x l 0;have R:=y6 @h aD
 repeat' ((first |refine U.aG (by decide +kernel) rfl fun K hK =>?_|refine .flat _ (f) rfl ?_|(refine .aE [0,1,3,4] hK ?_;clear hK K)|(with_reducible refine .done (hK _ ?_);clear hK K)|refine U.of rfl ?_|(with_reducible refine aw.aF (fun h =>?_) (fun h =>?_) <;>try simp only[h])) <;>try simp only[aH,R,simprocAttr])
 all_goals clear R
 all_goals rfl
def gm(l:List ai):Item:=match l.getLast? with
 |none=>⟨-1,0⟩
 |some a=>a.bA
theorem W7(l:List ai)(r:ai):jj l r=(decide (r.bA=⟨(gm l).bd,(gm l).no+1⟩)||(!decide (r.bd≤(gm l).bd) && !(r.no != 0))):=by
 have e:∀ p:Item,decide ((r.bd=p.bd∧r.no=p.no+1)∨(p.bd<r.bd∧r.no=0))=(decide (r.bA=⟨p.bd,p.no+1⟩)||(!decide (r.bd≤p.bd) && !(r.no != 0))):=fun p=>by
  rw[Bool.eq_iff_iff];simp[ai.bA]
 rcases h:l.getLast? with _ | a
 ·have h1:jj l r=decide ((r.bd=-1∧r.no=1)∨(-1<r.bd∧r.no=0)):=by rw[jj,h]
  have h2:gm l=⟨-1,0⟩:=by rw[gm,h]
  rw[h1,h2];exact e ⟨-1,0⟩
 ·have h1:jj l r=decide ((r.bd=a.bd∧r.no=a.no+1)∨(a.bd<r.bd∧r.no=0)):=by rw[jj,h]
  have h2:gm l=a.bA:=by rw[gm,h]
  rw[h1,h2];exact e a.bA
def nl(l:List ai):Bool:=hG (fun out r=>bf r&&jj out r) [] l&&decide (l.length≤60)
theorem E6{aV:List ai→ai→Bool}{l:List ai}{i:Nat}(h:i<l.length):hG aV (l.take i) (l.drop i)=(aV (l.take i) l[i]&&hG aV (l.take (i+1)) (l.drop (i+1))):=by
 rw[List.drop_eq_getElem_cons h,hG,←jk h]
theorem zb:I.agg [enc (⟨0,0⟩:Item),.int .i64 0,.int .i64 0,.int .i64 0,enc (⟨0,0⟩:Item),.ak ⟨#[]⟩]=enc (default:ai):=rfl
theorem Dv:(∀ A n b rest (q r:Item),er A (some 2) n [] b (enc q) rest (some (enc r))=ao rest (A.aP n (.box (enc q))))∧fy [.int .i64 0,.int .i64 0] [(0,.int .i64 (-1))]=some [.int .i64 (-1),.int .i64 0]∧I.agg [.int .i64 (-1),.int .i64 0]=enc (⟨-1,0⟩:Item) ∧
  (∀ (x:Item),(I.agg [.int .i64 x.bd,.int .i64 (x.no+1)])=enc (⟨x.bd,x.no+1⟩:Item)) :=
 ⟨fun A n b rest q r=>by rw[fj (fe _) (by rw[ib];rfl) ((eA _).trans (eA _).symm),fi],rfl,rfl,fun _=>rfl⟩
theorem VP{l:List ai}{i:Nat}(h:i<l.length):gm (l.take (i+1))=l[i].bA:=by
 rw[gm,jk h,List.getLast?_concat]
theorem VQ{l:List ai}(h:∀ r∈l,bf r=true):-1≤(gm l).bd∧(gm l).bd≤5∧0≤(gm l).no∧(gm l).no≤9999:=by
 rw[gm];cases e:l.getLast? with
 |none=>simp
 |some a =>
  have:=pK (pL (h a (List.mem_of_getLast? e)));simp only[ai.bA];omega
theorem EJ(l:List ai)(hl:l.length≤1000000000):aQ Tryz.prog 92 [enc (⟨l⟩:iK)] (enc (nl l)):=by
 refine aQ.bM Tryz.func92 G6 If Jv (t8 rfl) (fun hwf W0 bF E1 =>?_);simp only[yp,Cv,bB];clear hwf;have R:=aD
 repeat' ((first |(with_reducible refine .guard (fun hb =>?_) (fun hb =>?_) <;>try simp only[hb])|refine U.aG (by decide +kernel) rfl fun K hK =>?_|(refine .aE [0,1,2,3,4,5,7,8,9,10,16,19,49] hK ?_;clear hK K)|(with_reducible refine .done (hK _ ?_);clear hK K)|refine U.of rfl ?_|(with_reducible refine aw.aF (fun h =>?_) (fun h =>?_) <;>try simp only[h])) <;>try simp only[aH,R,simprocAttr])
 all_goals clear R
 refine U.loop (fun i:Nat=>ay [(1,.ptr 1 []),(7,enc l),(8,.int .i64 l.length),(9,.int .i64 i)] [(1,.box (enc (⟨l⟩:iK)))]) (fun i=>i≤l.length∧(∀ r∈l.take i,bf r=true)∧nl l=(hG (fun out r=>bf r&&jj out r) (l.take i) (l.drop i)&&decide (l.length≤60))) (fun i=>l.length-i) 0 ⟨Nat.zero_le _,by simp,rfl⟩ ?_ ?_
 ·refine bw.cK ?_ ?_ ?_ ?_ <;>simp[cj,cn,cm,bQ,aB,cg,dR,I.only,ah.only,bG]
  all_goals rfl
 rintro i ⟨hi,hk,heq⟩;rw[heq];by_cases hlt:i<l.length
 ·have hlc:=eO hlt;have he:=fun A=>fR (A:=A) 8 hlt rfl;have hw:=eE (i:=i) (by omega);have hnx:=A9 hlt hk;have hpi:=VQ hk;have hst:=W7 (l.take i) l[i];rw[E6 hlt] at heq ⊢;have hpz:i=0→gm (l.take i)=⟨-1,0⟩:=fun e=>by subst e;rfl
  have hps:∀ h:0<i,gm (l.take i)=(l[i-1]'(by omega)).bA:=fun h=>by
   have:=VP (l:=l) (i:=i-1) (by omega)
   rwa [show i-1+1=i by omega] at this
  generalize l[i]=r at *;have f80:=oC r;cases q1:bf r
  ·rw[q1] at f80;have R:=y6 @hlc (y6 @he (y6 @hw (y6 @ec (y6 @dI aD))))
   repeat' ((first |(with_reducible refine .guard (fun hb =>?_) (fun hb =>?_) <;>try simp only[hb])|refine U.aG (by decide +kernel) rfl fun K hK =>?_|refine .flat _ (f80) rfl ?_|(refine .aE [0,1,2,3,4,5,7,8,9,10,16,19,49] hK ?_;clear hK K)|(with_reducible refine .done (hK _ ?_);clear hK K)|refine U.of rfl ?_|(with_reducible refine aw.aF (fun h =>?_) (fun h =>?_) <;>try simp only[h])) <;>try simp only[aH,R,simprocAttr])
   all_goals clear R
   all_goals rfl
  rw[q1] at f80;generalize gm (l.take i)=p at *;have hww:IntKind.i64.wrap (p.no+1)=p.no+1:=dB _ (by omega) (by omega);rw[hst] at heq ⊢;by_cases hz:0<i
  ·have hgt:decide ((i:Int)>0)=true:=decide_eq_true (by omega);have hpe:=fun A=>fR (A:=A) (l:=l) (k:=i-1) 8 (by omega) rfl;have hw1:IntKind.i64.wrap ((i:Int)-1)=((i-1:Nat):Int):=by rw[dB _ (by omega) (by omega)];omega
   have hpm:=(hps hz).symm;clear hps hpz hst;generalize l[i-1]=q at *;cases c1:decide (r.bA=⟨p.bd,p.no+1⟩) <;>cases c2:decide (r.bd≤p.bd) <;>cases c3:(r.no != 0)
   all_goals
    rw[c1,c2,c3] at heq;have R:=y6 @hlc (y6 @he (y6 @hw (y6 @hgt (y6 @hpm (y6 @hpe (y6 @hw1 (y6 @hww (y6 @c1 (y6 @c2 (y6 @c3 (y6 @zb (y6 @ec (y6 @oU (y6 @dI (y6 @Dv (y6 @ky aD))))))))))))))))
    repeat' ((first |(with_reducible refine .guard (fun hb =>?_) (fun hb =>?_) <;>try simp only[hb])|refine U.aG (by decide +kernel) rfl fun K hK =>?_|refine .flat _ (f80) rfl ?_|(refine .aE [0,1,2,3,4,5,7,8,9,10,16,19,49] hK ?_;clear hK K)|(with_reducible refine .done (hK _ ?_);clear hK K)|refine U.of rfl ?_|(with_reducible refine aw.aF (fun h =>?_) (fun h =>?_) <;>try simp only[h])) <;>try simp only[aH,R,simprocAttr])
    all_goals clear R
    all_goals first
     |rfl
     |(refine ⟨i+1,⟨by omega,hnx q1,by rfl⟩,by omega,?_⟩;clear heq hnx;(refine bw.cK ?_ ?_ ?_ ?_ <;>simp[cj,cn,cm,bQ,aB,cg,dR,I.only,ah.only,bG]);all_goals rfl)
  ·have hgt:decide ((i:Int)>0)=false:=decide_eq_false (by omega);have hpm:=(hpz (by omega)).symm;clear hps hpz hst;cases c1:decide (r.bA=⟨p.bd,p.no+1⟩) <;>cases c2:decide (r.bd≤p.bd) <;>cases c3:(r.no != 0)
   all_goals
    rw[c1,c2,c3] at heq;have R:=y6 @hlc (y6 @he (y6 @hw (y6 @hgt (y6 @hpm (y6 @hww (y6 @c1 (y6 @c2 (y6 @c3 (y6 @zb (y6 @ec (y6 @oU (y6 @dI (y6 @Dv (y6 @ky aD))))))))))))))
    repeat' ((first |(with_reducible refine .guard (fun hb =>?_) (fun hb =>?_) <;>try simp only[hb])|refine U.aG (by decide +kernel) rfl fun K hK =>?_|refine .flat _ (f80) rfl ?_|(refine .aE [0,1,2,3,4,5,7,8,9,10,16,19,49] hK ?_;clear hK K)|(with_reducible refine .done (hK _ ?_);clear hK K)|refine U.of rfl ?_|(with_reducible refine aw.aF (fun h =>?_) (fun h =>?_) <;>try simp only[h])) <;>try simp only[aH,R,simprocAttr])
    all_goals clear R
    all_goals first
     |rfl
     |(refine ⟨i+1,⟨by omega,hnx q1,by rfl⟩,by omega,?_⟩;clear heq hnx;(refine bw.cK ?_ ?_ ?_ ?_ <;>simp[cj,cn,cm,bQ,aB,cg,dR,I.only,ah.only,bG]);all_goals rfl)
 ·have hlc:=fm hlt;rw[List.drop_eq_nil_of_le (by omega),hG];have hle:decide ((l.length:Int)≤60)=decide (l.length≤60):=by rw[decide_eq_decide];omega
  have R:=y6 @hlc (y6 @hle aD)
  repeat' ((first |(with_reducible refine .guard (fun hb =>?_) (fun hb =>?_) <;>try simp only[hb])|refine U.aG (by decide +kernel) rfl fun K hK =>?_|(refine .aE [0,1,2,3,4,5,7,8,9,10,16,19,49] hK ?_;clear hK K)|(with_reducible refine .done (hK _ ?_);clear hK K)|refine U.of rfl ?_|(with_reducible refine aw.aF (fun h =>?_) (fun h =>?_) <;>try simp only[h])) <;>try simp only[aH,R,simprocAttr])
  all_goals clear R
  all_goals rfl
theorem DG(l:List ai)(m:Nat):(l++List.replicate m cA).take l.length=l:=List.take_left
theorem tc(l:List ai)(hl:l.length≤1000):aQ Tryz.prog 93 [enc l] (enc l):=by
 refine aQ.bM Tryz.func93 yD yI yR (t8 rfl) (fun hwf W0 bF E1 =>?_);simp only[tF,vy,bB];refine .dN (by decide +kernel) fun K hK =>?_;simp only[uE,aZ,simprocAttr];refine .done (hK _ ?_);clear hK K;refine U.seq (U.seq ?_);by_cases hn:l=[]
 ·subst hn;refine .gT (by decide +kernel) fun K hK =>?_;simp only[pd,aZ,simprocAttr];simp only[sS,List.isEmpty_nil,nT];refine .any rfl fun b _ =>?_
  try simp only[aZ,simprocAttr]
  generalize (b==0)=t;cases t
  ·refine .done (hK _ ?_);clear hK K;try simp only[cP]
   refine U.gB ?_;simp only[aw,aZ,simprocAttr];refine ⟨fun h =>?_,fun h =>?_⟩
   ·cases h
   refine U.skip ?_;try simp only[cP,simprocAttr]
   refine .dN (by decide +kernel) fun K hK =>?_;simp only[pf,aZ,simprocAttr]
   try simp only[hE,kG,aZ,simprocAttr]
   refine .done (hK _ ?_);clear hK K;refine U.ret ?_;simp only[aZ,simprocAttr]
   all_goals rfl
  ·refine .done (hK _ ?_);clear hK K;refine U.gB ?_;simp only[aw,aZ,simprocAttr];refine ⟨fun h =>?_,fun h =>?_⟩
   ·refine .dN (by decide +kernel) fun K hK =>?_;simp only[uF,aZ,simprocAttr];refine .done (hK _ ?_);clear hK K;refine U.ret ?_;simp only[cP,aZ,simprocAttr]
    all_goals rfl
   ·cases h
 ·have hu:iI (enc l)=false:=by rw[sS];simpa using hn
  refine .gT (by decide +kernel) fun K hK =>?_;simp only[pd,aZ,simprocAttr]
  try simp only[hu,AS _ l hn,aZ,simprocAttr]
  refine .done (hK _ ?_);clear hK K;try simp only[cP]
  refine U.gB ?_;simp only[aw,aZ,simprocAttr];refine ⟨fun h =>?_,fun h =>?_⟩
  ·cases h
  refine U.skip ?_;try simp only[cP,simprocAttr]
  refine .dN (by decide +kernel) fun K hK =>?_;simp only[pf,aZ,simprocAttr]
  try simp only[hE,kG,aZ,simprocAttr]
  refine aX.tq cA rfl hn rfl (by omega) (by simp only[maxLen];omega) fun m =>?_
  try simp only[aZ,simprocAttr]
  refine .done (hK _ ?_);clear hK K;refine U.ret ?_;simp only[aZ,simprocAttr]
  try simp only[qY (α:=ai) (sz:=8) rfl,DG,aZ,simprocAttr]
def Ag(g:ai):bY:=fun r os'=>∃ q,r=.view 25 [] 8 0 1∧os'=eP 25 [g] q
theorem Di(A:ab):ji A 8 (some (.int .i64 0)) none none (.c0 8)=some (.slice 8 [])∧ji A 8 (some (.int .i64 0)) none none (.nils 8)=some (.slice 8 []):=by
 constructor <;>simp[ji,iu,gM]
theorem D0(x:I)(hx:x=.nils 8∨x=.c0 8)(g:ai):eI Tryz.prog 101 [x,enc (0:Int),enc [g]] [] (Ag g):=by
 rcases hx with rfl | rfl
 ·refine eI.bM Tryz.func101 tG tI tO (t8 rfl) (t8 rfl) (fun m hm=>by simp[aB,aJ] at hm) (fun hwf W0 bF E1 =>?_);simp only[qK,sn,bB,Z8,Nat.reduceAdd];refine .dN (by decide +kernel) fun K hK =>?_;simp only[rh,aZ];refine .done (hK _ ?_);clear hK K;refine .dN (by decide +kernel) fun K hK =>?_;simp only[ri,aZ,Nat.reduceEqDiff,reduceIte]
  try simp only[X7,(Di _).2,aZ]
  refine .done (hK _ ?_);clear hK K;refine .dN (by decide +kernel) fun K hK =>?_;simp only[rj,aZ,Nat.reduceEqDiff,reduceIte]
  try simp only[typR,iJ,jC,iT,aZ,Nat.reduceEqDiff,reduceIte,Int.reduceBNe,Int.reduceBEq]
  refine .done (hK _ ?_);clear hK K;refine U.seq (U.seq ?_);refine .gT (by decide +kernel) fun K hK =>?_;simp only[rl,aZ,Nat.reduceEqDiff,reduceIte]
  try simp only[typR,iJ,jC,iT,aZ,Nat.reduceEqDiff,reduceIte,Int.reduceBNe,Int.reduceBEq]
  refine .done (hK _ ?_);clear hK K;try simp only[cP]
  refine U.gB ?_;simp only[aw,aZ,Nat.reduceEqDiff,reduceIte];refine ⟨fun h =>?_,fun h =>?_⟩
  ·first | cases h | simp at h
  refine U.skip ?_;try simp only[cP]
  refine .dN (by decide +kernel) fun K hK =>?_;simp only[rm,aZ,Nat.reduceEqDiff,reduceIte]
  try simp only[typR,iJ,jC,iT,aZ,Nat.reduceEqDiff,reduceIte,Int.reduceBNe,Int.reduceBEq]
  refine .done (hK _ ?_);clear hK K;refine U.seq (U.seq ?_);refine .gT (by decide +kernel) fun K hK =>?_;simp only[rn,aZ,Nat.reduceEqDiff,reduceIte,Int.reduceBEq]
  try simp only[typR,iJ,jC,iT,aZ,Nat.reduceEqDiff,reduceIte,Int.reduceBNe,Int.reduceBEq]
  refine .done (hK _ ?_);clear hK K;try simp only[cP]
  refine U.gB ?_;simp only[aw,aZ,Nat.reduceEqDiff,reduceIte];refine ⟨fun h =>?_,fun h =>?_⟩
  case refine_2.refine_2=>first | cases h | simp at h
  refine .dN (by decide +kernel) fun K hK =>?_;simp only[pc,aZ,Nat.reduceEqDiff,reduceIte]
  try simp only[kG]
  refine aX.Fg (esz:=8) cA (l:=[g]) rfl (by simp) rfl (by simp) (by simp[maxLen]) fun q =>?_
  try simp only[aZ,Nat.reduceEqDiff,reduceIte]
  refine .done (hK _ ?_);clear hK K;refine U.ret ?_;simp only[cP,jG];exact ⟨eP 25 [g] q,[.view 25 [] 8 0 1],nH rfl (fun p=>fT p _),⟨⟨_,rfl,.inl ⟨rfl,rfl,rfl⟩⟩,trivial⟩,q,rfl,rfl⟩
 ·refine eI.bM Tryz.func101 tG tI tO (t8 rfl) (t8 rfl) (fun m hm=>by simp[aB,aJ] at hm) (fun hwf W0 bF E1 =>?_);simp only[qK,sn,bB,Z8,Nat.reduceAdd];refine .dN (by decide +kernel) fun K hK =>?_;simp only[rh,aZ];refine .done (hK _ ?_);clear hK K;refine .dN (by decide +kernel) fun K hK =>?_;simp only[ri,aZ,Nat.reduceEqDiff,reduceIte]
  try simp only[X7,(Di _).1,aZ]
  refine .done (hK _ ?_);clear hK K;refine .dN (by decide +kernel) fun K hK =>?_;simp only[rj,aZ,Nat.reduceEqDiff,reduceIte]
  try simp only[typR,iJ,jC,iT,aZ,Nat.reduceEqDiff,reduceIte,Int.reduceBNe,Int.reduceBEq]
  refine .done (hK _ ?_);clear hK K;refine U.seq (U.seq ?_);refine .gT (by decide +kernel) fun K hK =>?_;simp only[rl,aZ,Nat.reduceEqDiff,reduceIte]
  try simp only[typR,iJ,jC,iT,aZ,Nat.reduceEqDiff,reduceIte,Int.reduceBNe,Int.reduceBEq]
  refine .done (hK _ ?_);clear hK K;try simp only[cP]
  refine U.gB ?_;simp only[aw,aZ,Nat.reduceEqDiff,reduceIte];refine ⟨fun h =>?_,fun h =>?_⟩
  ·first | cases h | simp at h
  refine U.skip ?_;try simp only[cP]
  refine .dN (by decide +kernel) fun K hK =>?_;simp only[rm,aZ,Nat.reduceEqDiff,reduceIte]
  try simp only[typR,iJ,jC,iT,aZ,Nat.reduceEqDiff,reduceIte,Int.reduceBNe,Int.reduceBEq]
  refine .done (hK _ ?_);clear hK K;refine U.seq (U.seq ?_);refine .gT (by decide +kernel) fun K hK =>?_;simp only[rn,aZ,Nat.reduceEqDiff,reduceIte,Int.reduceBEq]
  try simp only[typR,iJ,jC,iT,aZ,Nat.reduceEqDiff,reduceIte,Int.reduceBNe,Int.reduceBEq]
  refine .done (hK _ ?_);clear hK K;try simp only[cP]
  refine U.gB ?_;simp only[aw,aZ,Nat.reduceEqDiff,reduceIte];refine ⟨fun h =>?_,fun h =>?_⟩
  case refine_2.refine_2=>first | cases h | simp at h
  refine .dN (by decide +kernel) fun K hK =>?_;simp only[pc,aZ,Nat.reduceEqDiff,reduceIte]
  try simp only[kG]
  refine aX.tq (esz:=8) cA (l:=[g]) rfl (by simp) rfl (by simp) (by simp[maxLen]) fun q =>?_
  try simp only[aZ,Nat.reduceEqDiff,reduceIte]
  refine .done (hK _ ?_);clear hK K;refine U.ret ?_;simp only[cP,jG];exact ⟨eP 25 [g] q,[.view 25 [] 8 0 1],nH rfl (fun p=>fT p _),⟨⟨_,rfl,.inl ⟨rfl,rfl,rfl⟩⟩,trivial⟩,q,rfl,rfl⟩
theorem dC.gS{aA:Bool}{ρ:List (Nat×Nat)}{k:Nat}{x:ah}{os0:List (Nat×ah)}{r c:I}(h1:∀ p,c.only p=true)(h2:aA=true→c.cU=true)(h3:r.only (aB [(k,.box c)])=true)(h4:aA=true→r.cU=true):dC aA ρ [(k,x)] os0 r [(k,.box c)]:=by
 refine ⟨fun m x h =>?_,fun m m' h h' _ =>?_,fun m h =>?_,fun m h h' =>?_,h3,h4⟩
 ·simp only[aJ] at h;split at h
  ·simp only[v6] at h;subst h;exact ⟨h1 _,rfl,h2⟩
  ·cases h
 ·rw[gA.1 h,gA.1 h']
 ·rw[gA.1 h];exact gA.2 rfl
 ·rw[gA.1 h] at h';have:aB [(k,x)] k=true:=gA.2 rfl;rw[this] at h';cases h'
theorem dC.ot{aA:Bool}{ρ:List (Nat×Nat)}{k k' d d':Nat}{x:ah}{os0:List (Nat×ah)}{r c c':I}(hk:bp ρ k=d)(hk':bp ρ k'=d')(hd:d≠d')(hne:k≠k')(h1:∀ p,c.only p=true)(h2:aA=true→c.cU=true)(h1':∀ p,c'.only p=true)(h2':aA=true→c'.cU=true)
  (h3:r.only (aB [(k,.box c),(k',.box c')])=true) (h4:aA=true→r.cU=true) (h5:aJ os0 d=none) (h6:d<1000000):dC aA ρ [(k',x)] os0 r [(k,.box c),(k',.box c')]:=by
 have ot:∀ m,aB [(k,ah.box c),(k',ah.box c')] m=true→m=k∨m=k':=fun m h=>by
  simp only[aB,aJ] at h;split at h
  ·rename_i e;exact .inl e
  ·split at h
   ·rename_i e;exact .inr e
   ·cases h
 refine ⟨fun m y h =>?_,fun m m' h h' e =>?_,fun m h =>?_,fun m h h' =>?_,h3,h4⟩
 ·simp only[aJ] at h;split at h
  ·simp only[v6] at h;subst h;exact ⟨h1 _,rfl,h2⟩
  ·split at h
   ·simp only[v6] at h;subst h;exact ⟨h1' _,rfl,h2'⟩
   ·cases h
 ·rcases ot m h with rfl | rfl <;>rcases ot m' h' with rfl | rfl
  ·rfl
  ·rw[hk,hk'] at e;exact absurd e hd
  ·rw[hk,hk'] at e;exact absurd e.symm hd
  ·rfl
 ·rw[gA.1 h];simp[aB,aJ,Ne.symm hne]
 ·rcases ot m h with rfl | rfl
  ·rw[hk];exact ⟨h5,h6⟩
  ·have:aB [(m,x)] m=true:=gA.2 rfl;rw[this] at h';cases h'
def iP(l:List ai)(r:ai):List ai×Int :=
 if nl l=false then ([],81) else if bf r=false then ([],80)
 else if jX l r.bA=true then (if l.getD (fx l r.bA) default=r then (l,0) else ([],82))
 else if (fb l r.bd:Int)<r.no then ([],83) else if l.length=60 then ([],2) else (fQ l (fx l r.bA) r,0)
theorem w7{aV:List ai→ai→Bool} : ∀ {l out:List ai},hG (fun out r=>bf r&&aV out r) out l=true↔(∀ r∈l,bf r=true)∧hG aV out l=true
 | [],_=>by simp[hG]
 |r::l,out=>by
  simp only[hG,Z0,w7 (l:=l),zz3,forall_eq_or_imp];constructor
  ·rintro ⟨⟨h1,h2⟩,h3,h4⟩;exact ⟨⟨h1,h3⟩,h2,h4⟩
  ·rintro ⟨⟨h1,h3⟩,h2,h4⟩;exact ⟨⟨h1,h2⟩,h3,h4⟩
structure EN (l:List ai):Prop where
 ok:∀ r∈l,bf r=true
 Du:oG l
 len:l.length≤60
 step:hG jj [] l=true
theorem Vr{r:ai}(h:bf r=true):0≤r.bd∧0≤r.no:=by have:=pK (pL h);omega
theorem FX{l:List ai}(h:nl l=true):EN l:=by
 simp only[nl,Z0,decide_eq_true_eq] at h;obtain ⟨h1,h2⟩:=h;obtain ⟨h3,h4⟩:=w7.1 h1;refine ⟨h3,?_,h2,h4⟩;have:=xk l [] trivial (fun r hr=>Vr (h3 r hr)) h4 List.Pairwise.nil;simpa using this
theorem iy:(∀ A n b rest,er A (some 1) n [] b (.agg [.nils 8]) rest (some (.agg [.nils 8]))=ao rest (A.aP n (.box (.agg [.nils 8])))) ∧
  (∀ A n b rest m p lo k,er A (some 1) n [] b (.agg [.view m p 8 lo k]) rest (some (.agg [.nils 8]))=ao rest (A.aP n (.box (.agg [.view m p 8 lo k])))) ∧
  (∀ A n b rest (l:List ai),er A (some 1) n [] b (.agg [enc l]) rest (some (.agg [.nils 8]))=ao rest (A.aP n (.box (.agg [enc l])))) ∧
  (∀ l:List ai,fy [.nils 8] [(0,enc l)]=some [enc l])∧(∀ m p lo k,fy [.nils 8] [(0,.view m p 8 lo k)]=some [.view m p 8 lo k])∧(∀ l:List ai,bU (some 1) (.agg [enc l])=true)∧bU (some 1) (.agg [.nils 8])=true∧(∀ m p lo k,bU (some 1) (.agg [.view m p 8 lo k])=true) :=
 ⟨fun A n b rest=>by rw[fj (s:=some 1) (v:=.agg [.nils 8]) (old:=.agg [.nils 8]) rfl rfl rfl,fi],fun A n b rest m p lo k=>by rw[fj (s:=some 1) (v:=.agg [.view m p 8 lo k]) (old:=.agg [.nils 8]) rfl rfl rfl,fi],
  fun A n b rest l=>by rw[fj (s:=some 1) (v:=.agg [enc l]) (old:=.agg [.nils 8]) rfl rfl rfl,fi],fun _=>rfl,fun _ _ _ _=>rfl,fun _=>rfl,rfl,fun _ _ _ _=>rfl⟩
theorem EB(l:List ai)(r:ai)(hl:l.length≤1000000000):aQ Tryz.prog 44 [enc (⟨l⟩:iK),enc r] (.tuple [enc (⟨(iP l r).1⟩:iK),enc (iP l r).2]):=by
 refine aQ.bM Tryz.func44 GM HV Jc (t8 rfl) (fun hwf W0 bF E1 =>?_);simp only[x8,Cd,bB,Z8];clear hwf;have f92:=EJ l hl;simp only[iP];cases q1:nl l
 ·rw[q1] at f92;simp only[if_true];have R:=y6 @iy aD
  repeat' ((first |(with_reducible refine .guard (fun hb =>?_) (fun hb =>?_) <;>try simp only[hb])|refine U.aG (by decide +kernel) rfl fun K hK =>?_|refine .flat _ (f92) rfl ?_|(refine .aE [0,1,2,3,4,5,6,7,8,13,25,40,43,56] hK ?_;clear hK K)|(with_reducible refine .done (hK _ ?_);clear hK K)|refine U.of rfl ?_|(with_reducible refine aw.aF (fun h =>?_) (fun h =>?_) <;>try simp only[h])) <;>try simp only[aH,R,simprocAttr])
  all_goals clear R
  all_goals rfl
 rw[q1] at f92;have hb:=FX q1;have f80:=oC r;simp only[Bool.true_eq_false,if_false];cases q2:bf r
 ·rw[q2] at f80;simp only[if_true];have R:=y6 @iy aD
  repeat' ((first |(with_reducible refine .guard (fun hb =>?_) (fun hb =>?_) <;>try simp only[hb])|refine U.aG (by decide +kernel) rfl fun K hK =>?_|refine .flat _ (f92) rfl ?_|refine .flat _ (f80) rfl ?_|(refine .aE [0,1,2,3,4,5,6,7,8,13,25,40,43,56] hK ?_;clear hK K)|(with_reducible refine .done (hK _ ?_);clear hK K)|refine U.of rfl ?_|(with_reducible refine aw.aF (fun h =>?_) (fun h =>?_) <;>try simp only[h])) <;>try simp only[aH,R,simprocAttr])
  all_goals clear R
  all_goals rfl
 rw[q2] at f80;simp only[Bool.true_eq_false,if_false];have hlen:=hb.len;have f94:=EK l r.bA hb.Du (by omega);have hpl:=VM l r.bA;have hcl:=tc l (by omega);cases q3:jX l r.bA
 rotate_left
 ·rw[q3] at f94;obtain ⟨hp,hat⟩:=(z7 hb.Du r.bA).1 q3;simp only[if_true];have hg:l.getD (fx l r.bA) default=l[fx l r.bA]:=by simp[Y7,hp]
  rw[hg];have he:=fun A=>fR (A:=A) 8 hp rfl;generalize l[fx l r.bA]=x at *;generalize fx l r.bA=p at *;by_cases q4:x=r
  ·have q4':decide (x=r)=true:=decide_eq_true q4;rw[if_pos q4];have R:=y6 @he (y6 @q4' (y6 @iy aD))
   repeat' ((first |(with_reducible refine .guard (fun hb =>?_) (fun hb =>?_) <;>try simp only[hb])|refine U.aG (by decide +kernel) rfl fun K hK =>?_|refine .flat _ (f92) rfl ?_|refine .flat _ (f80) rfl ?_|refine .lead _ (f94) ?_|refine .lead _ (hcl) ?_|(refine .aE [0,1,2,3,4,5,6,7,8,13,25,40,43,56] hK ?_;clear hK K)|(with_reducible refine .done (hK _ ?_);clear hK K)|refine U.of rfl ?_|(with_reducible refine aw.aF (fun h =>?_) (fun h =>?_) <;>try simp only[h])) <;>try simp only[aH,R,simprocAttr])
   all_goals clear R
   all_goals rfl
  ·have q4':decide (x=r)=false:=decide_eq_false q4;rw[if_neg q4];have R:=y6 @he (y6 @q4' (y6 @iy aD))
   repeat' ((first |(with_reducible refine .guard (fun hb =>?_) (fun hb =>?_) <;>try simp only[hb])|refine U.aG (by decide +kernel) rfl fun K hK =>?_|refine .flat _ (f92) rfl ?_|refine .flat _ (f80) rfl ?_|refine .lead _ (f94) ?_|refine .lead _ (hcl) ?_|(refine .aE [0,1,2,3,4,5,6,7,8,13,25,40,43,56] hK ?_;clear hK K)|(with_reducible refine .done (hK _ ?_);clear hK K)|refine U.of rfl ?_|(with_reducible refine aw.aF (fun h =>?_) (fun h =>?_) <;>try simp only[h])) <;>try simp only[aH,R,simprocAttr])
   all_goals clear R
   all_goals rfl
 rw[q3] at f94;simp only[Z5,if_false];have hin:pj l:=fun x hx=>lH (hb.ok x hx);have f100:=wE l hl hin;have hix:=uT l (lH q2);by_cases q5:(fb l r.bd:Int)<r.no
 ·have q5':decide ((fb l r.bd:Int)<r.no)=true:=decide_eq_true q5;rw[if_pos q5];have R:=y6 @hix (y6 @q5' (y6 @kg (y6 @iy aD)))
  repeat' ((first |(with_reducible refine .guard (fun hb =>?_) (fun hb =>?_) <;>try simp only[hb])|refine U.aG (by decide +kernel) rfl fun K hK =>?_|refine .flat _ (f92) rfl ?_|refine .flat _ (f80) rfl ?_|refine .lead _ (f94) ?_|refine .lead _ (f100) ?_|(refine .aE [0,1,2,3,4,5,6,7,8,13,25,40,43,56] hK ?_;clear hK K)|(with_reducible refine .done (hK _ ?_);clear hK K)|refine U.of rfl ?_|(with_reducible refine aw.aF (fun h =>?_) (fun h =>?_) <;>try simp only[h])) <;>try simp only[aH,R,simprocAttr])
  all_goals clear R
  all_goals rfl
 have q5':decide ((fb l r.bd:Int)<r.no)=false:=decide_eq_false q5;rw[if_neg q5];by_cases q6:l.length=60
 ·have q6':((l.length:Int)==60)=true:=by rw[beq_iff_eq];omega
  rw[if_pos q6];have R:=y6 @hix (y6 @q5' (y6 @q6' (y6 @kg (y6 @iy aD))))
  repeat' ((first |(with_reducible refine .guard (fun hb =>?_) (fun hb =>?_) <;>try simp only[hb])|refine U.aG (by decide +kernel) rfl fun K hK =>?_|refine .flat _ (f92) rfl ?_|refine .flat _ (f80) rfl ?_|refine .lead _ (f94) ?_|refine .lead _ (f100) ?_|(refine .aE [0,1,2,3,4,5,6,7,8,13,25,40,43,56] hK ?_;clear hK K)|(with_reducible refine .done (hK _ ?_);clear hK K)|refine U.of rfl ?_|(with_reducible refine aw.aF (fun h =>?_) (fun h =>?_) <;>try simp only[h])) <;>try simp only[aH,R,simprocAttr])
  all_goals clear R
  all_goals rfl
 have q6':((l.length:Int)==60)=false:=by rw[beq_eq_false_iff_ne];omega
 rw[if_neg q6];have hbs:gw 8 (some [enc r])=some (enc [r]):=oO 8 r rfl;have R:=y6 @hix (y6 @q5' (y6 @q6' (y6 @hbs (y6 @kg (y6 @iy aD)))))
 repeat' ((first |(with_reducible refine .guard (fun hb =>?_) (fun hb =>?_) <;>try simp only[hb])|(refine U.lN (gs:=uz) [101] [(2,[2]),(3,[3]),(4,[4]),(62,[2])] [0,1,3,4,5,2,6,7,8,9] (by decide +kernel) (dD.of (by simp[jw,cg,AK,I.only])) fun K hK =>?_;simp only[j7,uz,List.getD_cons_zero,List.getD_cons_succ,R,simprocAttr])|refine U.aG (by decide +kernel) rfl fun K hK =>?_|refine .flat _ (f92) rfl ?_|refine .flat _ (f80) rfl ?_|refine .lead _ (f94) ?_|refine .lead _ (f100) ?_|(refine .aE [0,1,2,3,4,5,6,7,8,13,25,40,43,56] hK ?_;clear hK K)|(with_reducible refine .done (hK _ ?_);clear hK K)|refine U.of rfl ?_|(with_reducible refine aw.aF (fun h =>?_) (fun h =>?_) <;>try simp only[h])) <;>try simp only[aH,R,simprocAttr])
 all_goals clear R
 obtain ⟨au,hL⟩:∃ au,au=fQ l (fx l r.bA) r:=⟨_,rfl⟩
 have hLn:l.length+1=au.length:=by rw[hL,Tz r hpl]
 have hfin:∀ q,kI 8 0 (l.length+1) (some ((au++List.replicate q cA).map enc))=some (enc au):=fun q=>by
  rw[qY (α:=ai) (sz:=8) rfl,hLn,DG]
 refine .bx [(7,64)] [enc l] (qO l) (wV l (by omega)) eJ.nil ⟨.inl ⟨(iE _ _).symm,bG _ _,fe _⟩,trivial⟩ ?_ ?_
 ·rintro x os' (⟨_,h | h,rfl⟩ | ⟨_,k,rfl,rfl⟩)
  ·subst h;exact dC.nil (fun _=>rfl) (fun h=>by cases h)
  ·subst h;exact dC.nil (fun _=>rfl) (fun h=>by cases h)
  ·exact dC.vd (fun p=>fT p _) (fun h=>by cases h) rfl (fun h=>by cases h) rfl (by decide)
 rintro x os' (⟨hn,h,rfl⟩ | ⟨hn,k,rfl,rfl⟩)
 ·have hren:x.aR (bp [(7,64)])=x∧x.cw=true∧∀ q,x.only q=true:=by rcases h with rfl | rfl <;>exact ⟨by simp only[I.aR],rfl,fun _=>rfl⟩
  have hren2:x.aR (bp [(25,68)])=x:=by rcases h with rfl | rfl <;>simp only[I.aR]
  have hpos:fx l r.bA=0:=by rw[hn];rfl
  rw[hren.1,hpos]
  try simp only[n9,X3,aD,aZ,simprocAttr]
  refine .bx [(25,68)] [x,enc (0:Int),enc [r]] (Ag r) (D0 x h r) eJ.nil ⟨.inl ⟨hren2.symm,hren.2.2 _,hren.2.1⟩,.inl ⟨rfl,rfl,rfl⟩,.inl ⟨(iE _ _).symm,bG _ _,fe _⟩,trivial⟩ ?_ ?_
  ·rintro x os' ⟨k,rfl,rfl⟩;exact dC.vd (fun p=>fT p _) (fun h=>by cases h) rfl (fun h=>by cases h) rfl (by decide)
  ·rintro x os' ⟨k,rfl,rfl⟩;have hLg:[r]=au:=by rw[hL,hpos,hn];rfl
   have hf1:=hfin k;rw[hn] at hf1;simp only[X2,Z8] at hf1;rw[hLg]
   try simp only[eP,n9,mG,Y3,X3,iy,aZ,simprocAttr]
   refine .done (hK _ ?_);clear hK K;refine U.ret ?_;simp only[aZ,simprocAttr]
   try simp only[hf1,iy,aZ,simprocAttr]
   rw[←hL];rfl
 ·try simp only[eP,n9,mG,Y3,X3,aD,aZ,simprocAttr]
  refine .vg false [(1000000,64),(25,68),(40,69)] (eP 1000000 l k) [.view 1000000 [] 8 0 l.length,enc (fx l r.bA:Int),enc [r]] (Ah l (fx l r.bA) r k) rfl (DZ l (fx l r.bA) r k hpl hn (by omega)) ⟨?_,?_⟩ ⟨.inl ⟨?_,?_,rfl⟩,.inl ⟨rfl,rfl,rfl⟩,.inl ⟨(iE _ _).symm,bG _ _,fe _⟩,trivial⟩ ?_ ?_
  ·intro n x h;simp only[eP,aJ] at h;split at h
   ·rename_i hn';subst hn';simp only[v6] at h;subst h;exact ⟨by simp only[n9,mG,aZ,simprocAttr],fT _ _,rfl⟩
   ·cases h
  ·intro a b ha hb _;rw[Go.Abs.gA.1 ha,Go.Abs.gA.1 hb]
  ·try simp only[n9,simprocAttr]
  ·exact Go.Abs.gA.2 rfl
  ·rintro x os' (⟨q,rfl,rfl⟩ | ⟨d,q,rfl | rfl,rfl,rfl⟩)
   ·exact dC.gS (fun p=>fT p _) (fun h=>by cases h) rfl (fun h=>by cases h)
   ·exact dC.ot rfl rfl (by decide) (by decide) (fun p=>fT p _) (fun h=>by cases h) (fun p=>fT p _) (fun h=>by cases h) rfl (fun h=>by cases h) rfl (by decide)
   ·exact dC.ot rfl rfl (by decide) (by decide) (fun p=>fT p _) (fun h=>by cases h) (fun p=>fT p _) (fun h=>by cases h) rfl (fun h=>by cases h) rfl (by decide)
  ·rintro x os' (⟨q,rfl,rfl⟩ | ⟨d,q,rfl | rfl,rfl,rfl⟩)
   all_goals
    rw[←hL];have hf1:=hfin q
    try simp only[eP,n9,mG,Y3,X3,iy,aZ,simprocAttr]
    refine .done (hK _ ?_);clear hK K;refine U.ret ?_;simp only[aZ,simprocAttr]
    try simp only[hf1,iy,aZ,simprocAttr]
    rw[←hL];rfl
end Go.Proofs.YtoffnnjbplgnaaaGreatDoor
namespace Go.Proofs.YtoffnnjbplgnaaaGreatDoor
open Go Go.Abs Go.Shelf Go.RowKit Go.Sort Go.Proofs
open Go.Abs.Enc (enc)
def Ay:Go.Shelf.Ren:=⟨fun | 6=>141 | 15=>163 | 14=>162 | 28=>184 | 29=>185 | 20=>176 | 21=>177 | 22=>178 | 23=>179 | 24=>180 | 25=>181 | 26=>182 | 27=>183 | 46=>199 | 47=>200 | 48=>201 | 49=>202 | 50=>203 | 57=>213 | n=>n,fun | 22=>23 | 24=>50 | 25=>188 | 3=>3 | 39=>208 | 0=>0 | 53=>225 | 55=>227 | 4=>4 | 46=>219 | 45=>218 | 50=>144 | 5=>5 | 9=>9 | 66=>243 | 70=>247 | 76=>258 | 77=>259 | n=>n,fun | n=>n⟩
theorem T7:Go.Proofs.SlLaysF0.n6 Tryz.prog Ay := {
 mixed:=by kernel_rfl
 f6 := ⟨ "slices.SortFunc[[]pinfold/api.Record,pinfold/api.Record]", by decide, Tryz.func141.trans (congrArg some (by kernel_rfl))⟩
 f14 := ⟨ "slices.pdqsortCmpFunc[pinfold/api.Record]", by decide, Tryz.func162.trans (congrArg some (by kernel_rfl))⟩
 f15:=Tryz.func163.trans (congrArg some (by kernel_rfl))
 f20 := ⟨ "slices.insertionSortCmpFunc[pinfold/api.Record]", by decide, Tryz.func176.trans (congrArg some (by kernel_rfl))⟩
 f21 := ⟨ "slices.heapSortCmpFunc[pinfold/api.Record]", by decide, Tryz.func177.trans (congrArg some (by kernel_rfl))⟩
 f22 := ⟨ "slices.breakPatternsCmpFunc[pinfold/api.Record]", by decide, Tryz.func178.trans (congrArg some (by kernel_rfl))⟩
 f23 := ⟨ "slices.choosePivotCmpFunc[pinfold/api.Record]", by decide, Tryz.func179.trans (congrArg some (by kernel_rfl))⟩
 f24 := ⟨ "slices.reverseRangeCmpFunc[pinfold/api.Record]", by decide, Tryz.func180.trans (congrArg some (by kernel_rfl))⟩
 f25 := ⟨ "slices.partialInsertionSortCmpFunc[pinfold/api.Record]", by decide, Tryz.func181.trans (congrArg some (by kernel_rfl))⟩
 f26 := ⟨ "slices.partitionEqualCmpFunc[pinfold/api.Record]", by decide, Tryz.func182.trans (congrArg some (by kernel_rfl))⟩
 f27 := ⟨ "slices.partitionCmpFunc[pinfold/api.Record]", by decide, Tryz.func183.trans (congrArg some (by kernel_rfl))⟩
 f28:=Tryz.func184.trans (congrArg some (by kernel_rfl))
 f29:=Tryz.func185.trans (congrArg some (by kernel_rfl))
 f46 := ⟨ "slices.siftDownCmpFunc[pinfold/api.Record]", by decide, Tryz.func199.trans (congrArg some (by kernel_rfl))⟩
 f47:=Tryz.func200.trans (congrArg some (by kernel_rfl))
 f48:=Tryz.func201.trans (congrArg some (by kernel_rfl))
 f49 := ⟨ "slices.medianAdjacentCmpFunc[pinfold/api.Record]", by decide, Tryz.func202.trans (congrArg some (by kernel_rfl))⟩
 f50 := ⟨ "slices.medianCmpFunc[pinfold/api.Record]", by decide, Tryz.func203.trans (congrArg some (by kernel_rfl))⟩
 f57 := ⟨ "slices.order2CmpFunc[pinfold/api.Record]", by decide, Tryz.func213.trans (congrArg some (by kernel_rfl))⟩
 t0:=Tryz.underlying0
 a0:=Tryz.isAgg0
 z0:=Tryz.sizeOf0
 v0:=Tryz.zeroValue0
 t3:=Tryz.underlying3
 a3:=Tryz.isAgg3
 z3:=Tryz.sizeOf3
 v3:=Tryz.zeroValue3
 t4:=Tryz.underlying4
 a4:=Tryz.isAgg4
 z4:=Tryz.sizeOf4
 v4:=Tryz.zeroValue4
 t5:=Tryz.underlying5
 a5:=Tryz.isAgg5
 z5:=Tryz.sizeOf5
 v5:=Tryz.zeroValue5
 t9:=Tryz.underlying9
 a9:=Tryz.isAgg9
 z9:=Tryz.sizeOf9
 v9:=Tryz.zeroValue9
 t22:=Tryz.underlying23
 a22:=Tryz.isAgg23
 z22:=Tryz.sizeOf23
 v22:=Tryz.zeroValue23
 t25:=Tryz.underlying188
 a25:=Tryz.isAgg188
 z25:=Tryz.sizeOf188
 v25:=Tryz.zeroValue188
 t39:=Tryz.underlying208
 a39:=Tryz.isAgg208
 z39:=Tryz.sizeOf208
 v39:=Tryz.zeroValue208
 t45:=Tryz.underlying218
 a45:=Tryz.isAgg218
 z45:=Tryz.sizeOf218
 v45:=Tryz.zeroValue218
 t46:=Tryz.underlying219
 a46:=Tryz.isAgg219
 z46:=Tryz.sizeOf219
 v46:=Tryz.zeroValue219
 t50:=Tryz.underlying144
 a50:=Tryz.isAgg144
 z50:=Tryz.sizeOf144
 v50:=Tryz.zeroValue144
 t53:=Tryz.underlying225
 a53:=Tryz.isAgg225
 z53:=Tryz.sizeOf225
 v53:=Tryz.zeroValue225
 t55:=Tryz.underlying227
 a55:=Tryz.isAgg227
 z55:=Tryz.sizeOf227
 v55:=Tryz.zeroValue227
 t66:=Tryz.underlying243
 a66:=Tryz.isAgg243
 z66:=Tryz.sizeOf243
 v66:=Tryz.zeroValue243
 t70:=Tryz.underlying247
 a70:=Tryz.isAgg247
 z70:=Tryz.sizeOf247
 v70:=Tryz.zeroValue247
 t76:=Tryz.underlying258
 a76:=Tryz.isAgg258
 z76:=Tryz.sizeOf258
 v76:=Tryz.zeroValue258
 t77:=Tryz.underlying259
 a77:=Tryz.isAgg259
 z77:=Tryz.sizeOf259
 v77:=Tryz.zeroValue259 }
theorem Ek:aQ Tryz.prog 141 [enc ([]:List ai),.func 142 []] (.tuple []):=by
 refine ⟨by kernel_rfl,fun w D vs _ hD hv =>?_⟩;simp only[al] at hv;obtain ⟨u,rest,cs',rfl,hp,hr',hv2⟩:=hv;obtain ⟨a,cap,h1,_⟩:=hr';have h2:cs'=[u]:=hp;rw[h1] at h2;obtain rfl:u=.slice a 0 cap:=by simpa using h2.symm
 obtain ⟨f,rest2,cs2,rfl,hp2,hr2,rfl⟩:=hv2;simp only[af] at hr2;obtain ⟨vs2,e2,e3⟩:=hr2;have h3:cs2=[f]:=hp2;rw[e2] at h3;simp only[al] at e3;subst e3;obtain rfl:f=.func (.func 142) #[] #[]:=by
  have:=h3.symm;simp only[Y6,and_true] at this;rw[this];rfl
 refine (AnyF.slices_SortFunc_none (P:=Tryz.prog) (ρ:=Ay) { T7 with } a cap (.func (.func 142) #[] #[]) w).mono ?_;rintro e w' ⟨rfl,rfl⟩;exact ⟨.tuple #[],D,rfl,⟨[],rfl,rfl⟩,⟨rfl,rfl,rfl,Z3 _,fun _ _=>rfl⟩,hD,fun _ _ h _=>h⟩
theorem EL:aQ Tryz.prog 95 [enc ([]:List ai)] (enc (⟨[]⟩:iK)):=by
 refine aQ.bM Tryz.func95 G8 Ih Jx (t8 rfl) (fun hwf W0 bF E1 =>?_);simp only[yr,Cx,bB];clear hwf;have h1:=tc [] (by simp);have R:=y6 @iy (y6 @jS aD)
 repeat' ((first |refine U.aG (by decide +kernel) rfl fun K hK =>?_|refine .lead _ (h1) ?_|refine .flat _ (Ek) rfl ?_|(refine .aE [0,2,3] hK ?_;clear hK K)|(with_reducible refine .done (hK _ ?_);clear hK K)|refine U.of rfl ?_|(with_reducible refine aw.aF (fun h =>?_) (fun h =>?_) <;>try simp only[h])) <;>try simp only[aH,R,simprocAttr])
 all_goals clear R
 all_goals rfl
end Go.Proofs.YtoffnnjbplgnaaaGreatDoor
namespace Go.Proofs.YtoffnnjbplgnaaaGreatDoor
open Go Go.Abs
open Go.Abs.Enc (enc)
theorem DQ{l:List ai}(h:gL [] l=true):l.length≤60:=by
 have:=iN.len (by simp) ((wC l []).1 h);simpa using this
theorem DR{l:List ai}(h:gL [] l=true):∀ r∈l,bf r=true:=iN.ok ((wC l []).1 h)
def nG(r:db)(l:List ai):Bool:=gL [] l&&decide (r.dn.all=eQ 1 l)&&(List.range (l.length+1)).any fun i=>decide (r.copy.all=eQ 1 (l.take i))
theorem E8{p:Nat→Bool}{n i:Nat}(hi:i<n)(h:∀ k,k<i→p k=false)(hp:p i=true):(List.range n).any p=true:=List.any_eq_true.2 ⟨i,by simpa using hi,hp⟩
theorem E7{p:Nat→Bool}{n:Nat}(h:∀ k,k<n→p k=false):(List.range n).any p=false:=by
 rw[List.any_eq_false];intro k hk;rw[h k (by simpa using hk)];decide
theorem EH(r:db)(h:r.small)(l:List ai)(hl:l.length≤1000000):aQ Tryz.prog 87 [enc r,enc l] (enc (nG r l)):=by
 refine aQ.bM Tryz.func87 G3 Ib Js (t8 rfl) (fun hwf W0 bF E1 =>?_);simp only[yl,Cs,bB,Z8];clear hwf;have f98:=EM l (by omega);have f1:=oB r.dn h.1;have f2:=oB r.copy h.2;simp only[nG];cases q1:gL [] l
 ·rw[q1] at f98;have R:=y6 @bg aD
  repeat' ((first |(with_reducible refine .guard (fun hb =>?_) (fun hb =>?_) <;>try simp only[hb])|refine U.aG (by decide +kernel) rfl fun K hK =>?_|refine .flat _ (f98) rfl ?_|(refine .aE [0,1,2,4,5,16,19,20,21,30] hK ?_;clear hK K)|(with_reducible refine .done (hK _ ?_);clear hK K)|refine U.of rfl ?_|(with_reducible refine aw.aF (fun h =>?_) (fun h =>?_) <;>try simp only[h])) <;>try simp only[aH,R,simprocAttr])
  all_goals clear R
  all_goals rfl
 rw[q1] at f98;have hok:=DR q1;have hln:=DQ q1;have f135:=wJ l hl hok;have hpre:=fun i=>wJ (l.take i) (by rw[Z9];omega) fun x hx=>hok x (List.mem_of_mem_take hx);cases q2:decide (r.dn.all=eQ 1 l)
 ·have R:=y6 @q2 (y6 @gI (y6 @bg aD))
  repeat' ((first |(with_reducible refine .guard (fun hb =>?_) (fun hb =>?_) <;>try simp only[hb])|refine U.aG (by decide +kernel) rfl fun K hK =>?_|refine .flat _ (f98) rfl ?_|refine .flat _ (f1) rfl ?_|refine .flat _ (f135) rfl ?_|(refine .aE [0,1,2,4,5,16,19,20,21,30] hK ?_;clear hK K)|(with_reducible refine .done (hK _ ?_);clear hK K)|refine U.of rfl ?_|(with_reducible refine aw.aF (fun h =>?_) (fun h =>?_) <;>try simp only[h])) <;>try simp only[aH,R,simprocAttr])
  all_goals clear R
  all_goals rfl
 have hw0:=eE (i:=l.length) (by omega);have R:=y6 @q2 (y6 @hw0 (y6 @gI (y6 @bg aD)))
 repeat' ((first |(with_reducible refine .guard (fun hb =>?_) (fun hb =>?_) <;>try simp only[hb])|refine U.aG (by decide +kernel) rfl fun K hK =>?_|refine .flat _ (f98) rfl ?_|refine .flat _ (f1) rfl ?_|refine .flat _ (f135) rfl ?_|(refine .aE [0,1,2,4,5,16,19,20,21,30] hK ?_;clear hK K)|(with_reducible refine .done (hK _ ?_);clear hK K)|refine U.of rfl ?_|(with_reducible refine aw.aF (fun h =>?_) (fun h =>?_) <;>try simp only[h])) <;>try simp only[aH,R,simprocAttr])
 all_goals clear R
 refine U.loop (fun i:Nat=>ay [(1,enc l),(2,.ptr 2 []),(19,.int .i64 ((l.length+1:Nat):Int)),(20,.int .i64 i)] [(2,.box (enc r))]) (fun i=>i≤l.length+1∧∀ k,k<i→decide (r.copy.all=eQ 1 (l.take k))=false) (fun i=>l.length+1-i) 0 ⟨Nat.zero_le _,fun k hk=>by omega⟩ ?_ ?_
 ·refine bw.cK ?_ ?_ ?_ ?_ <;>simp[cj,cn,cm,bQ,aB,cg,dR,I.only,ah.only,bG]
  all_goals rfl
 rintro i ⟨hi,hk⟩;by_cases hlt:i<l.length+1
 ·have hlc:=eO hlt;have hw:=eE (i:=i) (by omega);have hsl:=fun A=>Dl (l:=l) (k:=i) A (esz:=8) rfl (by omega);have f135':=hpre i;cases q3:decide (r.copy.all=eQ 1 (l.take i))
  ·have R:=y6 @hlc (y6 @hw (y6 @hsl (y6 @q3 (y6 @kd (y6 @bg aD)))))
   repeat' ((first |(with_reducible refine .guard (fun hb =>?_) (fun hb =>?_) <;>try simp only[hb])|refine U.aG (by decide +kernel) rfl fun K hK =>?_|refine .flat _ (f2) rfl ?_|refine .flat _ (f135') rfl ?_|(refine .aE [0,1,2,4,5,16,19,20,21,30] hK ?_;clear hK K)|(with_reducible refine .done (hK _ ?_);clear hK K)|refine U.of rfl ?_|(with_reducible refine aw.aF (fun h =>?_) (fun h =>?_) <;>try simp only[h])) <;>try simp only[aH,R,X7,simprocAttr])
   all_goals clear R
   refine ⟨i+1,⟨by omega,fun k hk2 =>?_⟩,by omega,?_⟩
   ·by_cases e:k=i
    ·rw[e];exact q3
    ·exact hk k (by omega)
   ·clear hk;refine bw.cK ?_ ?_ ?_ ?_ <;>simp[cj,cn,cm,bQ,aB,cg,dR,I.only,ah.only,bG]
    all_goals rfl
  ·rw[E8 hlt hk q3];have R:=y6 @hlc (y6 @hw (y6 @hsl (y6 @q3 (y6 @kd (y6 @bg aD)))))
   repeat' ((first |(with_reducible refine .guard (fun hb =>?_) (fun hb =>?_) <;>try simp only[hb])|refine U.aG (by decide +kernel) rfl fun K hK =>?_|refine .flat _ (f2) rfl ?_|refine .flat _ (f135') rfl ?_|(refine .aE [0,1,2,4,5,16,19,20,21,30] hK ?_;clear hK K)|(with_reducible refine .done (hK _ ?_);clear hK K)|refine U.of rfl ?_|(with_reducible refine aw.aF (fun h =>?_) (fun h =>?_) <;>try simp only[h])) <;>try simp only[aH,R,X7,simprocAttr])
   all_goals clear R
   all_goals rfl
 ·have hlc:=fm hlt;rw[E7 fun k hk2=>hk k (by omega)];have R:=y6 @hlc aD
  repeat' ((first |(with_reducible refine .guard (fun hb =>?_) (fun hb =>?_) <;>try simp only[hb])|refine U.aG (by decide +kernel) rfl fun K hK =>?_|(refine .aE [0,1,2,4,5,16,19,20,21,30] hK ?_;clear hK K)|(with_reducible refine .done (hK _ ?_);clear hK K)|refine U.of rfl ?_|(with_reducible refine aw.aF (fun h =>?_) (fun h =>?_) <;>try simp only[h])) <;>try simp only[aH,R,simprocAttr])
  all_goals clear R
  all_goals rfl
section
variable {α:Type} [Enc α] {P:Program} {hs:List FuncId} {Y:Value→List I→List (Nat×ah)→bY→Prop} {K:ab→Prop} {rest:List ar} {d e esz bytes:Nat}
def lV(esz:Nat)(v:I)(os:List (Nat×ah))(l:List α)(S:List Nat):Prop:=(l=[]∧(v=.c0 esz∨v=.nils esz))∨∃ n q,n∈S∧v=.view n [] esz 0 l.length∧aJ os n=some (.box (.agg ((l++q).map enc)))
theorem Fk{A:ab}{w:I}(hw:w=.c0 esz∨w=.nils esz)(z:I){l:List α}(hsz:Enc.sz α=esz)(hl:l≠[])(hf:A.o d=none)(hb:l.length*bytes≤140737488355328)(hml:l.length≤maxLen) :
  ∃ p:Nat→Prop,eL A (some d) e esz bytes z (enc l) rest w=.any p fun m=>ao rest ((A.aP d (.box (.agg (l.map enc++List.replicate m z)))).aM (some d) (.view d [] esz 0 l.length)):=by
 have hne:l.map (enc (α:=α))≠[]:=by simpa using hl
 have h1:cO A esz w=some []:=by rcases hw with rfl | rfl <;>rfl
 refine ⟨fun m=>l.length+m≤maxLen,?_⟩;rcases hw with rfl | rfl <;>simp only[eL,h1,ke A esz l hsz,dY,if_neg hne,eK,hf,X2,Z8,Z2,if_pos (y6 hb hml),X3]
theorem Fj{A:ab}(z:I)(hsz:Enc.sz α=esz){n l:Nat}{xs ys:List α}(hy:ys≠[])(ho:A.o n=some (.box (.agg (xs.map enc))))(hl:l≤xs.length)(hr:xs.length<l+ys.length)(hf:A.o d=none)(hb:(l+ys.length)*bytes≤140737488355328)(hml:l+ys.length≤maxLen) :
  ∃ p:Nat→Prop,eL A (some d) e esz bytes z (enc ys) rest (.view n [] esz 0 l)=.any p fun m=>ao rest ((A.aP d (.box (.agg ((xs.take l).map enc++(ys.map enc++List.replicate m z))))).aM (some d) (.view d [] esz 0 (l+ys.length))):=by
 have h1:=mR (A:=A) (esz:=esz) (lo:=0) (k:=l) ho (by omega);have h2:(I.agg (xs.map (enc (α:=α)))).at []=some (.agg (xs.map enc)):=rfl;have h4:(xs.take l).length=l:=by rw[Z9];omega
 refine ⟨fun m=>l+ys.length+m≤maxLen,?_⟩;simp only[eL,h1,List.drop_zero,ke A esz ys hsz,dY];rw[if_neg (by simpa using hy)];simp only[ho,h2,Z2,Z8];rw[if_neg (by omega)];simp only[eK,hf,Z2,h4];rw[if_pos ⟨hb,hml⟩]
theorem Tt(z:α){ts:List (Nat×I)}{os:List (Nat×ah)}{v:I}{l ys:List α}{S:List Nat}(hsz:Enc.sz α=esz)(hg:lV esz v os l S)(hf:aJ os d=none)(hb:(l.length+ys.length)*bytes≤140737488355328)(hml:l.length+ys.length≤maxLen) :
  (∃ v' os',eL (ay ts os) (some d) e esz bytes (enc z) (enc ys) rest v=ao rest (ay ((d,v')::ts) os')∧lV esz v' os' (l++ys) (d::S)∧∀ m,m∉d::S→aJ os' m=aJ os m) ∨
  (∃ p,∃ v':Nat→I,∃ os':Nat→List (Nat×ah),eL (ay ts os) (some d) e esz bytes (enc z) (enc ys) rest v=.any p (fun m=>ao rest (ay ((d,v' m)::ts) (os' m)))∧∀ k,lV esz (v' k) (os' k) (l++ys) (d::S)∧∀ m,m∉d::S→aJ (os' k) m=aJ os m):=by
 by_cases hy:ys=[]
 ·subst hy;rw[List.append_nil];rcases hg with ⟨rfl,hv⟩ | ⟨n,q,hn,rfl,ho⟩
  ·rcases hv with rfl | rfl
   ·exact .inl ⟨.c0 esz,os,Fl _ hsz,.inl ⟨rfl,.inl rfl⟩,fun _ _=>rfl⟩
   ·refine .inl ⟨.nils esz,os,?_,.inl ⟨rfl,.inr rfl⟩,fun _ _=>rfl⟩;have h1:cO (ay ts os) esz (.nils esz)=some []:=rfl;simp only[eL,h1,ke _ esz ([]:List α) hsz,dY,Y9,if_true];rfl
  ·refine .inl ⟨_,os,?_,.inr ⟨n,q,List.mem_cons_of_mem _ hn,rfl,ho⟩,fun _ _=>rfl⟩;have h1:=mR (A:=ay ts os) (esz:=esz) (lo:=0) (k:=l.length) ho (by simp);simp only[eL,h1,ke _ esz ([]:List α) hsz,dY,Y9,if_true];rfl
 ·rcases hg with ⟨rfl,hv⟩ | ⟨n,q,hn,rfl,ho⟩
  ·obtain ⟨p,h1⟩:=Fk (A:=ay ts os) (rest:=rest) (e:=e) hv (enc z) hsz hy hf (by simpa using hb) (by simpa using hml);refine .inr ⟨p,fun m=>.view d [] esz 0 ys.length,fun m=>(d,.box (.agg (ys.map enc++List.replicate m (enc z))))::os,h1,fun k=>⟨.inr ⟨d,List.replicate k z,List.mem_cons_self,by simp,?_⟩,fun m hm =>?_⟩⟩
   ·simp[aJ]
   ·rw[dR,if_neg (fun h=>by rw[h] at hm;exact hm List.mem_cons_self)]
  ·by_cases hr:l.length+ys.length≤(l++q).length
   ·have h1:=xa (A:=ay ts os) (rest:=rest) (d:=some d) (e:=e) (bytes:=bytes) (esz:=esz) (enc z) hsz hy ho hr;have e1:(l++q).take l.length++(ys++(l++q).drop (l.length+ys.length))=(l++ys)++q.drop ys.length:=by simp[List.drop_append]
    rw[e1] at h1;refine .inl ⟨_,(n,.box (.agg (((l++ys)++q.drop ys.length).map enc)))::os,h1,.inr ⟨n,q.drop ys.length,List.mem_cons_of_mem _ hn,by simp,by simp[aJ]⟩,fun m hm =>?_⟩;rw[dR,if_neg (fun h=>by rw[h] at hm;exact hm (List.mem_cons_of_mem _ hn))]
   ·obtain ⟨p,h1⟩:=Fj (A:=ay ts os) (rest:=rest) (d:=d) (e:=e) (bytes:=bytes) (esz:=esz) (enc z) hsz hy ho (by simp) (by omega) hf hb hml;refine .inr ⟨p,fun m=>.view d [] esz 0 (l.length+ys.length),fun m=>(d,.box (.agg (((l++q).take l.length).map enc++(ys.map enc++List.replicate m (enc z)))))::os,h1,fun k=>⟨.inr ⟨d,List.replicate k z,List.mem_cons_self,by simp,?_⟩,fun m hm =>?_⟩⟩
    ·simp[aJ]
    ·rw[dR,if_neg (fun h=>by rw[h] at hm;exact hm List.mem_cons_self)]
theorem bH.Tq(z:α){ts:List (Nat×I)}{os:List (Nat×ah)}{v:I}{l ys:List α}{S:List Nat}(hsz:Enc.sz α=esz)(hg:lV esz v os l S)(hf:aJ os d=none)(hb:(l.length+ys.length)*bytes≤140737488355328)(hml:l.length+ys.length≤maxLen)
  (h:∀ v' os',lV esz v' os' (l++ys) (d::S)→(∀ m,m∉d::S→aJ os' m=aJ os m)→bH P Y hs K (ao rest (ay ((d,v')::ts) os'))):bH P Y hs K (eL (ay ts os) (some d) e esz bytes (enc z) (enc ys) rest v):=by
 rcases Tt (rest:=rest) (e:=e) z hsz hg hf hb hml (ts:=ts) with ⟨v',os',h1,h2,h3⟩ | ⟨p,v',os',h1,h2⟩
 ·rw[h1];exact h v' os' h2 h3
 ·rw[h1];exact .any fun m _=>h _ _ (h2 m).1 (h2 m).2
theorem Ts{v:I}{os:List (Nat×ah)}{l:List α}{S:List Nat}{A:ab}(hsz:Enc.sz α=esz)(h:lV esz v os l S)(hA:∀ m∈S,A.o m=aJ os m):ba true A v=some (enc l):=by
 rcases h with ⟨rfl,rfl | rfl⟩ | ⟨n,q,hn,rfl,ho⟩
 ·simp only[ba,iU,Y9,hsz]
 ·simp only[ba,iU,Y9,hsz]
 ·have h1:ba true A (.view n [] esz 0 l.length)=kI esz 0 l.length (some ((l++q).map enc)):=by
   rw[uw,hA n hn,ho];rfl
  rw[h1,qY hsz,List.take_left]
end
theorem Tr{l:List ai}{x:I}{os' os0:List (Nat×ah)}{d:Nat}(h:qO l x os'):lV 8 (x.aR (bp [(7,d)])) (cX [(7,d)] os'++os0) l [d]:=by
 rcases h with ⟨hn,rfl | rfl,rfl⟩ | ⟨hn,k,rfl,rfl⟩
 ·exact .inl ⟨hn,.inr rfl⟩
 ·exact .inl ⟨hn,.inl rfl⟩
 ·refine .inr ⟨d,List.replicate k cA,by simp,?_,?_⟩
  ·simp[I.aR,bp]
  ·simp only[eP,mG,Z4,Y3,aJ,cX,bp,if_true,ah.aR,I.aR]
def jg:db:=⟨⟨[],[]⟩,⟨[],[]⟩⟩
theorem oW:I.agg [.agg [.ak ⟨#[]⟩,.ak ⟨#[]⟩],.agg [.ak ⟨#[]⟩,.ak ⟨#[]⟩]]=enc jg:=rfl
def ov(r:db)(l s:List ai)(x:ai):db×List ai×Int :=
 if x∈l then (r,l,0) else if (iP s x).2≠0 then (jg,[],(iP s x).2) else (⟨⟨r.dn.bJ,r.dn.eh++cR (ev 1 l) x⟩,r.copy⟩,l++[x],0)
theorem EX{s:List ai}{x:ai}(h:(iP s x).2=0):bf x=true:=by
 simp only[iP] at h;cases q:bf x
 ·rw[q] at h
  (repeat' split at h) <;>simp_all
 ·rfl
theorem Dy:(∀ A n b rest (q:iK),er A (some 1) n [] b (enc q) rest (some (.agg [.nils 8]))=ao rest (A.aP n (.box (enc q)))) ∧
  (∀ A n rest (r:db) (x y:List UInt8),er A none n [0,1] (enc r) (enc (aj.of x)) rest (some (enc (aj.of y)))=ao rest (A.aP n (.box (enc (⟨⟨r.dn.bJ,x⟩,r.copy⟩:db))))) :=
 ⟨fun A n b rest q=>by rw[fj (s:=some 1) (v:=enc q) (old:=.agg [.nils 8]) (fe _) rfl rfl,fi],
  fun A n rest r x y=>by rw[fj (s:=none) (v:=enc (aj.of x)) (old:=enc (aj.of y)) (fe _) rfl rfl];rfl⟩
theorem EI(r:db)(h:r.small)(l s:List ai)(hl:l.length≤60)(hok:∀ x∈l,bf x=true)(hsl:s.length≤60)(h95:aQ Tryz.prog 95 [enc l] (enc (⟨s⟩:iK)))(x:ai) :
  aQ Tryz.prog 88 [enc r,enc l,enc x] (.tuple [enc (ov r l s x).1,enc (ov r l s x).2.1,enc (ov r l s x).2.2]):=by
 refine aQ.bM Tryz.func88 G4 Ic Jt (t8 rfl) (fun hwf W0 bF E1 =>?_);simp only[ym,Ct,bB,Z8,Nat.reduceAdd];clear hwf;have f136:=Ee l x (by omega);have f93:=tc l (by omega);have f44:=EB s x (by omega);simp only[ov];cases q1:decide (x∈l)
 rotate_left
 ·rw[q1] at f136;rw[if_pos (of_decide_eq_true q1)];have R:=y6 @oW (y6 @fZ (y6 @bg aD))
  repeat' ((first |refine U.aG (by decide +kernel) rfl fun K hK =>?_|refine .flat _ (f136) rfl ?_|refine .lead _ (f93) ?_|(refine U.lN (gs:=uC) [] [(3,[3]),(6,[6])] [0,1,2,3,4,5] (by decide +kernel) (dD.of (by simp[jw,cg,AK,I.only,bG])) fun K hK =>?_;simp only[j7,uC,List.getD_cons_zero,List.getD_cons_succ,R,simprocAttr])|(refine .aE [0,1,2,3,5,6,7,8,10,11,15,27] hK ?_;clear hK K)|(with_reducible refine .done (hK _ ?_);clear hK K)|refine U.of rfl ?_|(with_reducible refine aw.aF (fun h =>?_) (fun h =>?_) <;>try simp only[h])) <;>try simp only[aH,R,simprocAttr])
  all_goals clear R
  all_goals rfl
 rw[q1] at f136;rw[if_neg (of_decide_eq_false q1)];by_cases q2:(iP s x).2=0
 rotate_left
 ·have q2':((iP s x).2 != 0)=true:=by simpa using q2
  rw[if_pos q2];generalize iP s x=p at *;have R:=y6 @oW (y6 @q2' (y6 @Dy (y6 @iy (y6 @fZ (y6 @bg aD)))))
  repeat' ((first |refine U.aG (by decide +kernel) rfl fun K hK =>?_|refine .flat _ (f136) rfl ?_|refine .lead _ (h95) ?_|refine .lead _ (f44) ?_|(refine .aE [0,1,2,3,5,6,7,8,10,11,15,27] hK ?_;clear hK K)|(with_reducible refine .done (hK _ ?_);clear hK K)|refine U.of rfl ?_|(with_reducible refine aw.aF (fun h =>?_) (fun h =>?_) <;>try simp only[h])) <;>try simp only[aH,R,simprocAttr])
  all_goals clear R
  all_goals rfl
 have q2':((iP s x).2 != 0)=false:=by simp[q2]
 rw[if_neg (by simp[q2])];have hx:=EX q2;have f137:=Ef l (by omega) hok;have hin:=sQ l;have f81:=oD (ev 1 l) hin x hx;have hll:=rM hin hx;have hadd:=eH r.dn.eh (cR (ev 1 l) x) (by have:=h.1.2;omega);generalize iP s x=p at *;have hbs:gw 8 (some [enc x])=some (enc [x]):=oO 8 x rfl;have R:=y6 @oW (y6 @q2' (y6 @hadd (y6 @Dy (y6 @iy (y6 @fZ (y6 @bg aD))))))
 repeat' ((first |refine U.aG (by decide +kernel) rfl fun K hK =>?_|refine .flat _ (f136) rfl ?_|refine .lead _ (h95) ?_|refine .lead _ (f44) ?_|refine .flat _ (f137) rfl ?_|refine .lead _ (f81) ?_|(refine .aE [0,1,2,3,5,6,7,8,10,11,15,27] hK ?_;clear hK K)|(with_reducible refine .done (hK _ ?_);clear hK K)|refine U.of rfl ?_|(with_reducible refine aw.aF (fun h =>?_) (fun h =>?_) <;>try simp only[h])) <;>try simp only[aH,R,simprocAttr])
 all_goals clear R
 obtain ⟨r',hr'⟩:∃ r':db,r'=⟨⟨r.dn.bJ,r.dn.eh++cR (ev 1 l) x⟩,r.copy⟩:=⟨_,rfl⟩
 rw[←hr'];refine U.sub (bw.rf [3] 3 (x:=.ptr 3 []) (y:=.ref (enc r')) (ts':=[(1,enc l),(3,.ref (enc r')),(5,.ptr 5 []),(6,.ptr 6 [])]) (os':=[(6,.box (enc jg)),(5,.box (enc x))]) rfl ?_ ?_ ?_ ?_ ?_ ?_) ?_
 ·rw[uv];simp[nA,dE,ay,jY,aJ,jS,qG]
 ·simp[dO,bQ,ah.only,I.only,I.cF,bG]
 ·simp[cj,iV,cg,I.only,bG]
 ·simp[cn,dO,aJ]
 ·simp[cm,aB,aJ,I.only,bG]
 ·simp[bQ,ah.only,bG]
 refine U.sub (bw.rf [5] 5 (x:=.ptr 5 []) (y:=.ref (enc x)) (ts':=[(1,enc l),(3,.ref (enc r')),(5,.ref (enc x)),(6,.ptr 6 [])]) (os':=[(6,.box (enc jg))]) rfl ?_ ?_ ?_ ?_ ?_ ?_) ?_
 ·rw[uv];simp[nA,dE,ay,jY,aJ,jS,qG]
 ·simp[dO,bQ,ah.only,bG]
 ·simp[cj,iV,cg,I.only,bG]
 ·simp[cn,dO,aJ]
 ·simp[cm,aB,aJ,I.only,bG]
 ·simp[bQ,ah.only,bG]
 have R:=y6 @hbs (y6 @ec (y6 @fZ (y6 @bg aD)))
 repeat' ((first |refine U.aG (by decide +kernel) rfl fun K hK =>?_|refine .flat _ (8 [0,1,3,4,2,5,6,7,8] [(3,[]),(5,[]),(6,[6])]) rfl ?_|(refine .aE [0,1,2,3,5,6,7,8,10,11,15,27] hK ?_;clear hK K)|(with_reducible refine .done (hK _ ?_);clear hK K)|refine U.of rfl ?_|(with_reducible refine aw.aF (fun h =>?_) (fun h =>?_) <;>try simp only[h])) <;>try simp only[aH,R,simprocAttr])
 all_goals clear R
 refine U.lN (gs:=uD) [] [(3,[]),(5,[]),(6,[6])] [0,1,3,4,2,5,6,7,8] (by decide +kernel) (dD.of (by simp[jw,cg,I.only,bG])) fun K hK =>?_
 try simp only[j7,uD,Z4,Y9,List.getD_cons_zero,List.getD_cons_succ,hbs,aD,aZ,simprocAttr]
 refine .bx [(7,46)] [enc l] (qO l) (wV l (by omega)) eJ.nil ⟨.inl ⟨(iE _ _).symm,bG _ _,fe _⟩,trivial⟩ ?_ ?_
 ·rintro x os' (⟨_,h | h,rfl⟩ | ⟨_,k,rfl,rfl⟩)
  ·subst h;exact dC.nil (fun _=>rfl) (fun h=>by cases h)
  ·subst h;exact dC.nil (fun _=>rfl) (fun h=>by cases h)
  ·exact dC.vd (fun p=>fT p _) (fun h=>by cases h) rfl (fun h=>by cases h) rfl (by decide)
 intro y os' hp;have hg:=Tr (d:=46) (os0:=[(6,.box (enc jg))]) hp;have h6:∀ m,m≠46→aJ (cX [(7,46)] os'++[(6,ah.box (enc jg))]) m=aJ [(6,ah.box (enc jg))] m:=by
  intro m hm;rcases hp with ⟨_,_,rfl⟩ | ⟨_,k,_,rfl⟩
  ·rfl
  ·simp only[eP,cX,Z4,Y9,bp,if_true,Y3,X3,aJ,if_neg hm]
 generalize y.aR (bp [(7,46)])=v at hg ⊢;generalize cX [(7,46)] os'++[(6,ah.box (enc jg))]=os at hg h6 ⊢;have h49:aJ os 49=none:=h6 49 (by decide)
 try simp only[ec,aZ,simprocAttr]
 refine bH.Tq (default:ai) (ys:=[x]) rfl hg h49 (by simp;omega) (by simp[maxLen];omega) fun v' os'' hg2 hk =>?_;have h66:aJ os'' 6=some (.box (enc jg)):=by rw[hk 6 (by decide),h6 6 (by decide)];rfl
 try simp only[h66,fZ,aZ,simprocAttr]
 have hf:∀ ts,ba true (ay ts ((6,.box (enc r'))::os'')) v'=some (enc (l++[x])):=fun ts=>Ts rfl hg2 fun m hm=>by
  have:m≠6:=by
   simp only[zz3,List.not_mem_nil,or_false] at hm;omega
  simp[ay,aJ,this]
 refine .done (hK _ ?_);clear hK K;refine U.ret ?_;simp only[aZ,simprocAttr]
 try simp only[hf,aD,aZ,simprocAttr]
 all_goals rfl
def qn(r:db)(l s:List ai)(x:ai):db×List ai×Int:=if nG r l=false then (jg,[],84) else ov r l s x
theorem EA(r:db)(h:r.small)(l s:List ai)(hl:l.length≤1000000)(hsl:s.length≤60)(h95:nG r l=true→aQ Tryz.prog 95 [enc l] (enc (⟨s⟩:iK)))(x:ai) :
  aQ Tryz.prog 35 [enc r,enc l,enc x] (.tuple [enc (qn r l s x).1,enc (qn r l s x).2.1,enc (qn r l s x).2.2]):=by
 refine aQ.bM Tryz.func35 GL HU Jb (t8 rfl) (fun hwf W0 bF E1 =>?_);simp only[xZ,Cc,bB,Z8,Nat.reduceAdd];clear hwf;have f:=EH r h l hl;simp only[qn];cases q:nG r l
 ·rw[q] at f;have R:=y6 @oW (y6 @fZ (y6 @bg aD))
  repeat' ((first |refine U.aG (by decide +kernel) rfl fun K hK =>?_|refine .flat _ (f) rfl ?_|(refine .aE [0,1,2,3,5,6,7,8,12] hK ?_;clear hK K)|(with_reducible refine .done (hK _ ?_);clear hK K)|refine U.of rfl ?_|(with_reducible refine aw.aF (fun h =>?_) (fun h =>?_) <;>try simp only[h])) <;>try simp only[aH,R,simprocAttr])
  all_goals clear R
  all_goals rfl
 rw[q] at f;have hw:gL [] l=true:=by simp only[nG,Z0] at q;exact q.1.1
 have f88:=EI r h l s (DQ hw) (DR hw) hsl (h95 q) x;simp only[Bool.true_eq_false,if_false];generalize ov r l s x=p at *;have R:=y6 @oW (y6 @fZ (y6 @bg aD))
 repeat' ((first |refine U.aG (by decide +kernel) rfl fun K hK =>?_|refine .flat _ (f) rfl ?_|refine .lead _ (f88) ?_|(refine .aE [0,1,2,3,5,6,7,8,12] hK ?_;clear hK K)|(with_reducible refine .done (hK _ ?_);clear hK K)|refine U.of rfl ?_|(with_reducible refine aw.aF (fun h =>?_) (fun h =>?_) <;>try simp only[h])) <;>try simp only[aH,R,simprocAttr])
 all_goals clear R
 all_goals rfl
end Go.Proofs.YtoffnnjbplgnaaaGreatDoor
namespace Go.Proofs.YtoffnnjbplgnaaaGreatDoor
open Go Go.Abs Go.RowKit
open Go.Abs.Enc (enc)
def gb(p:List Int)(i:Nat)(n:Int):Int:=if p=[] then 0 else r2 (p.getD (i%p.length) 0) n
theorem Wi(i n:Nat):(i:Int).tmod (n:Int)=((i%n:Nat):Int):=rfl
theorem s7(p:List Int)(i:Nat)(n:Int)(hn:n≠0)(hi:i≤1000)(hp:p.length≤1000000000000000):aQ Tryz.prog 121 [enc p,.int .i64 (i:Int),enc n] (enc (gb p i n)):=by
 refine aQ.bM Tryz.func121 F6 Hm IB (t8 rfl) (fun hwf W0 bF E1 =>?_);simp only[xu,BD,bB,Z8,Nat.reduceAdd];clear hwf;simp only[gb];by_cases h:p=[]
 ·have q:((p.length:Int)==0)=true:=by rw[h];rfl
  rw[if_pos h];have R:=y6 @q aD
  repeat' ((first |refine U.aG (by decide +kernel) rfl fun K hK =>?_|(refine .aE [0,1,2,6,9] hK ?_;clear hK K)|(with_reducible refine .done (hK _ ?_);clear hK K)|refine U.of rfl ?_|(with_reducible refine aw.aF (fun h =>?_) (fun h =>?_) <;>try simp only[h])) <;>try simp only[aH,R,simprocAttr])
  all_goals clear R
  all_goals rfl
 ·have hpos:0<p.length:=List.length_pos_iff.2 h;have q:((p.length:Int)==0)=false:=by rw[beq_eq_false_iff_ne];omega
  have hnz:¬ (p.length:Int)=0:=by omega
  have hr:=Wi i p.length;have hlt:i%p.length<p.length:=Nat.mod_lt _ hpos;have he:=fun A=>fR (A:=A) 1 hlt rfl;rw[if_neg h];have hg:p.getD (i%p.length) 0=p[i%p.length]:=by simp[Y7,hlt]
  rw[hg];generalize p[i%p.length]=x at *;have R:=y6 @q (y6 @hnz (y6 @hr (y6 @he (y6 @hn aD))))
  repeat' ((first |refine U.aG (by decide +kernel) rfl fun K hK =>?_|(refine .aE [0,1,2,6,9] hK ?_;clear hK K)|(with_reducible refine .done (hK _ ?_);clear hK K)|refine U.of rfl ?_|(with_reducible refine aw.aF (fun h =>?_) (fun h =>?_) <;>try simp only[h])) <;>try simp only[aH,R,simprocAttr])
  all_goals clear R
  all_goals rfl
end Go.Proofs.YtoffnnjbplgnaaaGreatDoor
namespace Go.Proofs.YtoffnnjbplgnaaaGreatDoor
open Go Go.Abs
open Go.Abs.Enc (enc)
def sV(u:List UInt8)(p:List Int)(i:Nat):List UInt8:=u.take (gb p i (u.length+1:Nat)).toNat
def qb(w:List UInt8)(p:List Int)(i:Nat):List UInt8:=if gb p (i+1) 2=1∧0<w.length then w.set (gb p (i+2) (w.length:Nat)).toNat 63 else w
def wv(r:dh)(p:List Int)(i:Nat):List UInt8:=r.bJ++qb (sV r.eh p i) p i
def lj(r:dh)(p:List Int)(i:Nat):dh:=⟨wv r p i,[]⟩
theorem Dq(w:List UInt8)(p:List Int)(i:Nat):(qb w p i).length=w.length:=by
 rw[qb];split <;>simp
theorem tv{p:List Int}{i:Nat}{n:Nat}(hn:0<n∧n≤4611686018427387904)(hp:∀ x∈p,-9223372036854775808≤x∧x≤9223372036854775807):0≤gb p i (n:Nat)∧gb p i (n:Nat)<n:=by
 rw[gb];by_cases h:p=[]
 ·rw[if_pos h];omega
 ·rw[if_neg h];have hpos:0<p.length:=List.length_pos_iff.2 h;have hlt:i%p.length<p.length:=Nat.mod_lt _ hpos;have hm:p.getD (i%p.length) 0∈p:=by simp only[Y7,Y8 hlt,Option.getD_some];exact List.getElem_mem hlt
  rw[Uw (hp _ hm) (by omega)];exact ⟨Int.emod_nonneg _ (by omega),Int.emod_lt_of_pos _ (by omega)⟩
theorem xn:∀ l:List UInt8,l8 (l.map enc)=some l
 | []=>rfl
 |b::l=>by
  have h:=xn l;rw[Z4]
  show (match I.int .u8 (b.toNat:Int),l8 (l.map enc) with | .int .u8 n,some l=>some (UInt8.ofNat n.toNat::l) | _,_=>none)=_
  rw[h]
  show some (UInt8.ofNat ((b.toNat:Int)).toNat::l)=_
  simp
theorem qH(l:List UInt8):ku (some (l.map enc))=some (enc (aj.of l)):=by
 rw[ku,xn];rfl
theorem sJ(A:ab)(t:List UInt8):jK A 1 (enc (aj.of t))=some (t.map enc):=rfl
theorem sB(n:Nat):List.replicate n (I.int .u8 0)=(List.replicate n (0:UInt8)).map enc:=by rw[List.map_replicate];rfl
def v7(sz z lo k:Nat):Option (List I)→Option (List I)
 |some fs=>if lo+k≤fs.length∧z=sz then some ((fs.drop lo).take k) else none
 |none=>none
theorem sK(A:ab)(sz n z lo k:Nat)(p:List Nat):jK A sz (.view n p z lo k)=v7 sz z lo k (en (dE p (A.o n))):=by
 show cO A sz (.view n p z lo k)=_
 simp only[cO,jr,fk];cases dE p (A.o n) with
 |none=>rfl
 |some c=>cases c <;>rfl
theorem sM(l q:List UInt8){n:Nat}(h:n=l.length):v7 1 1 0 n (some ((l++q).map enc))=some (l.map enc):=by
 subst h;simp only[v7,Z2,List.drop_zero,←List.map_take,List.take_left];rw[if_pos ⟨by simp,trivial⟩]
theorem sL(A:ab)(k n:Nat)(l:List UInt8)(hn:n=l.length)(h:A.o k=some (.box (.agg (l.map enc)))):cO A 1 (.view k [] 1 0 n)=some (l.map enc):=by
 subst hn;have e:=mR (A:=A) (esz:=1) (lo:=0) (k:=l.length) h (by simp);rw[List.drop_zero,List.take_length] at e;exact e
theorem yQ{A:ab}{d:Option Nat}{z esz:Nat}{rest:List ar}{ys:List I} : jQ A d esz (ao rest) (.c0 z) (some ys)=ao rest (A.aM d (.int .i64 0)):=rfl
theorem WU{n:Nat}{p:List Nat}{sz k:Nat} : iv n p sz 0 k k (some (.int .i64 k)) none none=some (.c0 sz):=by
 simp only[iv,gM];rw[if_pos ⟨by omega,by omega,by omega⟩,if_pos (by omega)]
theorem Dj{A:ab}{n k i:Nat}{xs:List UInt8}(hk:k=xs.length)(hi:i<k)(h:A.o n=some (.box (.agg (xs.map enc)))):ji A 1 (some (.int .i64 i)) none none (.view n [] 1 0 k)=some (.view n [] 1 i (k-i)):=by
 subst hk;rw[vX,h]
 show lg n [] 1 0 xs.length 1 _ none none (some (xs.map enc))=_
 rw[vY,Z2,lP (by omega) (by omega) hi]
theorem Dk{A:ab}{n k:Nat}{xs:List UInt8}(hk:k=xs.length)(h:A.o n=some (.box (.agg (xs.map enc)))):ji A 1 (some (.int .i64 k)) none none (.view n [] 1 0 k)=some (.c0 1):=by
 subst hk;rw[vX,h]
 show lg n [] 1 0 xs.length 1 _ none none (some (xs.map enc))=_
 rw[vY,Z2,WU]
theorem qQ{A:ab}{d:Option Nat}{n k m:Nat}{rest:List ar}{a:List UInt8}(hk:k=a.length+m)(h:A.o n=some (.box (.agg ((List.replicate k (0:UInt8)).map enc)))) :
  jQ A d 1 (ao rest) (.view n [] 1 0 k) (some (a.map enc))=ao rest ((A.aP n (.box (.agg ((a++List.replicate m (0:UInt8)).map enc)))).aM d (.int .i64 (a.length:Nat))):=by
 subst hk;rw[nr (c:=a.length) h (by simp) (by omega)];simp
theorem yP{A:ab}{d:Option Nat}{n i m:Nat}{rest:List ar}{a b:List UInt8}(hi:i=a.length)(hm:m=b.length)(h:A.o n=some (.box (.agg ((a++List.replicate m (0:UInt8)).map enc)))) :
  jQ A d 1 (ao rest) (.view n [] 1 i m) (some (b.map enc))=ao rest ((A.aP n (.box (.agg ((a++b).map enc)))).aM d (.int .i64 (b.length:Nat))):=by
 subst hi hm;rw[nr (c:=b.length) h (by simp) (by omega)];simp
theorem wR(r:dh)(hr:r.small)(p:List Int)(i:Nat)(hi:i≤900)(hp:p.length≤1000000000000)(hpi:∀ x∈p,-9223372036854775808≤x∧x≤9223372036854775807):aQ Tryz.prog 75 [enc r,enc p,.int .i64 (i:Int)] (enc (lj r p i)):=by
 obtain ⟨n1,hn1⟩:∃ n1:Nat,gb p i ((r.eh.length+1:Nat):Int)=(n1:Int):=Y1 (tv (by have:=hr.2;omega) hpi).1;have hn1l:n1≤r.eh.length:=by have:=(tv (p:=p) (i:=i) (n:=r.eh.length+1) (by have:=hr.2;omega) hpi).2;omega
 have hd:=hr.1;have hu:=hr.2;have e1:sV r.eh p i=r.eh.take n1:=by rw[sV,hn1];rfl
 have hnl:(r.eh.take n1).length=n1:=by rw[Z9];omega
 rw[lj,wv,e1];refine aQ.bM Tryz.func75 GU H2 Jj (t8 rfl) (fun hwf W0 bF E1 =>?_);simp only[c75,Cj,bB,Z8,Nat.reduceAdd];clear hwf;have f1:=s7 p i ((r.eh.length+1:Nat):Int) (by omega) (by omega) (by omega);have f2:=s7 p (i+1) 2 (by omega) (by omega) (by omega);have hss:=oi (aj.of r.eh) (j:=n1) (by rw[aj.c6];exact hn1l);rw[aj.c6] at hss;have hs2:=vP (r.eh.take n1);have hl:=fun t=>kX t;have hw1:IntKind.i64.wrap (((r.eh.length:Nat):Int)+1)=((r.eh.length+1:Nat):Int):=by rw[dB _ (by omega) (by omega)];omega
 have hw2:IntKind.i64.wrap ((i:Int)+1)=((i+1:Nat):Int):=by rw[dB _ (by omega) (by omega)];omega
 have hw3:IntKind.i64.wrap ((i:Int)+2)=((i+2:Nat):Int):=by rw[dB _ (by omega) (by omega)];omega
 rw[hn1] at f1
 replace f2:aQ Tryz.prog 121 [enc p,.int .i64 ((i+1:Nat):Int),.int .i64 2] (.int .i64 (gb p (i+1) 2)):=f2
 replace f1:aQ Tryz.prog 121 [enc p,.int .i64 (i:Int),.int .i64 ((r.eh.length+1:Nat):Int)] (.int .i64 (n1:Int)):=f1
 obtain ⟨l2,hl2⟩:∃ l2,qb (r.eh.take n1) p i=l2:=⟨_,rfl⟩
 have hl2n:l2.length=n1:=by rw[←hl2,Dq,hnl]
 rw[hl2];rw[qb] at hl2;generalize r.eh.take n1=w at *;have hpi':=hpi;clear e1;have hiv:=trivial;have hat:=trivial;have hst:=trivial;have f3:=f2;rcases Nat.eq_zero_or_pos n1 with h0 | h0
 ·have hw0:l2=w:=by
   rw[if_neg] at hl2
   ·exact hl2.symm
   ·intro h;omega
  subst hw0;have hg:decide ((n1:Int)>0)=false:=decide_eq_false (by omega);cases hb:gb p (i+1) 2==1
  ·generalize gb p (i+1) 2=a2 at *;have hw4:IntKind.i64.wrap ((r.bJ.length:Int)+(n1:Int))=((r.bJ.length+n1:Nat):Int):=by rw[dB _ (by omega) (by omega)];omega
   have hmk:=fun (A:ab) (rest:List ar)=>r0 (A:=A) (d:=44) (bytes:=1) (z:=.int .u8 0) (rest:=rest) (n:=r.bJ.length+n1) (by omega) (by unfold maxLen;omega);have hcp:=fun (A:ab) (rest:List ar)=>qQ (A:=A) (d:=some 48) (n:=44) (k:=r.bJ.length+n1) (m:=n1) (rest:=rest) (a:=r.bJ) rfl;have hcv:=fun (q:List UInt8)=>sM l2 q (n:=n1) hl2n.symm;have hsb:=fun (A:ab)=>sL A 44 (r.bJ.length+n1) (r.bJ++l2) (by simp[hl2n]);have hbs:=qH (r.bJ++l2);have hce:=fun (A:ab)=>sJ A r.bJ;have hl0:l2=[]:=X8 (by omega);have hsl:=fun (A:ab)=>Dk (A:=A) (n:=44) (k:=r.bJ.length+n1) (xs:=r.bJ++List.replicate n1 0) (by simp);have hn:((r.bJ.length+n1:Nat):Int)=(r.bJ.length:Int):=by omega
   have hrp:r.bJ++List.replicate n1 (0:UInt8)=r.bJ++l2:=by rw[hl0,h0];rfl
   rw[hn,hrp] at hsl;rw[hrp] at hcp;have R:=y6 @hg (y6 @pz (y6 @sK (y6 @lG (y6 @sB (y6 @hw1 (y6 @hw2 (y6 @hw3 (y6 @hw4 (y6 @hb (y6 @hnl (y6 @hmk (y6 @hcp (y6 @hcv (y6 @hsb (y6 @hbs (y6 @hce (y6 @hsl (y6 @yQ (y6 @js (y6 @fZ (y6 @kz (y6 @hl (y6 @hss (y6 @hs2 (y6 @bg (y6 @rS aD))))))))))))))))))))))))))
   repeat' ((first |(with_reducible refine .guard (fun hb =>?_) (fun hb =>?_) <;>try simp only[hb])|(refine U.lN (gs:=kL) [] [] [0,1,2,3,4,5,6,7,8,9,10,11] (by decide +kernel) (dD.of (by simp[jw])) fun K hK =>?_;simp only[j7,kL,List.getD_cons_zero,List.getD_cons_succ,R,simprocAttr])|refine bH.eC rfl fun m =>?_|refine U.aG (by decide +kernel) rfl fun K hK =>?_|refine .flat _ (f1) rfl ?_|refine .flat _ (f2) rfl ?_|(refine .aE [0,1,2,3,6,7,8,29] hK ?_;clear hK K)|(with_reducible refine .done (hK _ ?_);clear hK K)|refine U.of rfl ?_|(with_reducible refine aw.aF (fun h =>?_) (fun h =>?_) <;>try simp only[h])) <;>try simp only[aH,R,X7,simprocAttr])
   all_goals clear R
   all_goals rfl
  ·generalize gb p (i+1) 2=a2 at *;have hw4:IntKind.i64.wrap ((r.bJ.length:Int)+(n1:Int))=((r.bJ.length+n1:Nat):Int):=by rw[dB _ (by omega) (by omega)];omega
   have hmk:=fun (A:ab) (rest:List ar)=>r0 (A:=A) (d:=44) (bytes:=1) (z:=.int .u8 0) (rest:=rest) (n:=r.bJ.length+n1) (by omega) (by unfold maxLen;omega);have hcp:=fun (A:ab) (rest:List ar)=>qQ (A:=A) (d:=some 48) (n:=44) (k:=r.bJ.length+n1) (m:=n1) (rest:=rest) (a:=r.bJ) rfl;have hcv:=fun (q:List UInt8)=>sM l2 q (n:=n1) hl2n.symm;have hsb:=fun (A:ab)=>sL A 44 (r.bJ.length+n1) (r.bJ++l2) (by simp[hl2n]);have hbs:=qH (r.bJ++l2);have hce:=fun (A:ab)=>sJ A r.bJ;have hl0:l2=[]:=X8 (by omega);have hsl:=fun (A:ab)=>Dk (A:=A) (n:=44) (k:=r.bJ.length+n1) (xs:=r.bJ++List.replicate n1 0) (by simp);have hn:((r.bJ.length+n1:Nat):Int)=(r.bJ.length:Int):=by omega
   have hrp:r.bJ++List.replicate n1 (0:UInt8)=r.bJ++l2:=by rw[hl0,h0];rfl
   rw[hn,hrp] at hsl;rw[hrp] at hcp;have R:=y6 @hg (y6 @pz (y6 @sK (y6 @lG (y6 @sB (y6 @hw1 (y6 @hw2 (y6 @hw3 (y6 @hw4 (y6 @hb (y6 @hnl (y6 @hmk (y6 @hcp (y6 @hcv (y6 @hsb (y6 @hbs (y6 @hce (y6 @hsl (y6 @yQ (y6 @js (y6 @fZ (y6 @kz (y6 @hl (y6 @hss (y6 @hs2 (y6 @bg (y6 @rS aD))))))))))))))))))))))))))
   repeat' ((first |(with_reducible refine .guard (fun hb =>?_) (fun hb =>?_) <;>try simp only[hb])|(refine U.lN (gs:=kL) [] [] [0,1,2,3,4,5,6,7,8,9,10,11] (by decide +kernel) (dD.of (by simp[jw])) fun K hK =>?_;simp only[j7,kL,List.getD_cons_zero,List.getD_cons_succ,R,simprocAttr])|refine bH.eC rfl fun m =>?_|refine U.aG (by decide +kernel) rfl fun K hK =>?_|refine .flat _ (f1) rfl ?_|refine .flat _ (f2) rfl ?_|(refine .aE [0,1,2,3,6,7,8,29] hK ?_;clear hK K)|(with_reducible refine .done (hK _ ?_);clear hK K)|refine U.of rfl ?_|(with_reducible refine aw.aF (fun h =>?_) (fun h =>?_) <;>try simp only[h])) <;>try simp only[aH,R,X7,simprocAttr])
   all_goals clear R
   all_goals rfl
 ·have hg:decide ((n1:Int)>0)=true:=decide_eq_true (by omega);cases hb:gb p (i+1) 2==1
  ·have hw0:l2=w:=by
    rw[if_neg] at hl2
    ·exact hl2.symm
    ·intro h;rw[h.1] at hb;cases hb
   subst hw0;generalize gb p (i+1) 2=a2 at *;have hw4:IntKind.i64.wrap ((r.bJ.length:Int)+(n1:Int))=((r.bJ.length+n1:Nat):Int):=by rw[dB _ (by omega) (by omega)];omega
   have hmk:=fun (A:ab) (rest:List ar)=>r0 (A:=A) (d:=44) (bytes:=1) (z:=.int .u8 0) (rest:=rest) (n:=r.bJ.length+n1) (by omega) (by unfold maxLen;omega);have hcp:=fun (A:ab) (rest:List ar)=>qQ (A:=A) (d:=some 48) (n:=44) (k:=r.bJ.length+n1) (m:=n1) (rest:=rest) (a:=r.bJ) rfl;have hcv:=fun (q:List UInt8)=>sM l2 q (n:=n1) hl2n.symm;have hsb:=fun (A:ab)=>sL A 44 (r.bJ.length+n1) (r.bJ++l2) (by simp[hl2n]);have hbs:=qH (r.bJ++l2);have hce:=fun (A:ab)=>sJ A r.bJ;have hsl:=fun (A:ab)=>Dj (A:=A) (n:=44) (k:=r.bJ.length+n1) (i:=r.bJ.length) (xs:=r.bJ++List.replicate n1 0) (by simp) (by omega);rw[Nat.add_sub_cancel_left] at hsl;have hcb:=fun (A:ab) (rest:List ar)=>yP (A:=A) (d:=some 55) (n:=44) (i:=r.bJ.length) (m:=n1) (rest:=rest) (a:=r.bJ) (b:=l2) rfl hl2n.symm;have R:=y6 @hg (y6 @hiv (y6 @hat (y6 @hst (y6 @uP (y6 @pz (y6 @sK (y6 @lG (y6 @sB (y6 @hw1 (y6 @hw2 (y6 @hw3 (y6 @hw4 (y6 @hb (y6 @hnl (y6 @hmk (y6 @hcp (y6 @hcv (y6 @hsb (y6 @hbs (y6 @hce (y6 @hsl (y6 @hcb (y6 @js (y6 @fZ (y6 @kz (y6 @hl (y6 @hss (y6 @hs2 (y6 @bg (y6 @rS aD))))))))))))))))))))))))))))))
   repeat' ((first |(with_reducible refine .guard (fun hb =>?_) (fun hb =>?_) <;>try simp only[hb])|(refine U.lN (gs:=kL) [] [] [0,1,2,3,4,5,6,7,8,9,10,11] (by decide +kernel) (dD.of (by simp[jw])) fun K hK =>?_;simp only[j7,kL,List.getD_cons_zero,List.getD_cons_succ,R,simprocAttr])|refine bH.eC rfl fun m =>?_|refine U.aG (by decide +kernel) rfl fun K hK =>?_|refine .flat _ (f1) rfl ?_|refine .flat _ (f2) rfl ?_|refine .flat _ (f3) rfl ?_|(refine .aE [0,1,2,3,6,7,8,29] hK ?_;clear hK K)|(with_reducible refine .done (hK _ ?_);clear hK K)|refine U.of rfl ?_|(with_reducible refine aw.aF (fun h =>?_) (fun h =>?_) <;>try simp only[h])) <;>try simp only[aH,R,X7,simprocAttr])
   all_goals clear R
   all_goals rfl
  ·obtain ⟨j,hj,hjn⟩:∃ j:Nat,gb p (i+2) (n1:Int)=(j:Int)∧j<n1:=by
    have:=tv (p:=p) (i:=i+2) (n:=n1) (by omega) hpi';obtain ⟨j,hj⟩:=Y1 this.1;exact ⟨j,hj,by omega⟩
   have hw0:w.set j 63=l2:=by
    rw[if_pos ⟨by simpa using hb,by omega⟩,hnl,hj] at hl2;exact hl2
   clear f3 hiv hat hst;have f3:=s7 p (i+2) (n1:Int) (by omega) (by omega) (by omega);rw[hj] at f3
   replace f3:aQ Tryz.prog 121 [enc p,.int .i64 ((i+2:Nat):Int),.int .i64 (n1:Int)] (.int .i64 (j:Int)):=f3
   have hiv:=fun (fs:List I)=>TF (m:=19) (sz:=1) (lo:=0) (l:=n1) (i:=j) (fs:=fs) hjn;rw[Z8] at hiv;have hat:∀ q:List UInt8,kr j [] (some ((w++q).map enc))=some (enc w[j]):=fun q=>by
    have h2:((w++q).map (enc (α:=UInt8)))[j]?=some (enc w[j]):=by
     rw[X5,X9 (by omega),Y8 (by omega)];rfl
    simp only[kr,h2,ni,qG]
   have hst:∀ (A:ab) (q:List UInt8) (u:UInt8) (rest:List ar),er A none 19 [j] (.agg ((w++q).map enc)) (.int .u8 63) rest (some (enc u))=ao rest (A.aP 19 (.box (.agg ((l2++q).map enc)))):=fun A q u rest=>by
    have:=WY (A:=A) (n:=19) (i:=j) (xs:=w++q) 63 u (rest:=rest) rfl (by simp;omega);rw[List.set_append_left _ _ (by omega),hw0] at this;exact this
   generalize gb p (i+1) 2=a2 at *;have hw4:IntKind.i64.wrap ((r.bJ.length:Int)+(n1:Int))=((r.bJ.length+n1:Nat):Int):=by rw[dB _ (by omega) (by omega)];omega
   have hmk:=fun (A:ab) (rest:List ar)=>r0 (A:=A) (d:=44) (bytes:=1) (z:=.int .u8 0) (rest:=rest) (n:=r.bJ.length+n1) (by omega) (by unfold maxLen;omega);have hcp:=fun (A:ab) (rest:List ar)=>qQ (A:=A) (d:=some 48) (n:=44) (k:=r.bJ.length+n1) (m:=n1) (rest:=rest) (a:=r.bJ) rfl;have hcv:=fun (q:List UInt8)=>sM l2 q (n:=n1) hl2n.symm;have hsb:=fun (A:ab)=>sL A 44 (r.bJ.length+n1) (r.bJ++l2) (by simp[hl2n]);have hbs:=qH (r.bJ++l2);have hce:=fun (A:ab)=>sJ A r.bJ;have hsl:=fun (A:ab)=>Dj (A:=A) (n:=44) (k:=r.bJ.length+n1) (i:=r.bJ.length) (xs:=r.bJ++List.replicate n1 0) (by simp) (by omega);rw[Nat.add_sub_cancel_left] at hsl;have hcb:=fun (A:ab) (rest:List ar)=>yP (A:=A) (d:=some 55) (n:=44) (i:=r.bJ.length) (m:=n1) (rest:=rest) (a:=r.bJ) (b:=l2) rfl hl2n.symm;have R:=y6 @hg (y6 @hiv (y6 @hat (y6 @hst (y6 @uP (y6 @pz (y6 @sK (y6 @lG (y6 @sB (y6 @hw1 (y6 @hw2 (y6 @hw3 (y6 @hw4 (y6 @hb (y6 @hnl (y6 @hmk (y6 @hcp (y6 @hcv (y6 @hsb (y6 @hbs (y6 @hce (y6 @hsl (y6 @hcb (y6 @js (y6 @fZ (y6 @kz (y6 @hl (y6 @hss (y6 @hs2 (y6 @bg (y6 @rS aD))))))))))))))))))))))))))))))
   repeat' ((first |(with_reducible refine .guard (fun hb =>?_) (fun hb =>?_) <;>try simp only[hb])|(refine U.lN (gs:=kL) [] [] [0,1,2,3,4,5,6,7,8,9,10,11] (by decide +kernel) (dD.of (by simp[jw])) fun K hK =>?_;simp only[j7,kL,List.getD_cons_zero,List.getD_cons_succ,R,simprocAttr])|refine bH.eC rfl fun m =>?_|refine U.aG (by decide +kernel) rfl fun K hK =>?_|refine .flat _ (f1) rfl ?_|refine .flat _ (f2) rfl ?_|refine .flat _ (f3) rfl ?_|(refine .aE [0,1,2,3,6,7,8,29] hK ?_;clear hK K)|(with_reducible refine .done (hK _ ?_);clear hK K)|refine U.of rfl ?_|(with_reducible refine aw.aF (fun h =>?_) (fun h =>?_) <;>try simp only[h])) <;>try simp only[aH,R,X7,simprocAttr])
   all_goals clear R
   all_goals rfl
def kh(r:db)(p:List Int):db:=⟨lj r.dn p 0,lj r.copy p 3⟩
theorem ta(r:db)(h:r.small)(p:List Int)(hp:p.length≤1000000000000)(hpi:∀ x∈p,-9223372036854775808≤x∧x≤9223372036854775807):aQ Tryz.prog 22 [enc r,enc p] (enc (kh r p)):=by
 refine aQ.bM Tryz.func22 GC HM I3 (t8 rfl) (fun hwf W0 bF E1 =>?_);simp only[xS,B5,bB,Z8];clear hwf;have f1:=wR r.dn h.1 p 0 (by omega) hp hpi;have f2:=wR r.copy h.2 p 3 (by omega) hp hpi
 replace f1:aQ Tryz.prog 75 [enc r.dn,enc p,.int .i64 0] (enc (lj r.dn p 0)):=f1
 replace f2:aQ Tryz.prog 75 [enc r.copy,enc p,.int .i64 3] (enc (lj r.copy p 3)):=f2
 simp only[kh];generalize lj r.dn p 0=a at *;generalize lj r.copy p 3=b at *;have R:=y6 @kz (y6 @js (y6 @l9 (y6 @zc (y6 @fZ aD))))
 repeat' ((first |refine U.aG (by decide +kernel) rfl fun K hK =>?_|refine .flat _ (f1) rfl ?_|refine .flat _ (f2) rfl ?_|(refine .aE [0,1,2,4] hK ?_;clear hK K)|(with_reducible refine .done (hK _ ?_);clear hK K)|refine U.of rfl ?_|(with_reducible refine aw.aF (fun h =>?_) (fun h =>?_) <;>try simp only[h])) <;>try simp only[aH,R,simprocAttr])
 all_goals clear R
 all_goals rfl
def il:ai:=⟨2,0,5,10,12,0,0,[97]⟩
def iB:List UInt8:=[51,55,52,56,51,55,32,50,32,48,32,53,32,49,48,32,49,50,32,48,32,48,32,97,10]
def cN:db:=⟨⟨[],iB⟩,⟨[],[]⟩⟩
theorem KL:jZ 1 il=(iB,374837,0):=by decide +kernel
theorem KO:fF 1 iB=(il,374837,0):=by decide +kernel
theorem KQ:qn jg [] [] il=(cN,[il],0):=by decide +kernel
theorem KM:(j5 (kh cN [])).2=[]:=by decide +kernel
theorem KN:(j5 (kh cN [25,0,0])).2=[il]:=by decide +kernel
theorem KP:(j5 (kh cN [25,1,3])).2=[]:=by decide +kernel
theorem KK:j5 (oP (oj cN) false)=(⟨⟨iB,[]⟩,⟨iB,[]⟩⟩,[il]):=by decide +kernel
theorem lY:iB.length=25:=rfl
theorem ET:iB.drop 7=[50,32,48,32,53,32,49,48,32,49,50,32,48,32,48,32,97,10]:=rfl
theorem KC:I.agg [.agg [.int .i64 2,.int .i64 0],.int .i64 5,.int .i64 10,.int .i64 12,.agg [.int .i64 0,.int .i64 0],.ak ⟨#[97]⟩]=enc il:=rfl
theorem wo(p:List Int):(kh cN p).small:=by
 refine ⟨⟨?_,?_⟩,⟨?_,?_⟩⟩ <;>simp[kh,lj,wv,Dq,sV,cN,lY] <;>omega
theorem Ei:aQ Tryz.prog 14 [] (enc true):=by
 refine aQ.bM Tryz.func14 Gm Hx IN (t8 rfl) (fun hwf W0 bF E1 =>?_);simp only[xG,BP,bB];clear hwf;have f29:=Ev 1 il;rw[KL] at f29;have f31:=Ey 1 iB (by rw[lY];omega);rw[KO] at f31;have f35:=EA jg ⟨⟨by decide,by decide⟩,⟨by decide,by decide⟩⟩ [] [] (by decide) (by decide) (fun _=>EL) il;rw[KQ] at f35;have h0:cN.small:=by refine ⟨⟨?_,?_⟩,⟨?_,?_⟩⟩ <;>simp[cN,lY]
 have t1:=ta cN h0 [] (by simp) (by simp);have t2:=ta cN h0 [25,0,0] (by simp) (by simp);have t3:=ta cN h0 [25,1,3] (by simp) (by simp);have o1:=qt _ (wo []);have o2:=qt _ (wo [25,0,0]);have o3:=qt _ (wo [25,1,3]);have f20:=Et cN h0;have f24:=Eu (oj cN) false;have o4:=qt (oP (oj cN) false) (by refine ⟨⟨?_,?_⟩,⟨?_,?_⟩⟩ <;>simp[oj,oP,cN,dh.all,lY]);rw[KM] at o1;rw[KN] at o2;rw[KP] at o3;rw[KK] at o4;generalize kh cN []=T1 at *;generalize kh cN [25,0,0]=T2 at *;generalize kh cN [25,1,3]=T3 at *;generalize oj cN=T4 at *;generalize oP T4 false=T5 at *;generalize (j5 T1).1=U1 at *;generalize (j5 T2).1=U2 at *;generalize (j5 T3).1=U3 at *
 dsimp only at f29 f31 f35 o4
 have hl:lD (enc (aj.of iB))=some (.int .i64 25):=by rw[kX,lY];rfl
 have hww:cN.dn.eh=iB:=rfl;have hl2:(((aj.of iB).l.length:Nat):Int)=25:=by rw[aj.c6,lY];rfl
 have hd1:decide (cN.copy=(⟨[],[]⟩:dh))=true:=rfl;have hw7:IntKind.i64.wrap 7=7:=by decide
 have hl1:(((([il]:List ai).length:Nat):Int)==1)=true:=rfl;have hn0:(((([]:List ai).length:Nat):Int)==0)=true:=rfl;have hse:bE .eql (enc (aj.of [50,32,48,32,53,32,49,48,32,49,50,32,48,32,48,32,97,10])) (.ak ⟨#[50,32,48,32,53,32,49,48,32,49,50,32,48,32,48,32,97,10]⟩)=some (.bool true):=by
  show bE .eql (enc (aj.of _)) (enc (aj.of [50,32,48,32,53,32,49,48,32,49,50,32,48,32,48,32,97,10]))=_
  rw[kd];simp
 have hp1:fy [.int .i64 0,.int .i64 0] [(0,.int .i64 2)]=some [.int .i64 2,.int .i64 0]:=rfl;have hp2:fy [.agg [.int .i64 0,.int .i64 0],.int .i64 0,.int .i64 0,.int .i64 0,.agg [.int .i64 0,.int .i64 0],.ak ⟨#[]⟩] [(0,.agg [.int .i64 2,.int .i64 0]),(1,.int .i64 5),(2,.int .i64 10),(3,.int .i64 12),(5,.ak ⟨#[97]⟩)]=some [.agg [.int .i64 2,.int .i64 0],.int .i64 5,.int .i64 10,.int .i64 12,.agg [.int .i64 0,.int .i64 0],.ak ⟨#[97]⟩]:=rfl;have hb2:gw 1 (some [.int .i64 25,.int .i64 0,.int .i64 0])=some (enc ([25,0,0]:List Int)):=rfl;have hb3:gw 1 (some [.int .i64 25,.int .i64 1,.int .i64 3])=some (enc ([25,1,3]:List Int)):=rfl;have hs:=vQ (aj.of iB) (i:=7) (by rw[aj.c6,lY];omega);rw[aj.c6,ET] at hs
 replace hs:dU (.ss true false) [enc (aj.of iB),.int .i64 7]=some (enc (aj.of [50,32,48,32,53,32,49,48,32,49,50,32,48,32,48,32,97,10])):=hs
 have R:=y6 @hw7 (y6 @hl1 (y6 @hn0 (y6 @hse (y6 @hww (y6 @hl2 (y6 @hd1 (y6 @hl (y6 @hb2 (y6 @hb3 (y6 @hs (y6 @hp1 (y6 @hp2 (y6 @kd (y6 @KC (y6 @ec (y6 @dI (y6 @zc (y6 @js (y6 @l9 (y6 @fZ (y6 @kz (y6 @bg aD))))))))))))))))))))))
 repeat' ((first |(with_reducible refine .guard (fun hb =>?_) (fun hb =>?_) <;>try simp only[hb])|refine U.aG (by decide +kernel) rfl fun K hK =>?_|refine .flat _ (f29) rfl ?_|refine .flat _ (f31) rfl ?_|refine .flat _ (f35) rfl ?_|refine .flat _ (t1) rfl ?_|refine .flat _ (o1) rfl ?_|refine .flat _ (t2) rfl ?_|refine .flat _ (o2) rfl ?_|refine .flat _ (t3) rfl ?_|refine .flat _ (o3) rfl ?_|refine .flat _ (f20) rfl ?_|refine .flat _ (f24) rfl ?_|refine .flat _ (o4) rfl ?_|refine .lead _ (f35) ?_|refine .lead _ (o1) ?_|refine .lead _ (o2) ?_|refine .lead _ (o3) ?_|refine .lead _ (o4) ?_|(refine .aE [0,1,2,3,4,5,6,7,8,9,10,12,14,16,17,18,19,20] hK ?_;clear hK K)|(with_reducible refine .done (hK _ ?_);clear hK K)|refine U.of rfl ?_|(with_reducible refine aw.aF (fun h =>?_) (fun h =>?_) <;>try simp only[h])) <;>try simp only[aH,R,eq_self,decide_true,simprocAttr])
 all_goals clear R
 all_goals rfl
theorem Dc(b6:Int→List UInt8→Option (ai×Int)):∀ (au:List (List UInt8)) (out:List ai) (s:Int) (z:Nat),out.length≤60→(fX b6 dc out s z au).1.length≤60
 | [],out,s,z,h=>by rw[fX];exact h
 |x::au,out,s,z,h=>by
  rw[fX];cases b6 s x with
  |none=>exact h
  |some q =>
   simp only;split
   ·rename_i hn;refine Dc b6 au _ _ _ ?_;simp only[dc,Z0,decide_eq_true_eq] at hn;rw[Z1];simp only[Y4,X2];omega
   ·exact h
theorem WL(t:List UInt8):(gJ bf dc t).1.length≤60:=Dc _ _ _ _ _ (by simp)
theorem Ew(t:List UInt8)(ht:t.length≤281474976710656):aQ Tryz.prog 3 [enc (aj.of t)] (enc true):=by
 refine aQ.bM Tryz.func3 GH HQ I7 (t8 rfl) (fun hwf W0 bF E1 =>?_);simp only[c3,mA,bB];clear hwf;have f15:=s8 t ht;have f16:=En t ht;have hl:=vS t;have hs:=WL t;generalize gJ bf dc t=p at *;have f17:=Ep p.1 p.1 (by omega);rw[decide_eq_true rfl] at f17;have he:=kd p.2 p.2;rw[decide_eq_true rfl] at he;have R:=y6 @he aD
 repeat' ((first |(with_reducible refine .guard (fun hb =>?_) (fun hb =>?_) <;>try simp only[hb])|refine U.aG (by decide +kernel) rfl fun K hK =>?_|refine .flat _ (Ei) rfl ?_|refine .lead _ (f15) ?_|refine .lead _ (f16) ?_|refine .flat _ (f17) rfl ?_|(refine .aE [0,2,3,4,5,6,7,8] hK ?_;clear hK K)|(with_reducible refine .done (hK _ ?_);clear hK K)|refine U.of rfl ?_|(with_reducible refine aw.aF (fun h =>?_) (fun h =>?_) <;>try simp only[h])) <;>try simp only[aH,R,simprocAttr])
 all_goals clear R
 all_goals rfl
end Go.Proofs.YtoffnnjbplgnaaaGreatDoor
