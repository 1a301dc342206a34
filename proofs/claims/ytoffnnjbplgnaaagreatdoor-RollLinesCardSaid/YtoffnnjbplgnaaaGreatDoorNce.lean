/-
  A part of the proof that the law RollLines returns true for every input; five variables of Go's library start as the text lays them (the card ties them); conditions: none beyond the statement's own. (part 5 of 6)
-/
import Derived.ChangeArms
import Derived.Test.YtoffnnjbplgnaaaGreatDoorRows
import Derived.Test.YtoffnnjbplgnaaaGreatDoorCards
import Derived.Test.YtoffnnjbplgnaaaGreatDoorTie
import Derived.LaidMore
import Derived.MakeChecks
import Derived.Lib.LaidTab
import Derived.Lib.LaidU8
import Derived.HandedShaped
import Derived.Shelf.Vars
import Derived.Shelf.SlSortCmp.WholeK
import Derived.Shelf.SlSortCmp.NoneTotal
import Derived.Shelf.Small.Wraps
import Derived.WalkKit
import Derived.Lib.RowBridge
import Derived.Lib.SortBridge
import Derived.Test.YtoffnnjbplgnaaaGreatDoorNcd
set_option linter.unusedSimpArgs false
set_option linter.unusedVariables false
set_option maxHeartbeats 16000000
set_option maxRecDepth 100000
namespace Go.Proofs.YtoffnnjbplgnaaaGreatDoor
open Go Go.Abs
open Go.Abs.Enc (enc)
theorem Wv{out:List ai}{s:Int}{z:Nat}{x:List UInt8}{au:List (List UInt8)}(h:dF bg s x=none):iI (dF bg) dY out s z (x::au)=(out,z):=by rw[iI,h]
theorem Ww{out:List ai}{s:Int}{z:Nat}{x:List UInt8}{au:List (List UInt8)}{q:ai×Int}(h:dF bg s x=some q):iI (dF bg) dY out s z (x::au)=if dY out q.1=true then iI (dF bg) dY (out++[q.1]) q.2 (z+x.length) au else (out,z):=by rw[iI,h]
structure oC (t:List UInt8) (k:Nat) (out:List ai) (s:Int) (z:Nat):Prop where
 eq:iI (dF bg) dY [] 1 0 (dB t)=iI (dF bg) dY out s z ((dB t).drop k)
 sum:0≤s∧s<1000003
 ok:∀ r∈out,bg r=true
 len:out.length≤60
 size:z+(ff k t).length=t.length
structure qu (t:List UInt8) (out:List ai) (z:Nat):Prop where
 eq:iI (dF bg) dY [] 1 0 (dB t)=(out,z)
 len:out.length≤60
 size:z≤t.length
theorem V8{t:List UInt8}{k:Nat}(hk:k<(dB t).length):∃ w v,cE 10 (ff k t)=some (w,v)∧(dB t)[k]=w++[10]∧ff (k+1) t=v∧ff k t=w++10::v:=by
 have hrd:=vQ (Nat.le_of_lt hk);cases h:cE 10 (ff k t) with
 |none=>rw[u9 h] at hrd;have:=congrArg List.length hrd;simp at this;omega
 |some p =>
  obtain ⟨w,v⟩:=p;refine ⟨w,v,rfl,?_,vR h,(qU h).1⟩;rw[rV h,List.drop_eq_getElem_cons hk] at hrd;exact (List.cons.inj hrd).1.symm
theorem BM(t:List UInt8):oC t 0 [] 1 0:=⟨rfl,by omega,by simp,by simp,by simp[ff]⟩
theorem VC{t:List UInt8}{out:List ai}{s:Int}{z:Nat}(h:oC t (dB t).length out s z):qu t out z :=
 ⟨by rw[h.eq,List.drop_length,iI],h.len,by have:=h.size;omega⟩
theorem zQ{t:List UInt8}{out:List ai}{z:Nat}(h:qu t out z):jh bg dY t=(out,t.take z):=by rw[jh,h.eq]
theorem Un{out:List ai}{r:ai}(h:dY out r=true):out.length<60:=by
 simp only[dY,Z0,decide_eq_true_eq] at h;exact h.1
theorem wX(t:List UInt8)(ht:t.length≤281474976710656):aR Tryz.prog 15 [enc (ak.of t)] (.tuple [enc (jh bg dY t).1,enc (ak.of (jh bg dY t).2)]):=by
 refine aR.bO Tryz.func15 Gu HB IQ (t8 rfl) (fun hwf W0 bF E1 =>?_);simp only[xV,Ca,bC];clear hwf;have h69:=EJ t;have R:=y6 @qb (y6 @bj aH)
 repeat' ((first |(with_reducible refine .guard (fun hb =>?_) (fun hb =>?_) <;>try simp only[hb])|refine U.aL (by decide +kernel) rfl fun K hK =>?_|(refine .aI [0,2,3,4,5,6,7,8,9,10,12,13,28] hK ?_;clear hK K)|(with_reducible refine .done (hK _ ?_);clear hK K)|refine U.of rfl ?_|(with_reducible refine aB.aJ (fun h =>?_) (fun h =>?_) <;>try simp only[h])) <;>try simp only[aM,R,simprocAttr])
 all_goals clear R
 refine .bx false [] [] [enc (ak.of t)] _ rfl h69 ⟨fun m y hy=>by simp[aE] at hy,fun m m' h=>by simp[aC,aE] at h⟩ ⟨.inl ⟨(iE _ _).symm,bN _ _,eY _⟩,trivial⟩ ?_ ?_
 ·rintro r os' ⟨rfl,rfl⟩;refine ⟨fun m y hy =>?_,fun m m' _ _ h=>h,fun m hm=>by simp[aC,aE] at hm,fun m hm _ =>?_,⟨rfl,fun h=>by cases h⟩⟩
  ·simp only[aE] at hy;split at hy
   ·cases hy;exact ⟨bN _ _,rfl,fun h=>by cases h⟩
   ·cases hy
  ·simp only[aC,aE] at hm;split at hm
   ·rename_i e;subst e;exact ⟨rfl,by decide⟩
   ·simp at hm
 rintro r os' ⟨rfl,rfl⟩
 try simp only[cV,Z3,X0,ah.aQ,iE,bp,I.aQ,I.cR,Y3,X4,aZ,simprocAttr]
 refine .done (hK _ ?_);clear hK K;refine U.sub (bG.Fa 4 80 50 8 8 [] _ rfl rfl rfl (B:=aw [(0,enc (ak.of t)),(4,.ptr 4 []),(5,.ptr 5 []),(6,.ptr 6 []),(12,.func 122 [.ptr 1 []])] [(4,.box (.own 80 0)),(80,.bE 50 8 []),(1,.box (enc (ak.of t))),(5,.box (.int .i64 1)),(6,.box (.int .i64 0))]) ?_) ?_
 ·simp only[fg];refine bG.df ?_ ?_ ?_ ?_ <;>simp[cG,cN,cL,cg,aC,cF,eB,I.only,I.cD,ah.only,bN]
 refine U.block (U.Wh (osb0:=dn t [] 1 0) (tsR:=[(4,.ptr 1000004 []),(5,.ptr 1000005 []),(6,.ptr 1000006 [])]) (ρ:=[(1999999,999999),(1000001,1),(1000004,4),(1000080,80),(1000005,5),(1000006,6)]) (g:=122) (caps0:=[.ptr 1 []]) (caps:=[.ptr 1000001 []]) (N:=(dB t).length) (item:=nJ t)
  (rH t (oC t)) (rI t (oC t)) (pk (qu t)) ⟨rfl,rfl⟩ (t8 rfl) (by simp only[aZ,simprocAttr]) (by simp[I.aQ,bp]) ?_ yK (TU ht (BM t)) (fun _=>rfl) rfl rfl rfl (fun o=>⟨?_,?_⟩) ?_ ?_ ?_ ?_ ?_ ?_ ?_)
 ·intro x hx;simp only[List.mem_singleton] at hx;subst hx;exact ⟨rfl,rfl⟩
 ·intro n x hx;simp only[bK,dn,aE] at hx
  repeat' split at hx
  all_goals first | (cases hx;done) | (subst_vars;simp only[v6] at hx;subst hx;simp[bK,dn,aC,bp,aE,ah.aQ,I.aQ,I.cR,iE,ah.only,I.only,I.cD,bN,ah.ed])
 ·intro a b ha hb;simp only[bK,dn,aC,aE] at ha hb
  repeat' split at ha
  all_goals first | (simp at ha;done) | skip
  all_goals (repeat' split at hb)
  all_goals first | (simp at hb;done) | (subst_vars;simp[bp])
 ·simp[lS,cF,I.aQ,bp,I.only,dn,aC,aE]
 ·rintro k os ⟨out,s,z,rfl,_⟩;exact mR ..
 ·rintro e os ⟨_,u,out,s,z,rfl,_⟩;exact mR ..
 ·exact ⟨[],1,0,rfl,BM t⟩
 ·rintro k osb hk ⟨out,s,z,rfl,hP⟩ W1 D1 E1 Xj o1 o2;obtain ⟨w,v,hcut,hL,hnext,hrest⟩:=V8 hk;have jw:nJ t k=[enc (ak.of (w++[10]))]:=by
   rw[nJ,Y8,Y6 hk,Option.getD_some,hL]
  have hdrop:(dB t).drop k=(w++[10])::(dB t).drop (k+1):=by rw[List.drop_eq_getElem_cons hk,hL]
  have hsz:=hP.size;rw[hrest] at hsz;have hll:(w++[10]).length+v.length=(w++10::v).length:=by simp;omega
  generalize hx:w++[10]=gh at jw hdrop hll;have hlen:z+gh.length+v.length=t.length:=by omega
  have h70:=w7 hP.sum (t:=gh) (by omega);have hlt:=lQ gh;have hwz:IntKind.i64.wrap ((z:Int)+(gh.length:Int))=((z+gh.length:Nat):Int):=by rw[dH _ (by omega) (by omega)];rfl
  have hfo:kJ out.length (some (.bE 50 8 (out.map enc)))=some (enc out):=rh 8 rfl rfl;have hpe:=hP.eq;rw[hdrop] at hpe;generalize hu:ff k t=u at *;rw[jw];simp only[sx,bK,dn];have R:=y6 @bj aH
  repeat' ((first |(with_reducible refine .guard (fun hb =>?_) (fun hb =>?_) <;>try simp only[hb])|refine U.aL (by decide +kernel) rfl fun K hK =>?_|(refine .aI [0,2,3,4,5,6,7,8,9,10,12,13,28] hK ?_;clear hK K)|(with_reducible refine .done (hK _ ?_);clear hK K)|refine U.of rfl ?_|(with_reducible refine aB.aJ (fun h =>?_) (fun h =>?_) <;>try simp only[h])) <;>try simp only[aM,R,simprocAttr])
  all_goals clear R
  refine ⟨by simp[],?_⟩;have stop:iI (dF bg) dY [] 1 0 (dB t)=(out,z)→∀ ts z1 z2 z3,C4 o2 (rI t (oC t) k) (pk (qu t)) (.exit 0)
    (aw ts ([(8,z1),(8,z2),(1999999,.cZ o2),(1999999,z3)]++dn u out s z)):=fun h ts z1 z2 z3=>by
   refine ⟨dn u out s z,?_,rfl,u,out,s,z,rfl,h,hP.len,by omega⟩;intro n x hx;simp only[bK,dn,aE] at hx
   (repeat' split at hx) <;>first
    |(cases hx;done)
    |(subst_vars;simp only[v6] at hx;subst hx;simp[bK,dn,aC,aw,aE,ah.only,I.only,bN,ah.ed,sq])
  cases hq:dF bg s gh with
  |none =>
   rw[gG,hq,kh] at h70;rw[Wv hq] at hpe;have R:=y6 @ec (y6 @dL (y6 @bj aH))
   repeat' ((first |(with_reducible refine .guard (fun hb =>?_) (fun hb =>?_) <;>try simp only[hb])|refine U.aL (by decide +kernel) rfl fun K hK =>?_|refine .lead _ (h70) ?_|(refine .aI [0,2,3,4,5,6,7,8,9,10,12,13,28] hK ?_;clear hK K)|(with_reducible refine .done (hK _ ?_);clear hK K)|refine U.of rfl ?_|(with_reducible refine aB.aJ (fun h =>?_) (fun h =>?_) <;>try simp only[h])) <;>try simp only[aM,R,simprocAttr])
   all_goals clear R
   exact stop hpe _ _ _ _
  |some q =>
   obtain ⟨r,n⟩:=q;obtain ⟨hok,_,hns⟩:=CU bg hq;simp only at hok hns;rw[gG,hq,kh] at h70;rw[Ww hq] at hpe;simp only at hpe;have h71:=w8 out r (by have:=hP.len;omega) (fun q hq=>nV (hP.ok q hq)) (nV hok);cases hn:dY out r
   ·rw[hn] at h71 hpe;rw[if_neg (by decide)] at hpe;have R:=y6 @hfo (y6 @ec (y6 @dL (y6 @bj aH)))
    repeat' ((first |(with_reducible refine .guard (fun hb =>?_) (fun hb =>?_) <;>try simp only[hb])|refine U.aL (by decide +kernel) rfl fun K hK =>?_|refine .lead _ (h70) ?_|refine .flat _ (h71) rfl ?_|(refine .aI [0,2,3,4,5,6,7,8,9,10,12,13,28] hK ?_;clear hK K)|(with_reducible refine .done (hK _ ?_);clear hK K)|refine U.of rfl ?_|(with_reducible refine aB.aJ (fun h =>?_) (fun h =>?_) <;>try simp only[h])) <;>try simp only[aM,R,simprocAttr])
    all_goals clear R
    exact stop hpe _ _ _ _
   ·have hol:=Un hn;rw[hn] at h71 hpe;rw[if_pos rfl] at hpe;have stOwn:∀ (A:ab) n b m k m' k' rest,ep A none n [] b (.own m k) rest (some (.own m' k'))=ao rest (A.aP n (.box (.own m k))) :=
     fun _ _ _ m k m' k' _=>by rw[fh (s:=none) (v:=.own m k) (old:=.own m' k') rfl rfl rfl,fg]
    have hbs:gK 8 (some [enc r])=some (enc [r]):=qL 8 r rfl;have hap:=fun (A:ab) d rest=>Fp (A:=A) (d:=d) 50 8 72 1000080 (l:=out.length) (es:=out) (ys:=[r]) (rest:=rest) rfl rfl (by simp) (by simp[maxLen];omega) (by simp;omega);have R:=y6 @hfo (y6 @hbs (y6 @hap (y6 @stOwn (y6 @hlt (y6 @hwz (y6 @ec (y6 @dL (y6 @qb (y6 @bj aH)))))))))
    repeat' ((first |(with_reducible refine .guard (fun hb =>?_) (fun hb =>?_) <;>try simp only[hb])|refine U.aL (by decide +kernel) rfl fun K hK =>?_|refine .lead _ (h70) ?_|refine .flat _ (h71) rfl ?_|(refine .aI [0,2,3,4,5,6,7,8,9,10,12,13,28] hK ?_;clear hK K)|(with_reducible refine .done (hK _ ?_);clear hK K)|refine U.of rfl ?_|(with_reducible refine aB.aJ (fun h =>?_) (fun h =>?_) <;>try simp only[h])) <;>try simp only[aM,R,simprocAttr])
    all_goals clear R
    refine ⟨dn u (out++[r]) n (z+gh.length),?_,out++[r],n,z+gh.length,by rw[hu],⟨hpe,?_,?_,?_,?_⟩⟩
    ·intro n x hx;simp only[bK,dn,aE] at hx
     (repeat' split at hx) <;>first
      |(cases hx;done)
      |(subst_vars;simp only[v6] at hx;subst hx;simp[bK,dn,aC,aw,aE,ah.only,I.only,bN,ah.ed,sq,-List.map_append])
    ·rw[hns];exact mW hP.sum _
    ·intro q hq;rcases zz2.1 hq with h1 | h1
     ·exact hP.ok q h1
     ·rw[List.mem_singleton.1 h1];exact hok
    ·simp;omega
    ·rw[hnext];exact hlen
 ·rintro os ⟨out,s,z,rfl,hP⟩;have hF:=VC hP;have hfo:kJ out.length (some (.bE 50 8 (out.map enc)))=some (enc out):=rh 8 rfl rfl;have hsh:=p8 (ak.of t) (j:=z) (by rw[ak.dm];exact hF.size);rw[ak.dm] at hsh;rw[zQ hF];simp only[dn,cV,Z3,X0,bp,ah.aQ,I.aQ,iE,mF,cO,kC,reduceIte,Nat.reduceEqDiff,Y3,X4];have R:=y6 @hfo (y6 @hsh (y6 @bj aH))
  repeat' ((first |(with_reducible refine .guard (fun hb =>?_) (fun hb =>?_) <;>try simp only[hb])|refine U.aL (by decide +kernel) rfl fun K hK =>?_|(refine .aI [0,2,3,4,5,6,7,8,9,10,12,13,28] hK ?_;clear hK K)|(with_reducible refine .done (hK _ ?_);clear hK K)|refine U.of rfl ?_|(with_reducible refine aB.aJ (fun h =>?_) (fun h =>?_) <;>try simp only[h])) <;>try simp only[aM,R,simprocAttr])
  all_goals clear R
  all_goals rfl
 ·rintro e os ⟨rfl,u,out,s,z,rfl,hF⟩;have hfo:kJ out.length (some (.bE 50 8 (out.map enc)))=some (enc out):=rh 8 rfl rfl;have hsh:=p8 (ak.of t) (j:=z) (by rw[ak.dm];exact hF.size);rw[ak.dm] at hsh;rw[zQ hF];simp only[dn,cV,Z3,X0,bp,ah.aQ,I.aQ,iE,mF,uu,cO,kC,reduceIte,Nat.reduceEqDiff,Y3,X4];have R:=y6 @hfo (y6 @hsh (y6 @bj aH))
  repeat' ((first |(with_reducible refine .guard (fun hb =>?_) (fun hb =>?_) <;>try simp only[hb])|refine U.aL (by decide +kernel) rfl fun K hK =>?_|(refine .aI [0,2,3,4,5,6,7,8,9,10,12,13,28] hK ?_;clear hK K)|(with_reducible refine .done (hK _ ?_);clear hK K)|refine U.of rfl ?_|(with_reducible refine aB.aJ (fun h =>?_) (fun h =>?_) <;>try simp only[h])) <;>try simp only[aM,R,simprocAttr])
  all_goals clear R
  all_goals rfl
def vi(a n:Int):Int:=(IntKind.i64.wrap (a.tmod n+n)).tmod n
theorem Ue{a n:Int}(ha:-9223372036854775808≤a∧a≤9223372036854775807)(hn:0<n∧n≤4611686018427387904):vi a n=a%n:=by
 have h1:-n<a.tmod n∧a.tmod n<n:=⟨Int.lt_tmod_of_pos a hn.1,Int.tmod_lt_of_pos a hn.1⟩
 have h2:(a.tmod n+n).tmod n=a%n:=by
  rw[Int.tmod_eq_emod_of_nonneg (by omega),Int.add_emod_right];have:=Int.tmod_add_mul_tdiv a n
  conv=>rhs;rw[←this]
  rw[Int.add_mul_emod_self_left]
 have h3:=Int.emod_nonneg a (show n≠0 by omega);have h4:=Int.emod_lt_of_pos a hn.1;rw[vi,dH _ (by omega) (by omega),h2]
def c8.small(r:c8):Prop:=r.bH.length≤140737488351232∧r.ef.length≤140737488351232
def c7.small(r:c7):Prop:=r.de.small∧r.copy.small
def c8.all(r:c8):List UInt8:=r.bH++r.ef
theorem c8.qD{r:c8}(h:r.small):r.all.length≤281474976710656:=by
 have:=h.1;have:=h.2;rw[c8.all,Z1];omega
theorem js:I.agg [.aj ⟨#[]⟩,.aj ⟨#[]⟩]=enc (⟨[],[]⟩:c8):=rfl
theorem zm:I.agg [.agg [.aj ⟨#[]⟩,.aj ⟨#[]⟩],.agg [.aj ⟨#[]⟩,.aj ⟨#[]⟩]]=enc (⟨⟨[],[]⟩,⟨[],[]⟩⟩:c7):=rfl
theorem ma:I.agg [enc (⟨[],[]⟩:c8),enc (⟨[],[]⟩:c8)]=enc (⟨⟨[],[]⟩,⟨[],[]⟩⟩:c7):=rfl
theorem fW:(∀ A n b rest (q r:c8),ep A (some 2) n [] b (enc q) rest (some (enc r))=ao rest (A.aP n (.box (enc q))))∧(∀ A n b rest (q r:c7),ep A (some 4) n [] b (enc q) rest (some (enc r))=ao rest (A.aP n (.box (enc q)))) ∧
  (∀ A n rest (q r:c8) (s:c7),ep A (some 2) n [0] (enc s) (enc q) rest (some (enc r))=ao rest (A.aP n (.box (enc (⟨q,s.copy⟩:c7)))))∧(∀ A n rest (q r:c8) (s:c7),ep A (some 2) n [1] (enc s) (enc q) rest (some (enc r))=ao rest (A.aP n (.box (enc (⟨s.de,q⟩:c7))))) :=
 ⟨fun A n b rest q r=>by rw[fh (eY _) (by rw[gM];rfl) ((eh _).trans (eh _).symm),fg],
  fun A n b rest q r=>by rw[fh (eY _) (by rw[gM];rfl) ((eh _).trans (eh _).symm),fg],
  fun A n rest q r s=>by rw[fh (eY _) (by rw[gM];rfl) ((eh _).trans (eh _).symm)];rfl,
  fun A n rest q r s=>by rw[fh (eY _) (by rw[gM];rfl) ((eh _).trans (eh _).symm)];rfl⟩
theorem kz:(∀ x:List UInt8,fA [.aj ⟨#[]⟩,.aj ⟨#[]⟩] [(0,enc (ak.of x))]=some [enc (ak.of x),enc (ak.of [])])∧(∀ x:List UInt8,I.agg [enc (ak.of x),enc (ak.of [])]=enc (⟨x,[]⟩:c8)) ∧
  (∀ p q:c8,fA [.agg [.aj ⟨#[]⟩,.aj ⟨#[]⟩],.agg [.aj ⟨#[]⟩,.aj ⟨#[]⟩]] [(0,enc p),(1,enc q)]=some [enc p,enc q])∧(∀ p q:c8,I.agg [enc p,enc q]=enc (⟨p,q⟩:c7)) ∧
  (∀ p q:c8,fA [enc (⟨[],[]⟩:c8),enc (⟨[],[]⟩:c8)] [(0,enc p),(1,enc q)]=some [enc p,enc q]) :=
 ⟨fun _=>rfl,fun _=>rfl,fun _ _=>rfl,fun _ _=>rfl,fun _ _=>rfl⟩
theorem oA(r:c8)(h:r.small):aR Tryz.prog 73 [enc r] (enc (ak.of r.all)):=by
 refine aR.bO Tryz.func73 GV HZ Jf (t8 rfl) (fun hwf W0 bF E1 =>?_);simp only[yp,Cx,bC];clear hwf;have ha:=eE r.bH r.ef (by have:=h.1;have:=h.2;omega);have R:=y6 @ha (y6 @bj aH)
 repeat' ((first |refine U.aL (by decide +kernel) rfl fun K hK =>?_|(refine .aI [0,1,2] hK ?_;clear hK K)|(with_reducible refine .done (hK _ ?_);clear hK K)|refine U.of rfl ?_|(with_reducible refine aB.aJ (fun h =>?_) (fun h =>?_) <;>try simp only[h])) <;>try simp only[aM,R,simprocAttr])
 all_goals clear R
 all_goals rfl
def oh(r:c7):c7:=⟨⟨r.de.all,[]⟩,⟨r.de.all,[]⟩⟩
theorem EB(r:c7)(h:r.small):aR Tryz.prog 20 [enc r] (enc (oh r)):=by
 refine aR.bO Tryz.func20 GF HL I0 (t8 rfl) (fun hwf W0 bF E1 =>?_);simp only[c20,Cj,bC];clear hwf;have f:=oA r.de h.1;have R:=y6 @kz (y6 @js (y6 @ma (y6 @fW (y6 @bj aH))))
 repeat' ((first |refine U.aL (by decide +kernel) rfl fun K hK =>?_|refine .flat _ (f) rfl ?_|(refine .aI [0,1,2,3] hK ?_;clear hK K)|(with_reducible refine .done (hK _ ?_);clear hK K)|refine U.of rfl ?_|(with_reducible refine aB.aJ (fun h =>?_) (fun h =>?_) <;>try simp only[h])) <;>try simp only[aM,R,simprocAttr])
 all_goals clear R
 all_goals rfl
def oO(r:c7)(copy:Bool):c7:=if copy then ⟨r.de,⟨[],[]⟩⟩ else ⟨⟨[],[]⟩,r.copy⟩
theorem EC(r:c7)(b:Bool):aR Tryz.prog 24 [enc r,enc b] (enc (oO r b)):=by
 refine aR.bO Tryz.func24 GH HN I2 (t8 rfl) (fun hwf W0 bF E1 =>?_);simp only[yc,Cl,bC,Z8];clear hwf;cases b
 ·have R:=y6 @js (y6 @ma (y6 @fW (y6 @bj aH)))
  repeat' ((first |refine U.aL (by decide +kernel) rfl fun K hK =>?_|(refine .aI [0,1,2,4,5] hK ?_;clear hK K)|(with_reducible refine .done (hK _ ?_);clear hK K)|refine U.of rfl ?_|(with_reducible refine aB.aJ (fun h =>?_) (fun h =>?_) <;>try simp only[h])) <;>try simp only[aM,R,simprocAttr])
  all_goals clear R
  all_goals rfl
 ·have R:=y6 @js (y6 @ma (y6 @fW (y6 @bj aH)))
  repeat' ((first |refine U.aL (by decide +kernel) rfl fun K hK =>?_|(refine .aI [0,1,2,4,5] hK ?_;clear hK K)|(with_reducible refine .done (hK _ ?_);clear hK K)|refine U.of rfl ?_|(with_reducible refine aB.aJ (fun h =>?_) (fun h =>?_) <;>try simp only[h])) <;>try simp only[aM,R,simprocAttr])
  all_goals clear R
  all_goals rfl
def j6(r:c7):c7×List ai:=(⟨⟨(sr bg dY r.de.all r.copy.all).2,[]⟩,⟨(sr bg dY r.de.all r.copy.all).2,[]⟩⟩,(sr bg dY r.de.all r.copy.all).1)
theorem Dr(t:List UInt8):(jh bg dY t).2.length≤t.length:=by rw[jh];simp;omega
theorem qt(r:c7)(h:r.small):aR Tryz.prog 18 [enc r] (.tuple [enc (j6 r).1,enc (j6 r).2]):=by
 refine aR.bO Tryz.func18 GC HJ IY (t8 rfl) (fun hwf W0 bF E1 =>?_);simp only[x9,Ch,bC];clear hwf;have f1:=oA r.de h.1;have f2:=oA r.copy h.2;have g1:=wX r.de.all (c8.qD h.1);have g2:=wX r.copy.all (c8.qD h.2);have l1:=Dr r.de.all;have l2:=Dr r.copy.all;have:=c8.qD h.1;have:=c8.qD h.2;have h74:=fun (x:List UInt8) (hx:x.length≤281474976710656)=>EK (ak.of x) (by rw[ak.dm];exact hx);simp only[j6,sr];generalize jh bg dY r.de.all=p at *;generalize jh bg dY r.copy.all=q at *;by_cases hlt:p.1.length<q.1.length
 ·have hc:decide ((q.1.length:Int)>(p.1.length:Int))=true:=decide_eq_true (by omega);have h74':=h74 q.2 (by omega);simp only[if_pos hlt];have R:=y6 @hc (y6 @kz (y6 @js (y6 @ma (y6 @fW (y6 @bj aH)))))
  repeat' ((first |refine U.aL (by decide +kernel) rfl fun K hK =>?_|refine .flat _ (f1) rfl ?_|refine .lead _ (g1) ?_|refine .flat _ (f2) rfl ?_|refine .lead _ (g2) ?_|refine .flat _ (h74') rfl ?_|(refine .aI [0,1,2,3,4,5,6,7,8,27] hK ?_;clear hK K)|(with_reducible refine .done (hK _ ?_);clear hK K)|refine U.of rfl ?_|(with_reducible refine aB.aJ (fun h =>?_) (fun h =>?_) <;>try simp only[h])) <;>try simp only[aM,R,simprocAttr])
  all_goals clear R
  all_goals rfl
 ·have hc:decide ((q.1.length:Int)>(p.1.length:Int))=false:=decide_eq_false (by omega);have h74':=h74 p.2 (by omega);simp only[if_neg hlt];have R:=y6 @hc (y6 @kz (y6 @js (y6 @ma (y6 @fW (y6 @bj aH)))))
  repeat' ((first |refine U.aL (by decide +kernel) rfl fun K hK =>?_|refine .flat _ (f1) rfl ?_|refine .lead _ (g1) ?_|refine .flat _ (f2) rfl ?_|refine .lead _ (g2) ?_|refine .flat _ (h74') rfl ?_|(refine .aI [0,1,2,3,4,5,6,7,8,27] hK ?_;clear hK K)|(with_reducible refine .done (hK _ ?_);clear hK K)|refine U.of rfl ?_|(with_reducible refine aB.aJ (fun h =>?_) (fun h =>?_) <;>try simp only[h])) <;>try simp only[aM,R,simprocAttr])
  all_goals clear R
  all_goals rfl
end Go.Proofs.YtoffnnjbplgnaaaGreatDoor
namespace Go.Abs
open Go Go.RowKit Go.ChangeShapes
open Enc (enc)
def xd(P:Program)(u:TypeId)(n:Nat)(S:I→Prop):Prop:=P.cellsOf u=n ∧
 ∀ {H:Type} {enc0:TypeId×Value→H} {w:World} {fuel:Nat} {cs:List Value} {x:DataW H×List MemPlace},DataW.trod enc0 P w 0 (fun _=>true) true fuel u cs=some x→(∀ k∈x.1.weights P u,k≤reachBytes)→∃ v,S v∧ae w (kq w) cd v cs
theorem jN.bd{P:Program}{u:TypeId}{α:Type}[Enc α]{B:α→Prop}(h:jN P u α B):xd P u (Enc.sz α) fun v=>∃ a:α,B a∧v=enc a :=
 ⟨h.cells,fun hx hw=>by obtain ⟨a,hB,ha⟩:=h.su hx hw;exact ⟨enc a,⟨a,hB,rfl⟩,ha⟩⟩
def mr(P:Program):Nat→List (TypeId×Nat)→List (Nat×(I→Prop))→Prop
 |_,[],[]=>True
 |o,(u,off)::l,(n,S)::Ss=>off=o∧xd P u n S∧mr P (o+n) l Ss
 |_,_,_=>False
theorem zD{P:Program}{H:Type}{enc0:TypeId×Value→H}{w:World}{m:Nat}{cs:List Value} : ∀ (l:List (TypeId×Nat)) (Ss:List (Nat×(I→Prop))) (o:Nat),mr P o l Ss→cs.length=o+qi Ss →
  (∀ (i:Nat) (u:TypeId) (off:Nat),l[i]?=some (u,off)→∃ y,DataW.trod enc0 P w 0 (fun _=>true) true m u ((cs.drop off).take (P.cellsOf u))=some y∧∀ k∈y.1.weights P u,k≤reachBytes)→∃ vs,ni Ss vs∧ay w (kq w) cd vs (cs.drop o)
 | [],[],o,_,hl,_=>⟨[],trivial,by simp only[ay];exact List.drop_eq_nil_of_le (by simp only[qi] at hl;omega)⟩
 |(u,off)::l,(n,S)::Ss,o,h,hl,hf=>by
  obtain ⟨rfl,h2,h3⟩:=h;obtain ⟨y,hy,hyw⟩:=hf 0 u off rfl;obtain ⟨v,hv1,hv2⟩:=h2.2 hy hyw;obtain ⟨vs,k1,k2⟩:=zD l Ss (off+n) h3 (by simp only[qi] at hl;omega) fun i u' o' hi=>hf (i+1) u' o' hi;refine ⟨v::vs,⟨hv1,k1⟩,?_⟩;simp only[ay];rw[h2.1] at hv2;exact ⟨_,(cs.drop off).drop n,(List.take_append_drop n _).symm,hv2,by rw[List.drop_drop];exact k2⟩
 | [],_::_,_,h,_,_=>h.elim
 |_::_,[],_,h,_,_=>by simp[mr] at h
theorem vA{P:Program}{t:TypeId}{H:Type}{enc0:TypeId×Value→H}{w:World}{fuel:Nat}{cs:List Value}{x:DataW H×List MemPlace}(l:List (TypeId×Nat))(Ss:List (Nat×(I→Prop)))(ht:rK P t l=true)(hok:mr P 0 l Ss)(hc:P.cellsOf t=qi Ss)(h:DataW.trod enc0 P w 0 (fun _=>true) true fuel t cs=some x)(hw:∀ k∈x.1.weights P t,k≤reachBytes) :
  ∃ vs,ni Ss vs∧ae w (kq w) cd (.agg vs) cs:=by
 obtain ⟨hl,m,hf⟩:=WM ht h hw;obtain ⟨vs,k1,k2⟩:=zD l Ss 0 hok (by rw[hl,hc];omega) hf;exact ⟨vs,k1,by simpa only[ae,List.drop_zero] using k2⟩
theorem Vn{P:Program}{t:TypeId}(ht:P.underlying t=some .string)(hc:P.cellsOf t=1):jN P t ak fun s=>s.l.length≤140737488351232 :=
 ⟨hc,Nat.one_pos,fun {H enc0 w fuel cs x} h hw=>by
  obtain ⟨s,rfl,rfl,hs⟩:=DataW.trod_string ht h;refine ⟨⟨s⟩,?_,?_⟩
  ·have:=hw s.data.toList.length (by simp[DataW.weights]);exact this
  ·show ae _ _ _ (.aj s) _
   simp only[ae,true_and];exact hs⟩
end Go.Abs
namespace Go.Proofs.YtoffnnjbplgnaaaGreatDoor
open Go Go.Abs Go.ChangeShapes Go.WideShapes Go.RowKit
open Go.Abs.Enc (enc)
theorem Tryz.own:ownKnob Tryz.prog.godebug=none:=by kernel_rfl
theorem Tryz.Tz:laidOutB Tryz.prog=true:=by kernel_rfl
theorem Uo:qz Tryz.prog 3 Int:=Vo (by kernel_rfl) (by kernel_rfl)
theorem nk:jN Tryz.prog 3 Int fun _=>True:=Uo.Vm
theorem xu:jN Tryz.prog 9 ak fun s=>s.l.length≤140737488351232:=Vn (by kernel_rfl) (by kernel_rfl)
theorem xt:jN Tryz.prog 48 Item fun a=>True:=⟨by kernel_rfl,by decide,fun h hw=>by
 obtain ⟨vs,hv,hr⟩:=vA [(3,0),(3,1)]
  [(1,fun v=>∃ a:Int,True∧v=enc a),(1,fun v=>∃ a:Int,True∧v=enc a)]
  (by kernel_rfl) (by simp only[mr];exact ⟨trivial,nk.bd,trivial,nk.bd,trivial⟩) (by kernel_rfl) h hw
 obtain ⟨v0,vs0,e0,h0,hv0⟩:=jP hv;obtain ⟨a0,p0,f0⟩:∃ a:Int,True∧v0=enc a:=h0;obtain ⟨v1,vs1,e1,h1,hv1⟩:=jP hv0;obtain ⟨a1,p1,f1⟩:∃ a:Int,True∧v1=enc a:=h1;have e2:=tC hv1;rw[e0,e1,e2,f0,f1] at hr;refine ⟨⟨a0,a1⟩,trivial,?_⟩;exact hr⟩
theorem FE:jN Tryz.prog 50 ai fun a=>a.text.length≤140737488351232:=⟨by kernel_rfl,by decide,fun h hw=>by
 obtain ⟨vs,hv,hr⟩:=vA [(48,0),(3,2),(3,3),(3,4),(48,5),(9,7)]
  [(2,fun v=>∃ a:Item,True∧v=enc a),(1,fun v=>∃ a:Int,True∧v=enc a),(1,fun v=>∃ a:Int,True∧v=enc a),(1,fun v=>∃ a:Int,True∧v=enc a),(2,fun v=>∃ a:Item,True∧v=enc a),(1,fun v=>∃ a:ak,a.l.length≤140737488351232∧v=enc a)]
  (by kernel_rfl) (by simp only[mr];exact ⟨trivial,xt.bd,trivial,nk.bd,trivial,nk.bd,trivial,nk.bd,trivial,xt.bd,trivial,xu.bd,trivial⟩) (by kernel_rfl) h hw
 obtain ⟨v0,vs0,e0,h0,hv0⟩:=jP hv;obtain ⟨a0,p0,f0⟩:∃ a:Item,True∧v0=enc a:=h0;obtain ⟨v1,vs1,e1,h1,hv1⟩:=jP hv0;obtain ⟨a1,p1,f1⟩:∃ a:Int,True∧v1=enc a:=h1;obtain ⟨v2,vs2,e2,h2,hv2⟩:=jP hv1;obtain ⟨a2,p2,f2⟩:∃ a:Int,True∧v2=enc a:=h2;obtain ⟨v3,vs3,e3,h3,hv3⟩:=jP hv2;obtain ⟨a3,p3,f3⟩:∃ a:Int,True∧v3=enc a:=h3;obtain ⟨v4,vs4,e4,h4,hv4⟩:=jP hv3;obtain ⟨a4,p4,f4⟩:∃ a:Item,True∧v4=enc a:=h4;obtain ⟨v5,vs5,e5,h5,hv5⟩:=jP hv4;obtain ⟨a5,p5,f5⟩:∃ a:ak,a.l.length≤140737488351232∧v5=enc a:=h5;have e6:=tC hv5;rw[e0,e1,e2,e3,e4,e5,e6,f0,f1,f2,f3,f4,f5] at hr;refine ⟨⟨a0.bf,a0.no,a1,a2,a3,a4.bf,a4.no,a5.l⟩,p5,?_⟩;exact hr⟩
theorem Wp{w:World}{D:aD}{E:aN}{x y:I}{a b:Value}(hx:∃ cs,aW x a cs∧ae w D E x cs)(hy:∃ cs,aW y b cs∧ae w D E y cs):al w D E [x,y] [a,b]:=by
 obtain ⟨c1,h1,h2⟩:=hx;obtain ⟨c2,h3,h4⟩:=hy;simp only[al];exact ⟨a,[b],c1,rfl,h1,h2,b,[],c2,rfl,h3,h4,rfl⟩
def iZ : List (String × DataW Unit) := [("math/bits.deBruijn32tab", Rows.laid_math_bits_deBruijn32tab), ("math/bits.deBruijn64tab", Rows.laid_math_bits_deBruijn64tab), ("internal/strconv.uint64pow10", Rows.laid_internal_strconv_uint64pow10), ("strconv.ErrRange", Rows.laid_strconv_ErrRange), ("strconv.ErrSyntax", Rows.laid_strconv_ErrSyntax)]
def Ea:List Int:=[1,10,100,1000,10000,100000,1000000,10000000,100000000,1000000000,10000000000,100000000000,1000000000000,10000000000000,100000000000000,1000000000000000,10000000000000000,100000000000000000,1000000000000000000,10000000000000000000]
theorem R1 : Tryz.prog.globalNamed "internal/strconv.uint64pow10" = some 3 := by kernel_rfl
theorem WS:(Tryz.prog.globals[3]?).map (·.type)=some 256:=by kernel_rfl
theorem R0 : Tryz.prog.globalNamed "internal/bytealg.MaxLen" = some 0 := by kernel_rfl
theorem CP:((begin Tryz.prog (fun _ _=>0) default).world.heap[0]?).bind Obj.row?=some (#[.int .i64 0],3):=by kernel_rfl
theorem R3 : Tryz.prog.globalNamed "strconv.ErrSyntax" = some 1 := by kernel_rfl
theorem R2 : Tryz.prog.globalNamed "strconv.ErrRange" = some 2 := by kernel_rfl
theorem DP:(Tryz.prog.globals[1]?).map (·.type)=some 199∧(Tryz.prog.globals[2]?).map (·.type)=some 199:=⟨by kernel_rfl,by kernel_rfl⟩
theorem Ap:(match Tryz.prog.underlying 199 with | some (.interface _)=>true | _=>false)=true:=by kernel_rfl
theorem T8 {W : World} (hsh : W.ShapedOpen Tryz.prog) : ∃ v, W.var? Tryz.prog "internal/bytealg.MaxLen" = some v ∧ rN .int v := by
 obtain ⟨m,hm⟩:=cell_of_shapedOpen_int (k:=.i64) hsh (show 0<Tryz.prog.globals.size from of_decide_eq_true (by kernel_rfl)) CP rfl (by kernel_rfl) (by kernel_rfl) (by kernel_rfl);obtain ⟨cs,hh,hs,_⟩:=hsh.1 0 _ _ (show 0<Tryz.prog.globals.size from of_decide_eq_true (by kernel_rfl)) CP;refine ⟨cs,?_,m,?_⟩
 ·unfold World.var?;rw[R0];simp only[zz0];revert hh;cases hb:W.heap[0]? with
  |none=>intro hh;simp at hh
  |some o =>
   intro hh;cases o <;>simp[] at hh
   simp[hh]
 ·have h1:cs.size=1:=hs;have hcell:W.cell? ⟨0,0,none⟩=cs[0]?:=by
   unfold World.cell?;revert hh;cases hb:W.heap[0]? with
   |none=>intro hh;simp at hh
   |some o =>
    intro hh;cases o <;>simp[] at hh
    rw[←hh.1];rfl
  rw[hcell] at hm;apply Array.ext
  ·simp[h1]
  ·intro i h2 h3;obtain rfl:i=0:=by simp at h3;omega
   have:=(Y1.1 hm).2;simpa using this
theorem zx {W : World} (h : laidMet Tryz.prog iZ W) {n : String} {text : List UInt8} {g : Nat} (hn : (n, DataW.iface "*errors.errorString" (.ptr (.agg [.lit (.string text)]))) ∈ iZ) (hg : Tryz.prog.globalNamed n = some g) (ht : (Tryz.prog.globals[g]?).map (·.type) = some 199) :
  ∃ v,W.var? Tryz.prog n=some v∧rN .ny v:=by
 obtain ⟨g',t',cs,fuel,p,hg',ht',hvar,hd⟩:=Lib.laidMet.reads h hn;obtain rfl:=Option.some.inj (hg.symm.trans hg');obtain rfl:=Option.some.inj (ht.symm.trans ht');cases hi:Tryz.prog.underlying 199 with
 |none=>have:=Ap;rw[hi] at this;cases this
 |some d =>
  cases d <;>(try (have:=Ap;rw[hi] at this;cases this;done))
  obtain ⟨_,u,v,hcs,_,_⟩:=iface_of_trod hi hd;refine ⟨cs,hvar,u,v,?_⟩;apply Array.ext';simpa using hcs
theorem Va{W:World}(h:laidMetH Tryz.prog iZ W)(hsh:W.ShapedOpen Tryz.prog):ev Tryz.prog W (fun _=>False):=by
 rw[MakeChecks.laidMetH_plain _ _ _ (by kernel_rfl)] at h;intro q hq g hg;refine ⟨id,?_⟩;simp only[mh,zz1,List.not_mem_nil,or_false] at hq;rcases hq with rfl | rfl | rfl | rfl
 ·obtain ⟨g', t', cs, fuel, p, hg', ht', hvar, hd⟩ := Lib.laidMet.reads h (n := "internal/strconv.uint64pow10") (d := Rows.laid_internal_strconv_uint64pow10) (by simp [iZ])
  obtain rfl:=Option.some.inj (R1.symm.trans hg');obtain rfl:=Option.some.inj (WS.symm.trans ht');have hd':DataW.trod (fun _=>()) Tryz.prog W 0 (fun _=>true) false fuel 256 cs.toList=some (Lib.tabData .u64 Ea,p):=hd;have hc:=Lib.cells_of_tab (n:=20) (e:=227) (Th (by kernel_rfl)) (by kernel_rfl) (by kernel_rfl) (by kernel_rfl) hd';refine ⟨cs,hvar,?_⟩
  show cs=AF
  have:cs=(Ea.map fun z=>Value.int .u64 z).toArray:=by rw[←hc]
  rw[this];rfl
 ·exact T8 hsh
 ·exact zx h (n := "strconv.ErrSyntax") (text := [105, 110, 118, 97, 108, 105, 100, 32, 115, 121, 110, 116, 97, 120]) (by simp [iZ, Rows.laid_strconv_ErrSyntax]) R3 DP.1
 ·exact zx h (n := "strconv.ErrRange") (text := [118, 97, 108, 117, 101, 32, 111, 117, 116, 32, 111, 102, 32, 114, 97, 110, 103, 101]) (by simp [iZ, Rows.laid_strconv_ErrRange]) R2 DP.2
theorem Wg{H:Type}{enc0:TypeId×Value→H}{a:Assume}{C:Checked}{os:Os}{f:FuncId}{fn:Func}{s:ChangeSpec}{conds:List PathCond}{apart ju handsOn again:Bool}{X:World→Array Value→Prop}
  (hX:∀ (w w':World) (args:Array Value),w.heap=w'.heap→X w args→X w' args)
  (own:ownKnob C.prog.godebug=none) (started:os.Started) (noInit:C.prog.inits.idxOf? f=none) (hfn:C.prog.funcs[f]?=some fn)
  (witness:∃ (w:World) (tape:Tape) (i:Input),w.os=os∧(w.forCall tape i).Shaped C.prog∧i.vars=[]∧Input.okWide C.prog (w.forCall tape i) .any w.heap.size f i ∧
   ((s.pre enc0 C.prog fn conds apart (w.forCall tape i).memory i.args∧X (w.forCall tape i).memory i.args)∧sizedMet enc0 C.prog fn (OpenSpec.ofChange s) apart (w.forCall tape i).memory i.args)∧a.holds C.prog (lone (Frame.enter C.prog f i.args .normal) [] (w.forCall tape i)))
  (contract:∀ (W:World) (dQ:Nat) (args:Array Value) (ds gs:List (DataW H)) (before:List MemPlace),
   (∀ (j:Nat) t v,fn.params[j]?=some t→args[j]?=some v→Value.okWide C.prog W .any dQ t v) →
   DataW.Whole enc0 C.prog fn.params.toList s.vars apart W args.toList ds gs before →
   (DataW.weightsEach C.prog (fn.params.toList++s.plain.varTypes C.prog) (ds++gs)).all (· ≤ reachBytes)=true→X W args→W.ShapedOpen C.prog →
   Calls C.prog f args W fun e W'=>∃ v,e=.returned v∧s.post enc0 C.prog fn apart ju handsOn again W args v W') :
  ReturnsInHanded a C os f .any (fun w args=>(s.pre enc0 C.prog fn conds apart w args∧X w args)∧sizedMet enc0 C.prog fn (OpenSpec.ofChange s) apart w args) (s.post enc0 C.prog fn apart ju handsOn again):=by
 refine returnsInHanded_of_calls own started noInit witness ?_;intro w tape i _ hsh _ hok hpre _;obtain ⟨_,_,_,fn',hfn',_,_,_,_,hval⟩:=hok;have e:fn'=fn:=Option.some.inj (hfn'.symm.trans hfn);subst e;obtain ⟨⟨⟨ds,gs,before,hw,_⟩,hx⟩,hz⟩:=hpre;have hw':=DataW.Whole.of_heap (w':=w.forCall tape i) (by rfl) hw;refine (contract (w.forCall tape i) w.heap.size i.args ds gs before hval hw' (hz.weights hw) (hX _ _ _ (by rfl) hx) hsh).mono fun e W' ⟨v,he,hp⟩ =>?_;subst he;exact ChangeSpec.post_blind hp
end Go.Proofs.YtoffnnjbplgnaaaGreatDoor
namespace Go.Proofs.YtoffnnjbplgnaaaGreatDoor
open Go Go.Abs
open Go.Abs.Enc (enc)
def cv:ai:=default
theorem kG:I.agg [.agg [.int .i64 0,.int .i64 0],.int .i64 0,.int .i64 0,.int .i64 0,.agg [.int .i64 0,.int .i64 0],.aj ⟨#[]⟩]=enc cv:=rfl
theorem DE{A:ab}{l:List ai} : jL A 8 (enc l)=some (l.map enc):=ke A 8 l rfl
theorem DF{A:ab}{n lo k:Nat}{xs:List ai}(ho:A.o n=some (.box (.agg (xs.map enc))))(hl:lo+k≤xs.length):jL A 8 (.view n [] 8 lo k)=some (((xs.drop lo).take k).map enc):=mQ ho hl
theorem gz{k:Nat}{a:ah}{m:Nat} : aC [(k,a)] m=true↔m=k:=by
 constructor
 ·intro h;simp only[aC,aE] at h;split at h
  ·assumption
  ·simp at h
 ·rintro rfl;simp[aC,aE]
theorem Am{A:ab}{k k':Nat}{c c':I}(h1:A.o k=some (.box c))(h2:∀ p,c.only p=true)(h1':A.o k'=some (.box c'))(h2':∀ p,c'.only p=true):∀ n x,aE [(k,.box c),(k',.box c')] n=some x→A.o n=some x∧x.only (aC [(k,.box c),(k',.box c')])=true∧x.ed=true:=fun n x h=>by
 simp only[aE] at h;split at h
 ·rename_i hn;subst hn;simp only[v6] at h;subst h;exact ⟨h1,h2 _,rfl⟩
 ·split at h
  ·rename_i hn;subst hn;simp only[v6] at h;subst h;exact ⟨h1',h2' _,rfl⟩
  ·cases h
theorem fR(p:Nat→Bool)(l:List ai):(I.agg (l.map enc)).only p=true:=by simp only[I.only];exact sq p l
def eN(k:Nat)(l:List ai)(m:Nat):List (Nat×ah):=[(k,.box (.agg ((l++List.replicate m cv).map enc)))]
def qR(l:List ai):bV:=fun r os'=>(l=[]∧(r=.nils 8∨r=.c0 8)∧os'=[])∨(l≠[]∧∃ m,r=.view 7 [] 8 0 l.length∧os'=eN 7 l m)
theorem xc(l:List ai)(hl:l.length≤1000):eG Tryz.prog 93 [enc l] [] (qR l):=by
 refine eG.bO Tryz.func93 yO yT y7 (t8 rfl) (t8 rfl) (fun m hm=>by simp[aC,aE] at hm) (fun hwf W0 bF E1 =>?_);simp only[tP,vJ,bC];refine .dK (by decide +kernel) fun K hK =>?_;simp only[uN,aZ];refine .done (hK _ ?_);clear hK K;refine U.seq (U.seq ?_);by_cases hn:l=[]
 ·subst hn;refine .gV (by decide +kernel) fun K hK =>?_;simp only[pc,aZ,Nat.reduceEqDiff,reduceIte];simp only[s8,List.isEmpty_nil,nR];refine .any rfl fun b _ =>?_
  try simp only[aZ]
  generalize (b==0)=t;cases t
  ·refine .done (hK _ ?_);clear hK K;try simp only[cO]
   refine U.gA ?_;simp only[aB,aZ,Nat.reduceEqDiff,reduceIte];refine ⟨fun h =>?_,fun h =>?_⟩
   ·cases h
   refine U.skip ?_;try simp only[cO]
   refine .dK (by decide +kernel) fun K hK =>?_;simp only[pd,aZ]
   try simp only[hU,kG,aZ,Nat.reduceEqDiff,reduceIte]
   refine .done (hK _ ?_);clear hK K;refine U.ret ?_;simp only[jH];exact ⟨[],[.c0 8],uV,⟨⟨.c0 8,rfl,.inl ⟨rfl,rfl,rfl⟩⟩,trivial⟩,.inl ⟨rfl,.inr rfl,rfl⟩⟩
  ·refine .done (hK _ ?_);clear hK K;refine U.gA ?_;simp only[aB,aZ,Nat.reduceEqDiff,reduceIte];refine ⟨fun h =>?_,fun h =>?_⟩
   ·refine .dK (by decide +kernel) fun K hK =>?_;simp only[uO,aZ];refine .done (hK _ ?_);clear hK K;refine U.ret ?_;simp only[cO,jH];exact ⟨[],[.nils 8],uV,⟨⟨.nils 8,rfl,.inl ⟨rfl,rfl,rfl⟩⟩,trivial⟩,.inl ⟨rfl,.inl rfl,rfl⟩⟩
   ·cases h
 ·have hu:iJ (enc l)=false:=by rw[s8];simpa using hn
  refine .gV (by decide +kernel) fun K hK =>?_;simp only[pc,aZ,Nat.reduceEqDiff,reduceIte]
  try simp only[hu,A9 _ l hn,aZ]
  refine .done (hK _ ?_);clear hK K;try simp only[cO]
  refine U.gA ?_;simp only[aB,aZ,Nat.reduceEqDiff,reduceIte];refine ⟨fun h =>?_,fun h =>?_⟩
  ·cases h
  refine U.skip ?_;try simp only[cO]
  refine .dK (by decide +kernel) fun K hK =>?_;simp only[pd,aZ]
  try simp only[hU,kG,aZ,Nat.reduceEqDiff,reduceIte]
  refine aX.tF cv rfl hn rfl (by omega) (by simp only[maxLen];omega) fun m =>?_
  try simp only[aZ,Nat.reduceEqDiff,reduceIte]
  refine .done (hK _ ?_);clear hK K;refine U.ret ?_;simp only[jH];exact ⟨eN 7 l m,[.view 7 [] 8 0 l.length],nG rfl (fun p=>fR p _),⟨⟨_,rfl,.inl ⟨rfl,rfl,rfl⟩⟩,trivial⟩,.inr ⟨hn,m,rfl,rfl⟩⟩
def fP(l:List ai)(i:Nat)(g:ai):List ai:=l.take i++g::l.drop i
theorem Tg{l:List ai}{i:Nat}(g:ai)(h:i≤l.length):(fP l i g).length=l.length+1:=by
 simp only[fP,Z1,Y0,Y5,List.length_drop];omega
def Au(l:List ai)(i:Nat)(g:ai)(k:Nat):bV:=fun r os' =>
 (∃ q,r=.view 1000000 [] 8 0 (l.length+1)∧os'=eN 1000000 (fP l i g) q)∨∃ d q,(d=25∨d=40)∧r=.view d [] 8 0 (l.length+1)∧os'=eN d (fP l i g) q++eN 1000000 l k
theorem TW(l:List ai)(i q:Nat)(g:ai)(h:i<l.length)(xs:List ai)(hx:xs=l.take i++(List.replicate (l.length+1-i) cv++List.replicate q cv))(ys:List ai)(hy:ys=xs.take i++([g].take 1++xs.drop (i+1))) :
  ys.take (i+1)++((((l++List.replicate 0 cv).drop i).take (l.length-i)).take (l.length-i)++ys.drop (i+1+(l.length-i)))=fP l i g++List.replicate q cv:=by
 have e1:xs.take i=l.take i:=by rw[hx,List.take_append_of_le_length (by rw[Y0];omega),List.take_take,Nat.min_self]
 have e2:xs.drop (i+1)=List.replicate (l.length-i+q) cv:=by
  have hl:(l.take i).length=i:=by rw[Y0];omega
  rw[hx,List.replicate_append_replicate,List.drop_append,hl,List.drop_eq_nil_of_le (by rw[hl];omega),X4,List.drop_replicate]
  congr 1;omega
 have e3:ys=(l.take i++[g])++List.replicate (l.length-i+q) cv:=by rw[hy,e1,e2];simp
 have hl2:(l.take i++[g]).length=i+1:=by rw[Z1,Y0];simp;omega
 have e4:ys.take (i+1)=l.take i++[g]:=by rw[e3,←hl2,List.take_left]
 have e5:ys.drop (i+1+(l.length-i))=List.replicate q cv:=by
  rw[e3,List.drop_append,hl2,List.drop_eq_nil_of_le (by rw[hl2];omega),X4,List.drop_replicate]
  congr 1;omega
 have e6:(((l++List.replicate 0 cv).drop i).take (l.length-i)).take (l.length-i)=l.drop i:=by
  rw[List.replicate_zero,List.append_nil,List.take_take,Nat.min_self,List.take_of_length_le (by rw[List.length_drop];omega)]
 rw[e4,e5,e6];simp[fP]
theorem TV(l:List ai)(i k:Nat)(g:ai)(h:i<l.length)(hk:1≤k)(xs:List ai)(hx:xs=l++List.replicate k cv)(ys:List ai)(hy:ys=xs.take (i+1)++(((xs.drop i).take (l.length+1-i)).take (l.length-i)++xs.drop (i+1+(l.length-i)))) :
  ys.take i++([g].take 1++ys.drop (i+1))=fP l i g++List.replicate (k-1) cv:=by
 have e1:((xs.drop i).take (l.length+1-i)).take (l.length-i)=l.drop i:=by
  rw[List.take_take,Nat.min_eq_left (by omega),hx,List.drop_append_of_le_length (by omega),List.take_append_of_le_length (by rw[List.length_drop];omega),List.take_of_length_le (by rw[List.length_drop];omega)]
 have e2:xs.drop (i+1+(l.length-i))=List.replicate (k-1) cv:=by
  rw[hx,List.drop_append,List.drop_eq_nil_of_le (by omega),X4,List.drop_replicate]
  congr 1;omega
 have hl:(xs.take (i+1)).length=i+1:=by rw[Y0,hx,Z1];omega
 have e3:ys.take i=l.take i:=by
  rw[hy,List.take_append_of_le_length (by omega),List.take_take,Nat.min_eq_left (by omega),hx,List.take_append_of_le_length (by omega)]
 have e4:ys.drop (i+1)=l.drop i++List.replicate (k-1) cv:=by
  rw[hy,e1,e2];exact List.drop_left' hl
 rw[e3,e4];simp[fP]
theorem Ee(l:List ai)(i:Nat)(g:ai)(k:Nat)(hi:i≤l.length)(hn:l≠[])(hlen:l.length≤1000) :
  eG Tryz.prog 101 [.view 1000000 [] 8 0 l.length,enc (i:Int),enc [g]] (eN 1000000 l k) (Au l i g k):=by
 refine eG.bO Tryz.func101 tQ tU ub (t8 rfl) (t8 rfl) (fun m hm=>by rw[gz.1 hm];exact Z5 _) (fun hwf W0 bF E1 =>?_);simp only[qM,sy,bC,Z8,Nat.reduceAdd];simp only[eN];have hl0:0<l.length:=List.length_pos_iff.2 hn;have htot:((l++List.replicate k cv).map (enc (α:=ai))).length=l.length+k:=by simp
 refine .dK (by decide +kernel) fun K hK =>?_;simp only[rn,aZ];refine .done (hK _ ?_);clear hK K;obtain ⟨y,hy⟩:=WD (n:=1000000) (p:=[]) (sz:=8) hi (show l.length≤l.length+k by omega);refine .dK (by decide +kernel) fun K hK =>?_;simp only[rp,aZ,Nat.reduceEqDiff,reduceIte]
 try simp only[hU,htot,X6,hy,aZ,reduceIte]
 refine .done (hK _ ?_);clear hK K;refine .dK (by decide +kernel) fun K hK =>?_;simp only[rq,aZ,Nat.reduceEqDiff,reduceIte]
 try simp only[typR,iK,jD,iU,aZ,Nat.reduceEqDiff,reduceIte,Int.reduceBNe,Int.reduceBEq]
 refine .done (hK _ ?_);clear hK K;refine U.seq (U.seq ?_);refine .gV (by decide +kernel) fun K hK =>?_;simp only[rr,aZ,Nat.reduceEqDiff,reduceIte]
 try simp only[typR,iK,jD,iU,aZ,Nat.reduceEqDiff,reduceIte,Int.reduceBNe,Int.reduceBEq]
 refine .done (hK _ ?_);clear hK K;try simp only[cO]
 refine U.gA ?_;simp only[aB,aZ,Nat.reduceEqDiff,reduceIte];refine ⟨fun h =>?_,fun h =>?_⟩
 ·first | cases h | simp at h
 refine U.skip ?_;try simp only[cO]
 refine .dK (by decide +kernel) fun K hK =>?_;simp only[ru,aZ,Nat.reduceEqDiff,reduceIte]
 try simp only[hU,aZ,Nat.reduceEqDiff,reduceIte]
 refine .done (hK _ ?_);clear hK K;refine U.seq (U.seq ?_);refine .gV (by decide +kernel) fun K hK =>?_;simp only[rv,aZ,Nat.reduceEqDiff,reduceIte]
 try simp only[typR,iK,jD,iU,aZ,Nat.reduceEqDiff,reduceIte,Int.reduceBNe,Int.reduceBEq]
 refine .done (hK _ ?_);clear hK K;try simp only[cO]
 have hA:∀ ts,(aw ts [(1000000,.box (.agg ((l++List.replicate k cv).map (enc (α:=ai)))))]).o 1000000=some (.box (.agg ((l++List.replicate k cv).map enc))):=fun _=>rfl;have hN:∀ ts (d:Nat),d≠1000000→(aw ts [(1000000,.box (.agg ((l++List.replicate k cv).map (enc (α:=ai)))))]).o d=none:=fun ts d hd=>by
  have:¬ d=1000000:=hd;simp[aw,aE,this]
 refine U.gA ?_;simp only[aB,aZ,Nat.reduceEqDiff,reduceIte];refine ⟨fun h =>?_,fun h =>?_⟩
 ·have hil:i=l.length:=by
   have:(i:Int)=l.length:=by simpa using h
   omega
  subst hil;by_cases hk:k=0
  ·subst hk;refine .dK (by decide +kernel) fun K hK =>?_;simp only[pb,aZ,Nat.reduceEqDiff,reduceIte]
   try simp only[kG]
   refine aX.Fk (esz:=8) cv rfl (xs:=l++List.replicate 0 cv) (ys:=[g]) (by simp) (hA _) (by simp) (by simp) (hN _ 25 (by decide)) (by simp;omega) (by simp[maxLen];omega) fun q =>?_;have hc:(l++List.replicate 0 cv).take l.length++([g]++List.replicate q cv)=fP l l.length g++List.replicate q cv:=by simp[fP]
   rw[hc]
   try simp only[List.length_singleton,aZ,Nat.reduceEqDiff,reduceIte]
   refine .done (hK _ ?_);clear hK K;refine U.ret ?_;simp only[cO,jH];exact ⟨eN 25 (fP l l.length g) q++eN 1000000 l 0,[.view 25 [] 8 0 (l.length+1)],Am rfl (fun p=>fR p _) rfl (fun p=>fR p _),⟨⟨_,rfl,.inl ⟨rfl,rfl,rfl⟩⟩,trivial⟩,.inr ⟨25,q,.inl rfl,rfl,rfl⟩⟩
  ·refine .dK (by decide +kernel) fun K hK =>?_;simp only[pb,aZ,Nat.reduceEqDiff,reduceIte]
   try simp only[kG]
   rw[xm (esz:=8) _ rfl (xs:=l++List.replicate k cv) (ys:=[g]) (by simp) (hA _) (by simp;omega)];have hc:(l++List.replicate k cv).take l.length++([g]++(l++List.replicate k cv).drop (l.length+[g].length))=fP l l.length g++List.replicate (k-1) cv:=by
    simp[fP,List.drop_append]
   rw[hc]
   try simp only[List.length_singleton,aZ,Nat.reduceEqDiff,reduceIte]
   refine .done (hK _ ?_);clear hK K;refine U.ret ?_;simp only[cO,jH];exact ⟨eN 1000000 (fP l l.length g) (k-1),[.view 1000000 [] 8 0 (l.length+1)],nG rfl (fun p=>fR p _),⟨⟨_,rfl,.inl ⟨rfl,rfl,rfl⟩⟩,trivial⟩,.inl ⟨k-1,rfl,rfl⟩⟩
 have hlt:i<l.length:=by
  have:¬ (i:Int)=l.length:=by simpa using h
  omega
 refine U.skip ?_;try simp only[cO]
 refine U.seq (U.seq ?_);refine .gV (by decide +kernel) fun K hK =>?_;simp only[zZ,aZ,Nat.reduceEqDiff,reduceIte]
 try simp only[Uy,List.length_singleton,aZ,Nat.reduceEqDiff,reduceIte]
 rw[Hj (xs:=l++List.replicate k cv) (hA _)]
 try simp only[aZ,Nat.reduceEqDiff,reduceIte]
 rw[dH _ (by simp;omega) (by simp;omega)];refine .done (hK _ ?_);clear hK K;try simp only[cO]
 have hgt:decide ((((l++List.replicate k cv).length-0:Nat):Int)<(l.length:Int)+((1:Nat):Int))=decide (k=0):=by
  by_cases hk:k=0 <;>simp[hk] <;>omega
 simp only[hgt];by_cases hk:k=0
 ·subst hk;refine U.gA ?_;simp only[aB,aZ,Nat.reduceEqDiff,reduceIte];refine ⟨fun h =>?_,fun h =>?_⟩
  ·have htot0:((l++List.replicate 0 cv).map (enc (α:=ai))).length=l.length:=by simp
   refine .dK (by decide +kernel) fun K hK =>?_;simp only[z6,aZ,Nat.reduceEqDiff,reduceIte]
   try simp only[hU,htot0,X6,Dz (show i≤l.length by omega) hl0,kG,Ur,aZ,Nat.reduceEqDiff,reduceIte]
   rw[dH ((l.length:Int)+((1:Nat):Int)) (by omega) (by omega),dH ((l.length:Int)+((1:Nat):Int)-i) (by omega) (by omega)];have hm:(l.length:Int)+((1:Nat):Int)-i=((l.length+1-i:Nat):Int):=by omega
   rw[hm];refine aX.Fw (esz:=8) cv rfl (xs:=l++List.replicate 0 cv) (hA _) (by simp;omega) (by omega) (by simp;omega) (hN _ 40 (by decide)) (by omega) (by simp only[maxLen];omega) fun q =>?_;obtain ⟨xs,hxs⟩:∃ xs,xs=l.take i++(List.replicate (l.length+1-i) cv++List.replicate q cv):=⟨_,rfl⟩
   have hxs':(l++List.replicate 0 cv).take i++(List.replicate (l.length+1-i) cv++List.replicate q cv)=xs:=by rw[hxs,List.take_append_of_le_length (by omega)]
   have hxl:xs.length=l.length+1+q:=by rw[hxs];simp;omega
   have hle:i+(l.length+1-i)=l.length+1:=by omega
   rw[hxs',hle]
   try simp only[aZ,Nat.reduceEqDiff,reduceIte]
   refine .done (hK _ ?_);clear hK K;have hxm:(xs.map (enc (α:=ai))).length=l.length+1+q:=by rw[Z2];exact hxl
   have hA2:∀ ts,(aw ts [(40,.box (.agg (xs.map (enc (α:=ai))))),(1000000,.box (.agg ((l++List.replicate 0 cv).map (enc (α:=ai)))))]).o 40=some (.box (.agg (xs.map enc))):=fun _=>rfl;refine .dK (by decide +kernel) fun K hK =>?_;simp only[zR,aZ,Nat.reduceEqDiff,reduceIte]
   try simp only[hU,hxm,X6,lR (show i≤l.length+1 by omega) (show l.length+1≤l.length+1+q by omega) (show i<l.length+1+q by omega),lI,aZ,Nat.reduceEqDiff,reduceIte]
   rw[DE,nu (xs:=xs) (c:=1) (hA2 _) (by omega) (by simp;omega)];obtain ⟨ys,hys⟩:∃ ys,ys=xs.take i++([g].take 1++xs.drop (i+1)):=⟨_,rfl⟩
   have hyl:ys.length=l.length+1+q:=by rw[hys];simp;omega
   rw[←hys]
   try simp only[aZ]
   refine .done (hK _ ?_);clear hK K;have hym:(ys.map (enc (α:=ai))).length=l.length+1+q:=by rw[Z2];exact hyl
   have hA3:∀ ts z,(aw ts [(40,.box (.agg (ys.map (enc (α:=ai))))),(40,z),(1000000,.box (.agg ((l++List.replicate 0 cv).map (enc (α:=ai)))))]).o 40=some (.box (.agg (ys.map enc))):=fun _ _=>rfl;have hA4:∀ ts z,(aw ts [(40,.box (.agg (ys.map (enc (α:=ai))))),(40,z),(1000000,.box (.agg ((l++List.replicate 0 cv).map (enc (α:=ai)))))]).o 1000000=some (.box (.agg ((l++List.replicate 0 cv).map enc))):=fun _ _=>rfl;refine .dK (by decide +kernel) fun K hK =>?_;simp only[zS,aZ,Nat.reduceEqDiff,reduceIte];rw[dH ((i:Int)+((1:Nat):Int)) (by omega) (by omega)];have hi1:(i:Int)+((1:Nat):Int)=((i+1:Nat):Int):=by omega
   try simp only[hU,hym,htot0,hi1,X6,Z7,lR (show i+1≤l.length+1 by omega) (show l.length+1≤l.length+1+q by omega) (show i+1<l.length+1+q by omega),lR (show i≤l.length by omega) (Z5 l.length) hlt,lI,aZ,Nat.reduceEqDiff,reduceIte]
   have hd1:l.length+1-(i+1)=l.length-i:=by omega
   rw[hd1,DF (xs:=l++List.replicate 0 cv) (hA4 _ _) (by simp;omega),nu (xs:=ys) (c:=l.length-i) (hA3 _ _) (by omega) (by simp)];rw[TW l i q g hlt xs hxs ys hys]
   try simp only[aZ]
   refine .done (hK _ ?_);clear hK K;refine .dK (by decide +kernel) fun K hK =>?_;simp only[zT,aZ,Nat.reduceEqDiff,reduceIte];refine .done (hK _ ?_);clear hK K;refine U.ret ?_;simp only[cO,jH];exact ⟨eN 40 (fP l i g) q++eN 1000000 l 0,[.view 40 [] 8 0 (l.length+1)],Am rfl (fun p=>fR p _) rfl (fun p=>fR p _),⟨⟨_,rfl,.inl ⟨rfl,rfl,rfl⟩⟩,trivial⟩,.inr ⟨40,q,.inr rfl,rfl,rfl⟩⟩
  ·simp at h
 ·refine U.gA ?_;simp only[aB,aZ,Nat.reduceEqDiff,reduceIte];refine ⟨fun h =>?_,fun h =>?_⟩
  ·simp at h;omega
  refine U.skip ?_;try simp only[cO]
  have hk1:1≤k:=by omega
  have hn1:(l.length:Int)+((1:Nat):Int)=((l.length+1:Nat):Int):=by omega
  refine .dK (by decide +kernel) fun K hK =>?_;simp only[zU,aZ,Nat.reduceEqDiff,reduceIte];rw[dH ((l.length:Int)+((1:Nat):Int)) (by omega) (by omega)]
  try simp only[hU,htot,hn1,X6,Dz (show l.length+1≤l.length+k by omega) (show 0<l.length+k by omega),aZ,Nat.reduceEqDiff,reduceIte]
  refine .done (hK _ ?_);clear hK K;have hi1:(i:Int)+((1:Nat):Int)=((i+1:Nat):Int):=by omega
  have hd1:l.length+1-(i+1)=l.length-i:=by omega
  refine U.seq (U.seq ?_);refine .gV (by decide +kernel) fun K hK =>?_;simp only[zV,aZ,Nat.reduceEqDiff,reduceIte];rw[dH ((i:Int)+((1:Nat):Int)) (by omega) (by omega)]
  try simp only[hU,htot,hi1,hd1,X6,lR (show i+1≤l.length+1 by omega) (show l.length+1≤l.length+k by omega) (show i+1<l.length+k by omega),U6,aZ,Nat.reduceEqDiff,reduceIte]
  refine .ext (.bool false) rfl (Xb (tS:=23) (tR:=4) (e:=50) Tryz.func143 (by kernel_rfl) (by kernel_rfl) (by kernel_rfl) (by kernel_rfl) (by kernel_rfl) (by kernel_rfl) (hA _) rfl ?_ (by decide) (K5 (by intro h;have:=congrArg List.length h;rw[Z1,List.length_replicate,X9] at this;omega) rfl)) ?_
  ·show I.sizes ((l++List.replicate k cv).map enc)≠0
   rw[I.fV (sz:=8) _ (fun e he=>by obtain ⟨x,_,rfl⟩:=X1.1 he;rw[kH];rfl)];rw[htot];omega
  try simp only[aZ,Nat.reduceEqDiff,reduceIte]
  refine .done (hK _ ?_);clear hK K;try simp only[cO]
  refine U.gA ?_;simp only[aB,aZ,Nat.reduceEqDiff,reduceIte];refine ⟨fun h =>?_,fun h =>?_⟩
  case neg.refine_2.refine_2.refine_2=>cases h
  have hd2:l.length+1-i=l.length+1-i:=rfl;obtain ⟨xs,hxs⟩:∃ xs,xs=l++List.replicate k cv:=⟨_,rfl⟩
  have hxl:xs.length=l.length+k:=by rw[hxs];simp
  have hxm:(xs.map (enc (α:=ai))).length=l.length+k:=by rw[Z2];exact hxl
  rw[←hxs];have hB:∀ ts,(aw ts [(1000000,.box (.agg (xs.map (enc (α:=ai)))))]).o 1000000=some (.box (.agg (xs.map enc))):=fun _=>rfl;refine .dK (by decide +kernel) fun K hK =>?_;simp only[zW,aZ,Nat.reduceEqDiff,reduceIte];rw[dH ((i:Int)+((1:Nat):Int)) (by omega) (by omega)]
  try simp only[hU,hxm,hi1,hd1,X6,Z7,lR (show i+1≤l.length+1 by omega) (show l.length+1≤l.length+k by omega) (show i+1<l.length+k by omega),lR (show i≤l.length+1 by omega) (show l.length+1≤l.length+k by omega) (show i<l.length+k by omega),lI,aZ,Nat.reduceEqDiff,reduceIte]
  rw[DF (xs:=xs) (hB _) (by omega),nu (xs:=xs) (c:=l.length-i) (hB _) (by omega) (by simp;omega)];obtain ⟨ys,hys⟩:∃ ys,ys=xs.take (i+1)++(((xs.drop i).take (l.length+1-i)).take (l.length-i)++xs.drop (i+1+(l.length-i))):=⟨_,rfl⟩
  have hyl:ys.length=l.length+k:=by rw[hys];simp;omega
  have hym:(ys.map (enc (α:=ai))).length=l.length+k:=by rw[Z2];exact hyl
  rw[←hys]
  try simp only[aZ]
  refine .done (hK _ ?_);clear hK K;have hC:∀ ts z,(aw ts [(1000000,.box (.agg (ys.map (enc (α:=ai))))),(1000000,z)]).o 1000000=some (.box (.agg (ys.map enc))):=fun _ _=>rfl;refine .dK (by decide +kernel) fun K hK =>?_;simp only[zX,aZ,Nat.reduceEqDiff,reduceIte]
  try simp only[hU,hym,X6,lR (show i≤l.length+1 by omega) (show l.length+1≤l.length+k by omega) (show i<l.length+k by omega),lI,aZ,Nat.reduceEqDiff,reduceIte]
  rw[DE,nu (xs:=ys) (c:=1) (hC _ _) (by omega) (by simp;omega)];rw[TV l i k g hlt hk1 xs hxs ys hys]
  try simp only[aZ]
  refine .done (hK _ ?_);clear hK K;refine .dK (by decide +kernel) fun K hK =>?_;simp only[zY,aZ,Nat.reduceEqDiff,reduceIte];refine .done (hK _ ?_);clear hK K;refine U.ret ?_;simp only[cO,jH];exact ⟨eN 1000000 (fP l i g) (k-1),[.view 1000000 [] 8 0 (l.length+1)],nG rfl (fun p=>fR p _),⟨⟨_,rfl,.inl ⟨rfl,rfl,rfl⟩⟩,trivial⟩,.inl ⟨k-1,rfl,rfl⟩⟩
def ga(a b:Int):Int:=if a<b then -1 else if a>b then 1 else 0
def lA(a b:Item):Int:=if ga a.bf b.bf≠0 then ga a.bf b.bf else ga a.no b.no
def eP(a b:Item):Bool:=decide (a.bf<b.bf∨(a.bf=b.bf∧a.no<b.no))
theorem yW(a b:Int):(a<b∧ga a b=-1)∨(a=b∧ga a b=0)∨(b<a∧ga a b=1):=by
 simp only[ga]
 (repeat' split) <;>omega
theorem yX(a b:Item):(eP a b=true∧lA a b=-1)∨(a=b∧lA a b=0)∨(eP b a=true∧lA a b=1):=by
 obtain ⟨m,n⟩:=a;obtain ⟨m',n'⟩:=b;simp only[lA,eP,decide_eq_true_eq,Item.mk.injEq];rcases yW m m' with ⟨h,e⟩ | ⟨h,e⟩ | ⟨h,e⟩ <;>rw[e]
 ·simp;omega
 ·rcases yW n n' with ⟨h2,e2⟩ | ⟨h2,e2⟩ | ⟨h2,e2⟩ <;>rw[e2] <;>simp <;>omega
 ·simp;omega
theorem oM(a:Item):eP a a=false:=by simp only[eP,decide_eq_false_iff_not];omega
theorem tK{a b c:Item}(h:eP a b=true)(k:eP b c=true):eP a c=true:=by
 simp only[eP,decide_eq_true_eq] at *;omega
theorem Iu(a b:Item):decide (lA a b<0)=eP a b:=by
 rcases yX a b with ⟨h,e⟩ | ⟨rfl,e⟩ | ⟨h,e⟩
 ·rw[e,h];rfl
 ·rw[e,oM];rfl
 ·rw[e];cases k:eP a b
  ·rfl
  ·have:=tK k h;rw[oM] at this;cases this
theorem Iv(a b:Item):(lA a b==0)=decide (a=b):=by
 rcases yX a b with ⟨h,e⟩ | ⟨rfl,e⟩ | ⟨h,e⟩
 ·rw[e,decide_eq_false (fun k=>by rw[k,oM] at h;cases h)];rfl
 ·rw[e];simp
 ·rw[e,decide_eq_false (fun k=>by rw[k,oM] at h;cases h)];rfl
theorem w0(n:Int):aR Tryz.prog 175 [enc n] (enc false):=by
 refine aR.bO Tryz.func175 GB HI IX (t8 rfl) (fun hwf W0 bF E1 =>?_);simp only[c175,Cg,bC];clear hwf;have q:(n != n)=false:=by simp
 have R:=y6 @q aH
 repeat' ((first |refine U.aL (by decide +kernel) rfl fun K hK =>?_|(refine .aI [0,2] hK ?_;clear hK K)|(with_reducible refine .done (hK _ ?_);clear hK K)|refine U.of rfl ?_|(with_reducible refine aB.aJ (fun h =>?_) (fun h =>?_) <;>try simp only[h])) <;>try simp only[aM,R,simprocAttr])
 all_goals clear R
 all_goals rfl
theorem wZ(a b:Int):aR Tryz.prog 161 [enc a,enc b] (enc (ga a b)):=by
 refine aR.bO Tryz.func161 GA HF IV (t8 rfl) (fun hwf W0 bF E1 =>?_);simp only[xZ,Ce,bC,Z8];clear hwf;have f1:=w0 a;have f2:=w0 b;simp only[ga];cases q1:decide (a<b)
 ·rw[if_neg (of_decide_eq_false q1)];cases q2:decide (a>b)
  ·rw[if_neg (of_decide_eq_false q2)];have R:=y6 @q1 (y6 @q2 aH)
   repeat' ((first |refine U.aL (by decide +kernel) rfl fun K hK =>?_|refine .flat _ (f1) rfl ?_|refine .flat _ (f2) rfl ?_|(refine .aI [0,1,4,5,6,11,12,13,16,19] hK ?_;clear hK K)|(with_reducible refine .done (hK _ ?_);clear hK K)|refine U.of rfl ?_|(with_reducible refine aB.aJ (fun h =>?_) (fun h =>?_) <;>try simp only[h])) <;>try simp only[aM,R,simprocAttr])
   all_goals clear R
   all_goals rfl
  ·rw[if_pos (of_decide_eq_true q2)];have R:=y6 @q1 (y6 @q2 aH)
   repeat' ((first |refine U.aL (by decide +kernel) rfl fun K hK =>?_|refine .flat _ (f1) rfl ?_|refine .flat _ (f2) rfl ?_|(refine .aI [0,1,4,5,6,11,12,13,16,19] hK ?_;clear hK K)|(with_reducible refine .done (hK _ ?_);clear hK K)|refine U.of rfl ?_|(with_reducible refine aB.aJ (fun h =>?_) (fun h =>?_) <;>try simp only[h])) <;>try simp only[aM,R,simprocAttr])
   all_goals clear R
   all_goals rfl
 ·rw[if_pos (of_decide_eq_true q1)];have R:=y6 @q1 aH
  repeat' ((first |refine U.aL (by decide +kernel) rfl fun K hK =>?_|refine .flat _ (f1) rfl ?_|refine .flat _ (f2) rfl ?_|(refine .aI [0,1,4,5,6,11,12,13,16,19] hK ?_;clear hK K)|(with_reducible refine .done (hK _ ?_);clear hK K)|refine U.of rfl ?_|(with_reducible refine aB.aJ (fun h =>?_) (fun h =>?_) <;>try simp only[h])) <;>try simp only[aM,R,simprocAttr])
  all_goals clear R
  all_goals rfl
theorem Ey(a b:Int):aR Tryz.prog 160 [enc [a,b]] (enc (if a≠0 then a else b)):=by
 refine aR.bO Tryz.func160 Gz HE IU (t8 rfl) (fun hwf W0 bF E1 =>?_);simp only[xY,Cd,bC];clear hwf;have h0:∀ A,iX A 1 ((0:Nat):Int) (enc [a,b])=some (.ref (enc a)):=fun A=>gP (A:=A) (l:=[a,b]) (k:=0) 1 (by simp) rfl;have h1:∀ A,iX A 1 ((1:Nat):Int) (enc [a,b])=some (.ref (enc b)):=fun A=>gP (A:=A) (l:=[a,b]) (k:=1) 1 (by simp) rfl;have hl:([a,b]:List Int).length=2:=rfl;obtain ⟨l,hll⟩:∃ l,l=[a,b]:=⟨_,rfl⟩
 rw[←hll] at h0 h1 hl ⊢;have R:=aH
 repeat' ((first |refine U.aL (by decide +kernel) rfl fun K hK =>?_|(refine .aI [0,2,3,5,6,7,8,9,14] hK ?_;clear hK K)|(with_reducible refine .done (hK _ ?_);clear hK K)|refine U.of rfl ?_|(with_reducible refine aB.aJ (fun h =>?_) (fun h =>?_) <;>try simp only[h])) <;>try simp only[aM,R,simprocAttr])
 all_goals clear R
 refine U.loop (fun i:Nat=>aw [(0,enc l),(3,.int .i64 0),(6,enc l),(7,.int .i64 (l.length:Int)),(8,.int .i64 (i:Int))] []) (fun i=>i≤2∧(0<i→a=0)∧(1<i→b=0)) (fun i=>2-i) 0 ⟨by omega,by omega,by omega⟩ ?_ ?_
 ·refine bG.df ?_ ?_ ?_ ?_ <;>simp[cG,cN,cL,cg,cF,I.only,bN]
  all_goals rfl
 rintro i ⟨hi,k0,k1⟩;have hw:=fj (i:=i) (by omega);by_cases e0:i=0
 ·have hc:=gj (show i<l.length by omega);have he:∀ A,iX A 1 (i:Int) (enc l)=some (.ref (enc a)):=fun A=>by rw[e0];exact h0 A
  cases q:(a != 0)
  ·have R:=y6 @hc (y6 @he (y6 @q (y6 @hw aH)))
   repeat' ((first |refine U.aL (by decide +kernel) rfl fun K hK =>?_|(refine .aI [0,2,3,5,6,7,8,9,14] hK ?_;clear hK K)|(with_reducible refine .done (hK _ ?_);clear hK K)|refine U.of rfl ?_|(with_reducible refine aB.aJ (fun h =>?_) (fun h =>?_) <;>try simp only[h])) <;>try simp only[aM,R,simprocAttr])
   all_goals clear R
   refine ⟨i+1,⟨by omega,fun _=>by simpa using q,by omega⟩,by omega,?_⟩;refine bG.df ?_ ?_ ?_ ?_ <;>simp[cG,cN,cL,cg,cF,I.only,bN]
   all_goals rfl
  ·have ha:a≠0:=by simpa using q
   rw[if_pos ha];have R:=y6 @hc (y6 @he (y6 @q (y6 @hw aH)))
   repeat' ((first |refine U.aL (by decide +kernel) rfl fun K hK =>?_|(refine .aI [0,2,3,5,6,7,8,9,14] hK ?_;clear hK K)|(with_reducible refine .done (hK _ ?_);clear hK K)|refine U.of rfl ?_|(with_reducible refine aB.aJ (fun h =>?_) (fun h =>?_) <;>try simp only[h])) <;>try simp only[aM,R,simprocAttr])
   all_goals clear R
   all_goals rfl
 have ha:¬ a≠0:=fun h=>h (k0 (by omega));by_cases e1:i=1
 ·have hc:=gj (show i<l.length by omega);have he:∀ A,iX A 1 (i:Int) (enc l)=some (.ref (enc b)):=fun A=>by rw[e1];exact h1 A
  cases q:(b != 0)
  ·have R:=y6 @hc (y6 @he (y6 @q (y6 @hw aH)))
   repeat' ((first |refine U.aL (by decide +kernel) rfl fun K hK =>?_|(refine .aI [0,2,3,5,6,7,8,9,14] hK ?_;clear hK K)|(with_reducible refine .done (hK _ ?_);clear hK K)|refine U.of rfl ?_|(with_reducible refine aB.aJ (fun h =>?_) (fun h =>?_) <;>try simp only[h])) <;>try simp only[aM,R,simprocAttr])
   all_goals clear R
   refine ⟨i+1,⟨by omega,fun _=>k0 (by omega),fun _=>by simpa using q⟩,by omega,?_⟩;refine bG.df ?_ ?_ ?_ ?_ <;>simp[cG,cN,cL,cg,cF,I.only,bN]
   all_goals rfl
  ·rw[if_neg ha];have R:=y6 @hc (y6 @he (y6 @q (y6 @hw aH)))
   repeat' ((first |refine U.aL (by decide +kernel) rfl fun K hK =>?_|(refine .aI [0,2,3,5,6,7,8,9,14] hK ?_;clear hK K)|(with_reducible refine .done (hK _ ?_);clear hK K)|refine U.of rfl ?_|(with_reducible refine aB.aJ (fun h =>?_) (fun h =>?_) <;>try simp only[h])) <;>try simp only[aM,R,simprocAttr])
   all_goals clear R
   all_goals rfl
 have hc:=gO (show ¬ i<l.length by omega);rw[if_neg ha,k1 (by omega)];have R:=y6 @hc aH
 repeat' ((first |refine U.aL (by decide +kernel) rfl fun K hK =>?_|(refine .aI [0,2,3,5,6,7,8,9,14] hK ?_;clear hK K)|(with_reducible refine .done (hK _ ?_);clear hK K)|refine U.of rfl ?_|(with_reducible refine aB.aJ (fun h =>?_) (fun h =>?_) <;>try simp only[h])) <;>try simp only[aM,R,simprocAttr])
 all_goals clear R
 all_goals rfl
theorem Et(a b:Item):aR Tryz.prog 140 [enc a,enc b] (enc (lA a b)):=by
 refine aR.bO Tryz.func140 Gt HA IP (t8 rfl) (fun hwf W0 bF E1 =>?_);simp only[xU,B9,bC,Z8];clear hwf;have f1:=wZ a.bf b.bf;have f2:=wZ a.no b.no;have f3:=Ey (ga a.bf b.bf) (ga a.no b.no);have hbs:gK 1 (some [.int .i64 (ga a.bf b.bf),.int .i64 (ga a.no b.no)])=some (enc [ga a.bf b.bf,ga a.no b.no]):=xC (ys:=[ga a.bf b.bf,ga a.no b.no]) 1 rfl;have R:=y6 @hbs aH
 repeat' ((first |refine U.aL (by decide +kernel) rfl fun K hK =>?_|refine .flat _ (f1) rfl ?_|refine .flat _ (f2) rfl ?_|refine .flat _ (f3) rfl ?_|(refine .aI [0,1,2,3,4] hK ?_;clear hK K)|(with_reducible refine .done (hK _ ?_);clear hK K)|refine U.of rfl ?_|(with_reducible refine aB.aJ (fun h =>?_) (fun h =>?_) <;>try simp only[h])) <;>try simp only[aM,R,simprocAttr])
 all_goals clear R
 all_goals rfl
theorem wV(x:ai)(a:Item):aR Tryz.prog 139 [enc x,enc a] (enc (lA x.bz a)):=by
 refine aR.bO Tryz.func139 Gr Hy IM (t8 rfl) (fun hwf W0 bF E1 =>?_);simp only[xS,B7,bC,Z8];clear hwf;have R:=aH
 repeat' ((first |refine U.aL (by decide +kernel) rfl fun K hK =>?_|refine .flat _ (Et x.bz a) rfl ?_|(refine .aI [0,1,2,3,4] hK ?_;clear hK K)|(with_reducible refine .done (hK _ ?_);clear hK K)|refine U.of rfl ?_|(with_reducible refine aB.aJ (fun h =>?_) (fun h =>?_) <;>try simp only[h])) <;>try simp only[aM,R,simprocAttr])
 all_goals clear R
 all_goals rfl
theorem W8(x y:Nat)(h:x+y<9223372036854775807):IntKind.i64.wrap ((x:Int)+(y:Int))=((x+y:Nat):Int):=by rw[dH _ (by omega) (by omega)];omega
theorem W9{n:Nat}(h:n≤9223372036854775807):IntKind.i64.wrap (n:Int)=(n:Int):=dH _ (by omega) (by omega)
theorem vf(x:Nat):Int.fdiv (x:Int) (2^min (Int.toNat 1) IntKind.u64.bits)=((x / 2:Nat):Int):=by
 have:min (Int.toNat 1) IntKind.u64.bits=1:=rfl;rw[this]
 show Int.fdiv (x:Int) 2=_
 rw[Int.fdiv_eq_ediv_of_nonneg _ (by decide)];rfl
theorem A2(x:Nat):Int.fdiv (x:Int) (2^min 1 IntKind.u64.bits)=((x / 2:Nat):Int):=vf x
theorem T9{x:Nat}(h:x<9223372036854775807):IntKind.u64.wrap (x:Int)=(x:Int):=by
 simp only[IntKind.wrap,IntKind.bits,IntKind.signed];simp;omega
theorem A1:((0:Int)≤1)=True:=by simp
abbrev oG(l:List ai):Prop:=l.Pairwise fun a b=>nm a b=true
def fy(l:List ai)(a:Item):Nat:=l.findIdx fun x => !eP x.bz a
def jZ(l:List ai)(a:Item):Bool:=l.any fun x=>decide (x.bz=a)
theorem Vw(l:List ai)(a:Item):fy l a≤l.length:=List.findIdx_le_length
theorem wo{l:List ai}(h:oG l){i j:Nat}(hij:i<j)(hj:j<l.length):eP (l[i]'(by omega)).bz l[j].bz=true:=List.pairwise_iff_getElem.1 h i j (by omega) hj hij
theorem BK{l:List ai}{a:Item}{i:Nat}(hi:i≤l.length)(h1:∀ k (h:k<l.length),k<i→eP l[k].bz a=true)(h2:∀ h:i<l.length,eP l[i].bz a=false):fy l a=i:=by
 simp only[fy];by_cases hlt:i<l.length
 ·refine (List.findIdx_eq hlt).2 ⟨by rw[h2 hlt];rfl,fun j hj =>?_⟩;rw[h1 j (by omega) hj];rfl
 ·have e:i=l.length:=by omega
  rw[e];refine List.findIdx_eq_length.2 fun x hx =>?_;obtain ⟨k,hk,rfl⟩:=List.getElem_of_mem hx;rw[h1 k hk (by omega)];rfl
theorem Ak{l:List ai}(hs:oG l)(a:Item):jZ l a=true↔∃ h:fy l a<l.length,(l[fy l a]).bz=a:=by
 constructor
 ·intro h;simp only[jZ,List.any_eq_true,decide_eq_true_eq] at h;obtain ⟨x,hx,rfl⟩:=h;obtain ⟨k,hk,rfl⟩:=List.getElem_of_mem hx;have h1:fy l l[k].bz=k:=BK (by omega) (fun j hj hjk=>wo hs hjk hk) (fun _=>oM _);exact ⟨by omega,by simp only[h1]⟩
 ·rintro ⟨h1,h2⟩;simp only[jZ,List.any_eq_true,decide_eq_true_eq];exact ⟨_,List.getElem_mem h1,h2⟩
theorem Es(l:List ai)(a:Item)(hs:oG l)(hl:l.length≤1000):aR Tryz.prog 138 [enc l,enc a,.func 139 []] (.tuple [enc (fy l a:Int),enc (jZ l a)]):=by
 refine aR.bO Tryz.func138 Gq Hx IL (t8 rfl) (fun hwf W0 bF E1 =>?_);simp only[xR,B6,bC,Z8,Nat.reduceAdd];clear hwf;have R:=aH
 repeat' ((first |(with_reducible refine .guard (fun hb =>?_) (fun hb =>?_) <;>try simp only[hb])|refine U.aL (by decide +kernel) rfl fun K hK =>?_|(refine .aI [0,1,2,4,6,7,8,9,10,11,17,31] hK ?_;clear hK K)|(with_reducible refine .done (hK _ ?_);clear hK K)|refine U.of rfl ?_|(with_reducible refine aB.aJ (fun h =>?_) (fun h =>?_) <;>try simp only[h])) <;>try simp only[aM,R,simprocAttr])
 all_goals clear R
 refine U.loop (fun s:Nat×Nat=>aw [(0,enc l),(2,.func 139 []),(4,.ptr 4 []),(8,.int .i64 l.length),(9,.int .i64 s.1),(10,.int .i64 s.2)] [(4,.box (enc a))]) (fun s=>s.1≤s.2∧s.2≤l.length∧(∀ k (h:k<l.length),k<s.1→eP l[k].bz a=true)∧∀ k (h:k<l.length),s.2≤k→eP l[k].bz a=false) (fun s=>s.2-s.1) (0,l.length) ⟨Nat.zero_le _,Z5 _,fun k _ hk=>by omega,fun k h1 h2=>by simp only at h2;omega⟩ ?_ ?_
 ·refine bG.df ?_ ?_ ?_ ?_ <;>simp[cG,cN,cL,cg,aC,cF,eB,I.only,I.cD,ah.only,bN]
  all_goals rfl
 rintro ⟨i,j⟩ ⟨h1,h2,h3,h4⟩;simp only at h1 h2 h3 h4 ⊢;by_cases hlt:i<j
 ·have hc:=gj hlt;have w1:=W8 i j (by omega);have w2:=T9 (x:=i+j) (by omega);obtain ⟨h,hh⟩:∃ h,h=(i+j) / 2:=⟨_,rfl⟩
  have w5:=W9 (n:=h) (by omega);have hhl:h<l.length:=by omega
  have he:=fun A=>gP (A:=A) 8 hhl rfl;have hn:=Iu l[h].bz a;have hw:=fj (i:=h) (by omega);have f139:=wV l[h] a;rcases hb:eP l[h].bz a
  ·rw[hb] at hn;have hlo:∀ k (h':k<l.length),h≤k→eP l[k].bz a=false:=fun k hkl hk=>by
    cases hbk:eP l[k].bz a with
    |false=>rfl
    |true =>
     by_cases e:k=h
     ·subst e;rw[hb] at hbk;cases hbk
     ·have:=tK (wo hs (show h<k by omega) hkl) hbk;rw[this] at hb;cases hb
   clear hb;generalize l[h]=r at *;have R:=y6 @hc (y6 @w1 (y6 @w2 (y6 @w5 (y6 @he (y6 @hn (y6 @hw (y6 @A2 (y6 @vf (y6 @A1 (y6 @jV aH))))))))))
   repeat' ((first |(with_reducible refine .guard (fun hb =>?_) (fun hb =>?_) <;>try simp only[hb])|refine U.aL (by decide +kernel) rfl fun K hK =>?_|refine .flat _ (f139) rfl ?_|(refine .aI [0,1,2,4,6,7,8,9,10,11,17,31] hK ?_;clear hK K)|(with_reducible refine .done (hK _ ?_);clear hK K)|refine U.of rfl ?_|(with_reducible refine aB.aJ (fun h =>?_) (fun h =>?_) <;>try simp only[h])) <;>try simp only[aM,R,←hh,Y3,simprocAttr])
   all_goals clear R
   refine ⟨(i,h),⟨by simp only;omega,by simp only;omega,h3,hlo⟩,by simp only;omega,?_⟩;clear hlo;refine bG.df ?_ ?_ ?_ ?_ <;>simp[cG,cN,cL,cg,aC,cF,eB,I.only,I.cD,ah.only,bN]
   all_goals rfl
  ·rw[hb] at hn;have hhi:∀ k (h':k<l.length),k<h+1→eP l[k].bz a=true:=fun k hkl hk=>by
    by_cases e:k=h
    ·subst e;exact hb
    ·cases hbk:eP l[k].bz a with
     |true=>rfl
     |false =>
      have:=tK (wo hs (show k<h by omega) hhl) hb;rw[this] at hbk;cases hbk
   clear hb;generalize l[h]=r at *;have R:=y6 @hc (y6 @w1 (y6 @w2 (y6 @w5 (y6 @he (y6 @hn (y6 @hw (y6 @A2 (y6 @vf (y6 @A1 (y6 @jV aH))))))))))
   repeat' ((first |(with_reducible refine .guard (fun hb =>?_) (fun hb =>?_) <;>try simp only[hb])|refine U.aL (by decide +kernel) rfl fun K hK =>?_|refine .flat _ (f139) rfl ?_|(refine .aI [0,1,2,4,6,7,8,9,10,11,17,31] hK ?_;clear hK K)|(with_reducible refine .done (hK _ ?_);clear hK K)|refine U.of rfl ?_|(with_reducible refine aB.aJ (fun h =>?_) (fun h =>?_) <;>try simp only[h])) <;>try simp only[aM,R,←hh,Y3,simprocAttr])
   all_goals clear R
   refine ⟨(h+1,j),⟨by simp only;omega,h2,hhi,h4⟩,by simp only;omega,?_⟩;clear hhi;refine bG.df ?_ ?_ ?_ ?_ <;>simp[cG,cN,cL,cg,aC,cF,eB,I.only,I.cD,ah.only,bN]
   all_goals rfl
 ·have hij:i=j:=by omega
  subst hij;have hc:=gO hlt;have hp:fy l a=i:=BK h2 h3 fun h=>h4 i h (Z5 _);have hh:=Ak hs a;rw[hp];by_cases hil:i<l.length
  ·have hc2:=gj hil;have he:=fun A=>gP (A:=A) 8 hil rfl;have hz:=Iv l[i].bz a;have hhz:jZ l a=decide (l[i].bz=a):=by
    rw[Bool.eq_iff_iff,hh,decide_eq_true_eq];constructor
    ·rintro ⟨_,e⟩;simp only[hp] at e;exact e
    ·intro e;exact ⟨by omega,by simp only[hp];exact e⟩
   have f139:=wV l[i] a;rw[hhz];clear hhz h3 h4;generalize l[i]=r at *;have R:=y6 @hc (y6 @hc2 (y6 @he (y6 @hz (y6 @jV aH))))
   repeat' ((first |(with_reducible refine .guard (fun hb =>?_) (fun hb =>?_) <;>try simp only[hb])|refine U.aL (by decide +kernel) rfl fun K hK =>?_|refine .flat _ (f139) rfl ?_|(refine .aI [0,1,2,4,6,7,8,9,10,11,17,31] hK ?_;clear hK K)|(with_reducible refine .done (hK _ ?_);clear hK K)|refine U.of rfl ?_|(with_reducible refine aB.aJ (fun h =>?_) (fun h =>?_) <;>try simp only[h])) <;>try simp only[aM,R,Y3,simprocAttr])
   all_goals clear R
   all_goals rfl
  ·have hc2:=gO hil;have hhz:jZ l a=false:=by
    cases q:jZ l a
    ·rfl
    ·obtain ⟨h,_⟩:=hh.1 q;omega
   rw[hhz];have R:=y6 @hc (y6 @hc2 aH)
   repeat' ((first |(with_reducible refine .guard (fun hb =>?_) (fun hb =>?_) <;>try simp only[hb])|refine U.aL (by decide +kernel) rfl fun K hK =>?_|(refine .aI [0,1,2,4,6,7,8,9,10,11,17,31] hK ?_;clear hK K)|(with_reducible refine .done (hK _ ?_);clear hK K)|refine U.of rfl ?_|(with_reducible refine aB.aJ (fun h =>?_) (fun h =>?_) <;>try simp only[h])) <;>try simp only[aM,R,simprocAttr])
   all_goals clear R
   all_goals rfl
theorem ER(l:List ai)(a:Item)(hs:oG l)(hl:l.length≤1000):aR Tryz.prog 94 [enc (⟨l⟩:iL),enc a] (.tuple [enc (fy l a:Int),enc (jZ l a)]):=by
 have hF:=Es l a hs hl;refine aR.bO Tryz.func94 Ha Ig Ju (t8 rfl) (fun hwf W0 bF E1 =>?_);simp only[yF,CM,bC,Z8];clear hwf;have R:=aH
 repeat' ((first |refine U.aL (by decide +kernel) rfl fun K hK =>?_|refine .lead _ (hF) ?_|(refine .aI [0,1,2,3,4,5] hK ?_;clear hK K)|(with_reducible refine .done (hK _ ?_);clear hK K)|refine U.of rfl ?_|(with_reducible refine aB.aJ (fun h =>?_) (fun h =>?_) <;>try simp only[h])) <;>try simp only[aM,R,simprocAttr])
 all_goals clear R
 all_goals rfl
def kO(x:ai):List ai→Nat→Int
 | [],_=>-1
 |r::l,i=>if x=r then (i:Int) else kO x l (i+1)
theorem Aq(x:ai):∀ (l:List ai) (i:Nat),decide (kO x l i≥0)=decide (x∈l)
 | [],i=>by simp[kO]
 |r::l,i=>by
  rw[kO];by_cases h:x=r
  ·rw[if_pos h];subst h;simp
  ·rw[if_neg h,Aq x l (i+1)];simp[h]
theorem Ew(l:List ai)(x:ai)(hl:l.length≤1000000000):aR Tryz.prog 159 [enc l,enc x] (enc (kO x l 0)):=by
 refine aR.bO Tryz.func159 Gy HD IT (t8 rfl) (fun hwf W0 bF E1 =>?_);simp only[xX,Cc,bC,Z8];clear hwf;have R:=aH
 repeat' ((first |refine U.aL (by decide +kernel) rfl fun K hK =>?_|(refine .aI [0,1,3,4,5,7,8,9,16] hK ?_;clear hK K)|(with_reducible refine .done (hK _ ?_);clear hK K)|refine U.of rfl ?_|(with_reducible refine aB.aJ (fun h =>?_) (fun h =>?_) <;>try simp only[h])) <;>try simp only[aM,R,simprocAttr])
 all_goals clear R
 refine U.loop (fun i:Nat=>aw [(0,enc l),(3,.ptr 3 []),(7,.int .i64 l.length),(8,.int .i64 i)] [(3,.box (enc x))]) (fun i=>i≤l.length∧kO x l 0=kO x (l.drop i) i) (fun i=>l.length-i) 0 ⟨Nat.zero_le _,by simp⟩ ?_ ?_
 ·refine bG.df ?_ ?_ ?_ ?_ <;>simp[cG,cN,cL,cg,aC,cF,eB,I.only,ah.only,bN]
  all_goals rfl
 rintro i ⟨hi,heq⟩;rw[heq];by_cases hlt:i<l.length
 ·have hlc:=gj hlt;have he:=fun A=>gP (A:=A) 8 hlt rfl;have hw:=fj (i:=i) (by omega);have hd:=List.drop_eq_getElem_cons hlt;rw[hd,kO] at heq ⊢;generalize l[i]=r at *;by_cases q:x=r
  ·rw[if_pos q];have q1:decide (x=r)=true:=decide_eq_true q;have R:=y6 @hlc (y6 @he (y6 @hw (y6 @q1 aH)))
   repeat' ((first |refine U.aL (by decide +kernel) rfl fun K hK =>?_|(refine .aI [0,1,3,4,5,7,8,9,16] hK ?_;clear hK K)|(with_reducible refine .done (hK _ ?_);clear hK K)|refine U.of rfl ?_|(with_reducible refine aB.aJ (fun h =>?_) (fun h =>?_) <;>try simp only[h])) <;>try simp only[aM,R,simprocAttr])
   all_goals clear R
   all_goals rfl
  ·rw[if_neg q] at heq ⊢;have q1:decide (x=r)=false:=decide_eq_false q;have R:=y6 @hlc (y6 @he (y6 @hw (y6 @q1 aH)))
   repeat' ((first |refine U.aL (by decide +kernel) rfl fun K hK =>?_|(refine .aI [0,1,3,4,5,7,8,9,16] hK ?_;clear hK K)|(with_reducible refine .done (hK _ ?_);clear hK K)|refine U.of rfl ?_|(with_reducible refine aB.aJ (fun h =>?_) (fun h =>?_) <;>try simp only[h])) <;>try simp only[aM,R,simprocAttr])
   all_goals clear R
   refine ⟨i+1,⟨by omega,rfl⟩,by omega,?_⟩;clear hd heq;refine bG.df ?_ ?_ ?_ ?_ <;>simp[cG,cN,cL,cg,aC,cF,eB,I.only,ah.only,bN]
   all_goals rfl
 ·have hlc:=gO hlt;rw[List.drop_eq_nil_of_le (by omega),kO];have R:=y6 @hlc aH
  repeat' ((first |refine U.aL (by decide +kernel) rfl fun K hK =>?_|(refine .aI [0,1,3,4,5,7,8,9,16] hK ?_;clear hK K)|(with_reducible refine .done (hK _ ?_);clear hK K)|refine U.of rfl ?_|(with_reducible refine aB.aJ (fun h =>?_) (fun h =>?_) <;>try simp only[h])) <;>try simp only[aM,R,simprocAttr])
  all_goals clear R
  all_goals rfl
theorem Ep(l:List ai)(x:ai)(hl:l.length≤1000000000):aR Tryz.prog 136 [enc l,enc x] (enc (decide (x∈l))):=by
 refine aR.bO Tryz.func136 Gn Hv IJ (t8 rfl) (fun hwf W0 bF E1 =>?_);simp only[xP,B4,bC,Z8];clear hwf;have f:=Ew l x hl;have h:=Aq x l 0;have R:=y6 @h aH
 repeat' ((first |refine U.aL (by decide +kernel) rfl fun K hK =>?_|refine .flat _ (f) rfl ?_|(refine .aI [0,1,3,4] hK ?_;clear hK K)|(with_reducible refine .done (hK _ ?_);clear hK K)|refine U.of rfl ?_|(with_reducible refine aB.aJ (fun h =>?_) (fun h =>?_) <;>try simp only[h])) <;>try simp only[aM,R,simprocAttr])
 all_goals clear R
 all_goals rfl
def gm(l:List ai):Item:=match l.getLast? with
 |none=>⟨-1,0⟩
 |some a=>a.bz
theorem WQ(l:List ai)(r:ai):jk l r=(decide (r.bz=⟨(gm l).bf,(gm l).no+1⟩)||(!decide (r.bf≤(gm l).bf) && !(r.no != 0))):=by
 have e:∀ p:Item,decide ((r.bf=p.bf∧r.no=p.no+1)∨(p.bf<r.bf∧r.no=0))=(decide (r.bz=⟨p.bf,p.no+1⟩)||(!decide (r.bf≤p.bf) && !(r.no != 0))):=fun p=>by
  rw[Bool.eq_iff_iff];simp[ai.bz]
 rcases h:l.getLast? with _ | a
 ·have h1:jk l r=decide ((r.bf=-1∧r.no=1)∨(-1<r.bf∧r.no=0)):=by rw[jk,h]
  have h2:gm l=⟨-1,0⟩:=by rw[gm,h]
  rw[h1,h2];exact e ⟨-1,0⟩
 ·have h1:jk l r=decide ((r.bf=a.bf∧r.no=a.no+1)∨(a.bf<r.bf∧r.no=0)):=by rw[jk,h]
  have h2:gm l=a.bz:=by rw[gm,h]
  rw[h1,h2];exact e a.bz
def np(l:List ai):Bool:=hZ (fun out r=>bg r&&jk out r) [] l&&decide (l.length≤60)
theorem Fb{aV:List ai→ai→Bool}{l:List ai}{i:Nat}(h:i<l.length):hZ aV (l.take i) (l.drop i)=(aV (l.take i) l[i]&&hZ aV (l.take (i+1)) (l.drop (i+1))):=by
 rw[List.drop_eq_getElem_cons h,hZ,←lq h]
theorem zl:I.agg [enc (⟨0,0⟩:Item),.int .i64 0,.int .i64 0,.int .i64 0,enc (⟨0,0⟩:Item),.aj ⟨#[]⟩]=enc (default:ai):=rfl
theorem DI:(∀ A n b rest (q r:Item),ep A (some 2) n [] b (enc q) rest (some (enc r))=ao rest (A.aP n (.box (enc q))))∧fA [.int .i64 0,.int .i64 0] [(0,.int .i64 (-1))]=some [.int .i64 (-1),.int .i64 0]∧I.agg [.int .i64 (-1),.int .i64 0]=enc (⟨-1,0⟩:Item) ∧
  (∀ (x:Item),(I.agg [.int .i64 x.bf,.int .i64 (x.no+1)])=enc (⟨x.bf,x.no+1⟩:Item)) :=
 ⟨fun A n b rest q r=>by rw[fh (eY _) (by rw[gM];rfl) ((eh _).trans (eh _).symm),fg],rfl,rfl,fun _=>rfl⟩
theorem Vz{l:List ai}{i:Nat}(h:i<l.length):gm (l.take (i+1))=l[i].bz:=by
 rw[gm,lq h,List.getLast?_concat]
theorem VA{l:List ai}(h:∀ r∈l,bg r=true):-1≤(gm l).bf∧(gm l).bf≤5∧0≤(gm l).no∧(gm l).no≤9999:=by
 rw[gm];cases e:l.getLast? with
 |none=>simp
 |some a =>
  have:=pI (pJ (h a (List.mem_of_getLast? e)));simp only[ai.bz];omega
theorem EP(l:List ai)(hl:l.length≤1000000000):aR Tryz.prog 92 [enc (⟨l⟩:iL)] (enc (np l)):=by
 refine aR.bO Tryz.func92 G9 If Jt (t8 rfl) (fun hwf W0 bF E1 =>?_);simp only[yE,CL,bC];clear hwf;have R:=aH
 repeat' ((first |(with_reducible refine .guard (fun hb =>?_) (fun hb =>?_) <;>try simp only[hb])|refine U.aL (by decide +kernel) rfl fun K hK =>?_|(refine .aI [0,1,2,3,4,5,7,8,9,10,16,19,49] hK ?_;clear hK K)|(with_reducible refine .done (hK _ ?_);clear hK K)|refine U.of rfl ?_|(with_reducible refine aB.aJ (fun h =>?_) (fun h =>?_) <;>try simp only[h])) <;>try simp only[aM,R,simprocAttr])
 all_goals clear R
 refine U.loop (fun i:Nat=>aw [(1,.ptr 1 []),(7,enc l),(8,.int .i64 l.length),(9,.int .i64 i)] [(1,.box (enc (⟨l⟩:iL)))]) (fun i=>i≤l.length∧(∀ r∈l.take i,bg r=true)∧np l=(hZ (fun out r=>bg r&&jk out r) (l.take i) (l.drop i)&&decide (l.length≤60))) (fun i=>l.length-i) 0 ⟨Nat.zero_le _,by simp,rfl⟩ ?_ ?_
 ·refine bG.df ?_ ?_ ?_ ?_ <;>simp[cG,cN,cL,cg,aC,cF,eB,I.only,ah.only,bN]
  all_goals rfl
 rintro i ⟨hi,hk,heq⟩;rw[heq];by_cases hlt:i<l.length
 ·have hlc:=gj hlt;have he:=fun A=>gP (A:=A) 8 hlt rfl;have hw:=fj (i:=i) (by omega);have hnx:=Bo hlt hk;have hpi:=VA hk;have hst:=WQ (l.take i) l[i];rw[Fb hlt] at heq ⊢;have hpz:i=0→gm (l.take i)=⟨-1,0⟩:=fun e=>by subst e;rfl
  have hps:∀ h:0<i,gm (l.take i)=(l[i-1]'(by omega)).bz:=fun h=>by
   have:=Vz (l:=l) (i:=i-1) (by omega)
   rwa [show i-1+1=i by omega] at this
  generalize l[i]=r at *;have f80:=nd r;cases q1:bg r
  ·rw[q1] at f80;have R:=y6 @hlc (y6 @he (y6 @hw (y6 @ec (y6 @dL aH))))
   repeat' ((first |(with_reducible refine .guard (fun hb =>?_) (fun hb =>?_) <;>try simp only[hb])|refine U.aL (by decide +kernel) rfl fun K hK =>?_|refine .flat _ (f80) rfl ?_|(refine .aI [0,1,2,3,4,5,7,8,9,10,16,19,49] hK ?_;clear hK K)|(with_reducible refine .done (hK _ ?_);clear hK K)|refine U.of rfl ?_|(with_reducible refine aB.aJ (fun h =>?_) (fun h =>?_) <;>try simp only[h])) <;>try simp only[aM,R,simprocAttr])
   all_goals clear R
   all_goals rfl
  rw[q1] at f80;generalize gm (l.take i)=p at *;have hww:IntKind.i64.wrap (p.no+1)=p.no+1:=dH _ (by omega) (by omega);rw[hst] at heq ⊢;by_cases hz:0<i
  ·have hgt:decide ((i:Int)>0)=true:=decide_eq_true (by omega);have hpe:=fun A=>gP (A:=A) (l:=l) (k:=i-1) 8 (by omega) rfl;have hw1:IntKind.i64.wrap ((i:Int)-1)=((i-1:Nat):Int):=by rw[dH _ (by omega) (by omega)];omega
   have hpm:=(hps hz).symm;clear hps hpz hst;generalize l[i-1]=q at *;cases c1:decide (r.bz=⟨p.bf,p.no+1⟩) <;>cases c2:decide (r.bf≤p.bf) <;>cases c3:(r.no != 0)
   all_goals
    rw[c1,c2,c3] at heq;have R:=y6 @hlc (y6 @he (y6 @hw (y6 @hgt (y6 @hpm (y6 @hpe (y6 @hw1 (y6 @hww (y6 @c1 (y6 @c2 (y6 @c3 (y6 @zl (y6 @ec (y6 @oU (y6 @dL (y6 @DI (y6 @ky aH))))))))))))))))
    repeat' ((first |(with_reducible refine .guard (fun hb =>?_) (fun hb =>?_) <;>try simp only[hb])|refine U.aL (by decide +kernel) rfl fun K hK =>?_|refine .flat _ (f80) rfl ?_|(refine .aI [0,1,2,3,4,5,7,8,9,10,16,19,49] hK ?_;clear hK K)|(with_reducible refine .done (hK _ ?_);clear hK K)|refine U.of rfl ?_|(with_reducible refine aB.aJ (fun h =>?_) (fun h =>?_) <;>try simp only[h])) <;>try simp only[aM,R,simprocAttr])
    all_goals clear R
    all_goals first
     |rfl
     |(refine ⟨i+1,⟨by omega,hnx q1,by rfl⟩,by omega,?_⟩;clear heq hnx;(refine bG.df ?_ ?_ ?_ ?_ <;>simp[cG,cN,cL,cg,aC,cF,eB,I.only,ah.only,bN]);all_goals rfl)
  ·have hgt:decide ((i:Int)>0)=false:=decide_eq_false (by omega);have hpm:=(hpz (by omega)).symm;clear hps hpz hst;cases c1:decide (r.bz=⟨p.bf,p.no+1⟩) <;>cases c2:decide (r.bf≤p.bf) <;>cases c3:(r.no != 0)
   all_goals
    rw[c1,c2,c3] at heq;have R:=y6 @hlc (y6 @he (y6 @hw (y6 @hgt (y6 @hpm (y6 @hww (y6 @c1 (y6 @c2 (y6 @c3 (y6 @zl (y6 @ec (y6 @oU (y6 @dL (y6 @DI (y6 @ky aH))))))))))))))
    repeat' ((first |(with_reducible refine .guard (fun hb =>?_) (fun hb =>?_) <;>try simp only[hb])|refine U.aL (by decide +kernel) rfl fun K hK =>?_|refine .flat _ (f80) rfl ?_|(refine .aI [0,1,2,3,4,5,7,8,9,10,16,19,49] hK ?_;clear hK K)|(with_reducible refine .done (hK _ ?_);clear hK K)|refine U.of rfl ?_|(with_reducible refine aB.aJ (fun h =>?_) (fun h =>?_) <;>try simp only[h])) <;>try simp only[aM,R,simprocAttr])
    all_goals clear R
    all_goals first
     |rfl
     |(refine ⟨i+1,⟨by omega,hnx q1,by rfl⟩,by omega,?_⟩;clear heq hnx;(refine bG.df ?_ ?_ ?_ ?_ <;>simp[cG,cN,cL,cg,aC,cF,eB,I.only,ah.only,bN]);all_goals rfl)
 ·have hlc:=gO hlt;rw[List.drop_eq_nil_of_le (by omega),hZ];have hle:decide ((l.length:Int)≤60)=decide (l.length≤60):=by rw[decide_eq_decide];omega
  have R:=y6 @hlc (y6 @hle aH)
  repeat' ((first |(with_reducible refine .guard (fun hb =>?_) (fun hb =>?_) <;>try simp only[hb])|refine U.aL (by decide +kernel) rfl fun K hK =>?_|(refine .aI [0,1,2,3,4,5,7,8,9,10,16,19,49] hK ?_;clear hK K)|(with_reducible refine .done (hK _ ?_);clear hK K)|refine U.of rfl ?_|(with_reducible refine aB.aJ (fun h =>?_) (fun h =>?_) <;>try simp only[h])) <;>try simp only[aM,R,simprocAttr])
  all_goals clear R
  all_goals rfl
theorem DQ(l:List ai)(m:Nat):(l++List.replicate m cv).take l.length=l:=List.take_left
theorem tp(l:List ai)(hl:l.length≤1000):aR Tryz.prog 93 [enc l] (enc l):=by
 refine aR.bO Tryz.func93 yO yT y7 (t8 rfl) (fun hwf W0 bF E1 =>?_);simp only[tP,vJ,bC];refine .dK (by decide +kernel) fun K hK =>?_;simp only[uN,aZ,simprocAttr];refine .done (hK _ ?_);clear hK K;refine U.seq (U.seq ?_);by_cases hn:l=[]
 ·subst hn;refine .gV (by decide +kernel) fun K hK =>?_;simp only[pc,aZ,simprocAttr];simp only[s8,List.isEmpty_nil,nR];refine .any rfl fun b _ =>?_
  try simp only[aZ,simprocAttr]
  generalize (b==0)=t;cases t
  ·refine .done (hK _ ?_);clear hK K;try simp only[cO]
   refine U.gA ?_;simp only[aB,aZ,simprocAttr];refine ⟨fun h =>?_,fun h =>?_⟩
   ·cases h
   refine U.skip ?_;try simp only[cO,simprocAttr]
   refine .dK (by decide +kernel) fun K hK =>?_;simp only[pd,aZ,simprocAttr]
   try simp only[hU,kG,aZ,simprocAttr]
   refine .done (hK _ ?_);clear hK K;refine U.ret ?_;simp only[aZ,simprocAttr]
   all_goals rfl
  ·refine .done (hK _ ?_);clear hK K;refine U.gA ?_;simp only[aB,aZ,simprocAttr];refine ⟨fun h =>?_,fun h =>?_⟩
   ·refine .dK (by decide +kernel) fun K hK =>?_;simp only[uO,aZ,simprocAttr];refine .done (hK _ ?_);clear hK K;refine U.ret ?_;simp only[cO,aZ,simprocAttr]
    all_goals rfl
   ·cases h
 ·have hu:iJ (enc l)=false:=by rw[s8];simpa using hn
  refine .gV (by decide +kernel) fun K hK =>?_;simp only[pc,aZ,simprocAttr]
  try simp only[hu,A9 _ l hn,aZ,simprocAttr]
  refine .done (hK _ ?_);clear hK K;try simp only[cO]
  refine U.gA ?_;simp only[aB,aZ,simprocAttr];refine ⟨fun h =>?_,fun h =>?_⟩
  ·cases h
  refine U.skip ?_;try simp only[cO,simprocAttr]
  refine .dK (by decide +kernel) fun K hK =>?_;simp only[pd,aZ,simprocAttr]
  try simp only[hU,kG,aZ,simprocAttr]
  refine aX.tF cv rfl hn rfl (by omega) (by simp only[maxLen];omega) fun m =>?_
  try simp only[aZ,simprocAttr]
  refine .done (hK _ ?_);clear hK K;refine U.ret ?_;simp only[aZ,simprocAttr]
  try simp only[ri (α:=ai) (sz:=8) rfl,DQ,aZ,simprocAttr]
def As(g:ai):bV:=fun r os'=>∃ q,r=.view 25 [] 8 0 1∧os'=eN 25 [g] q
theorem Du(A:ab):jj A 8 (some (.int .i64 0)) none none (.c0 8)=some (.slice 8 [])∧jj A 8 (some (.int .i64 0)) none none (.nils 8)=some (.slice 8 []):=by
 constructor <;>simp[jj,iw,gJ]
theorem Ef(x:I)(hx:x=.nils 8∨x=.c0 8)(g:ai):eG Tryz.prog 101 [x,enc (0:Int),enc [g]] [] (As g):=by
 rcases hx with rfl | rfl
 ·refine eG.bO Tryz.func101 tQ tU ub (t8 rfl) (t8 rfl) (fun m hm=>by simp[aC,aE] at hm) (fun hwf W0 bF E1 =>?_);simp only[qM,sy,bC,Z8,Nat.reduceAdd];refine .dK (by decide +kernel) fun K hK =>?_;simp only[rn,aZ];refine .done (hK _ ?_);clear hK K;refine .dK (by decide +kernel) fun K hK =>?_;simp only[rp,aZ,Nat.reduceEqDiff,reduceIte]
  try simp only[X6,(Du _).2,aZ]
  refine .done (hK _ ?_);clear hK K;refine .dK (by decide +kernel) fun K hK =>?_;simp only[rq,aZ,Nat.reduceEqDiff,reduceIte]
  try simp only[typR,iK,jD,iU,aZ,Nat.reduceEqDiff,reduceIte,Int.reduceBNe,Int.reduceBEq]
  refine .done (hK _ ?_);clear hK K;refine U.seq (U.seq ?_);refine .gV (by decide +kernel) fun K hK =>?_;simp only[rr,aZ,Nat.reduceEqDiff,reduceIte]
  try simp only[typR,iK,jD,iU,aZ,Nat.reduceEqDiff,reduceIte,Int.reduceBNe,Int.reduceBEq]
  refine .done (hK _ ?_);clear hK K;try simp only[cO]
  refine U.gA ?_;simp only[aB,aZ,Nat.reduceEqDiff,reduceIte];refine ⟨fun h =>?_,fun h =>?_⟩
  ·first | cases h | simp at h
  refine U.skip ?_;try simp only[cO]
  refine .dK (by decide +kernel) fun K hK =>?_;simp only[ru,aZ,Nat.reduceEqDiff,reduceIte]
  try simp only[typR,iK,jD,iU,aZ,Nat.reduceEqDiff,reduceIte,Int.reduceBNe,Int.reduceBEq]
  refine .done (hK _ ?_);clear hK K;refine U.seq (U.seq ?_);refine .gV (by decide +kernel) fun K hK =>?_;simp only[rv,aZ,Nat.reduceEqDiff,reduceIte,Int.reduceBEq]
  try simp only[typR,iK,jD,iU,aZ,Nat.reduceEqDiff,reduceIte,Int.reduceBNe,Int.reduceBEq]
  refine .done (hK _ ?_);clear hK K;try simp only[cO]
  refine U.gA ?_;simp only[aB,aZ,Nat.reduceEqDiff,reduceIte];refine ⟨fun h =>?_,fun h =>?_⟩
  case refine_2.refine_2=>first | cases h | simp at h
  refine .dK (by decide +kernel) fun K hK =>?_;simp only[pb,aZ,Nat.reduceEqDiff,reduceIte]
  try simp only[kG]
  refine aX.Fl (esz:=8) cv (l:=[g]) rfl (by simp) rfl (by simp) (by simp[maxLen]) fun q =>?_
  try simp only[aZ,Nat.reduceEqDiff,reduceIte]
  refine .done (hK _ ?_);clear hK K;refine U.ret ?_;simp only[cO,jH];exact ⟨eN 25 [g] q,[.view 25 [] 8 0 1],nG rfl (fun p=>fR p _),⟨⟨_,rfl,.inl ⟨rfl,rfl,rfl⟩⟩,trivial⟩,q,rfl,rfl⟩
 ·refine eG.bO Tryz.func101 tQ tU ub (t8 rfl) (t8 rfl) (fun m hm=>by simp[aC,aE] at hm) (fun hwf W0 bF E1 =>?_);simp only[qM,sy,bC,Z8,Nat.reduceAdd];refine .dK (by decide +kernel) fun K hK =>?_;simp only[rn,aZ];refine .done (hK _ ?_);clear hK K;refine .dK (by decide +kernel) fun K hK =>?_;simp only[rp,aZ,Nat.reduceEqDiff,reduceIte]
  try simp only[X6,(Du _).1,aZ]
  refine .done (hK _ ?_);clear hK K;refine .dK (by decide +kernel) fun K hK =>?_;simp only[rq,aZ,Nat.reduceEqDiff,reduceIte]
  try simp only[typR,iK,jD,iU,aZ,Nat.reduceEqDiff,reduceIte,Int.reduceBNe,Int.reduceBEq]
  refine .done (hK _ ?_);clear hK K;refine U.seq (U.seq ?_);refine .gV (by decide +kernel) fun K hK =>?_;simp only[rr,aZ,Nat.reduceEqDiff,reduceIte]
  try simp only[typR,iK,jD,iU,aZ,Nat.reduceEqDiff,reduceIte,Int.reduceBNe,Int.reduceBEq]
  refine .done (hK _ ?_);clear hK K;try simp only[cO]
  refine U.gA ?_;simp only[aB,aZ,Nat.reduceEqDiff,reduceIte];refine ⟨fun h =>?_,fun h =>?_⟩
  ·first | cases h | simp at h
  refine U.skip ?_;try simp only[cO]
  refine .dK (by decide +kernel) fun K hK =>?_;simp only[ru,aZ,Nat.reduceEqDiff,reduceIte]
  try simp only[typR,iK,jD,iU,aZ,Nat.reduceEqDiff,reduceIte,Int.reduceBNe,Int.reduceBEq]
  refine .done (hK _ ?_);clear hK K;refine U.seq (U.seq ?_);refine .gV (by decide +kernel) fun K hK =>?_;simp only[rv,aZ,Nat.reduceEqDiff,reduceIte,Int.reduceBEq]
  try simp only[typR,iK,jD,iU,aZ,Nat.reduceEqDiff,reduceIte,Int.reduceBNe,Int.reduceBEq]
  refine .done (hK _ ?_);clear hK K;try simp only[cO]
  refine U.gA ?_;simp only[aB,aZ,Nat.reduceEqDiff,reduceIte];refine ⟨fun h =>?_,fun h =>?_⟩
  case refine_2.refine_2=>first | cases h | simp at h
  refine .dK (by decide +kernel) fun K hK =>?_;simp only[pb,aZ,Nat.reduceEqDiff,reduceIte]
  try simp only[kG]
  refine aX.tF (esz:=8) cv (l:=[g]) rfl (by simp) rfl (by simp) (by simp[maxLen]) fun q =>?_
  try simp only[aZ,Nat.reduceEqDiff,reduceIte]
  refine .done (hK _ ?_);clear hK K;refine U.ret ?_;simp only[cO,jH];exact ⟨eN 25 [g] q,[.view 25 [] 8 0 1],nG rfl (fun p=>fR p _),⟨⟨_,rfl,.inl ⟨rfl,rfl,rfl⟩⟩,trivial⟩,q,rfl,rfl⟩
theorem dx.gU{aA:Bool}{ρ:List (Nat×Nat)}{k:Nat}{x:ah}{os0:List (Nat×ah)}{r c:I}(h1:∀ p,c.only p=true)(h2:aA=true→c.cT=true)(h3:r.only (aC [(k,.box c)])=true)(h4:aA=true→r.cT=true):dx aA ρ [(k,x)] os0 r [(k,.box c)]:=by
 refine ⟨fun m x h =>?_,fun m m' h h' _ =>?_,fun m h =>?_,fun m h h' =>?_,h3,h4⟩
 ·simp only[aE] at h;split at h
  ·simp only[v6] at h;subst h;exact ⟨h1 _,rfl,h2⟩
  ·cases h
 ·rw[gz.1 h,gz.1 h']
 ·rw[gz.1 h];exact gz.2 rfl
 ·rw[gz.1 h] at h';have:aC [(k,x)] k=true:=gz.2 rfl;rw[this] at h';cases h'
theorem dx.oq{aA:Bool}{ρ:List (Nat×Nat)}{k k' d d':Nat}{x:ah}{os0:List (Nat×ah)}{r c c':I}(hk:bp ρ k=d)(hk':bp ρ k'=d')(hd:d≠d')(hne:k≠k')(h1:∀ p,c.only p=true)(h2:aA=true→c.cT=true)(h1':∀ p,c'.only p=true)(h2':aA=true→c'.cT=true)
  (h3:r.only (aC [(k,.box c),(k',.box c')])=true) (h4:aA=true→r.cT=true) (h5:aE os0 d=none) (h6:d<1000000):dx aA ρ [(k',x)] os0 r [(k,.box c),(k',.box c')]:=by
 have oq:∀ m,aC [(k,ah.box c),(k',ah.box c')] m=true→m=k∨m=k':=fun m h=>by
  simp only[aC,aE] at h;split at h
  ·rename_i e;exact .inl e
  ·split at h
   ·rename_i e;exact .inr e
   ·cases h
 refine ⟨fun m y h =>?_,fun m m' h h' e =>?_,fun m h =>?_,fun m h h' =>?_,h3,h4⟩
 ·simp only[aE] at h;split at h
  ·simp only[v6] at h;subst h;exact ⟨h1 _,rfl,h2⟩
  ·split at h
   ·simp only[v6] at h;subst h;exact ⟨h1' _,rfl,h2'⟩
   ·cases h
 ·rcases oq m h with rfl | rfl <;>rcases oq m' h' with rfl | rfl
  ·rfl
  ·rw[hk,hk'] at e;exact absurd e hd
  ·rw[hk,hk'] at e;exact absurd e.symm hd
  ·rfl
 ·rw[gz.1 h];simp[aC,aE,Ne.symm hne]
 ·rcases oq m h with rfl | rfl
  ·rw[hk];exact ⟨h5,h6⟩
  ·have:aC [(m,x)] m=true:=gz.2 rfl;rw[this] at h';cases h'
def iQ(l:List ai)(r:ai):List ai×Int :=
 if np l=false then ([],81) else if bg r=false then ([],80)
 else if jZ l r.bz=true then (if l.getD (fy l r.bz) default=r then (l,0) else ([],82))
 else if (fm l r.bf:Int)<r.no then ([],83) else if l.length=60 then ([],2) else (fP l (fy l r.bz) r,0)
theorem xk{aV:List ai→ai→Bool} : ∀ {l out:List ai},hZ (fun out r=>bg r&&aV out r) out l=true↔(∀ r∈l,bg r=true)∧hZ aV out l=true
 | [],_=>by simp[hZ]
 |r::l,out=>by
  simp only[hZ,Z0,xk (l:=l),zz1,forall_eq_or_imp];constructor
  ·rintro ⟨⟨h1,h2⟩,h3,h4⟩;exact ⟨⟨h1,h3⟩,h2,h4⟩
  ·rintro ⟨⟨h1,h3⟩,h2,h4⟩;exact ⟨⟨h1,h2⟩,h3,h4⟩
structure EU (l:List ai):Prop where
 ok:∀ r∈l,bg r=true
 DH:oG l
 len:l.length≤60
 step:hZ jk [] l=true
theorem Vc{r:ai}(h:bg r=true):0≤r.bf∧0≤r.no:=by have:=pI (pJ h);omega
theorem F4{l:List ai}(h:np l=true):EU l:=by
 simp only[np,Z0,decide_eq_true_eq] at h;obtain ⟨h1,h2⟩:=h;obtain ⟨h3,h4⟩:=xk.1 h1;refine ⟨h3,?_,h2,h4⟩;have:=xB l [] trivial (fun r hr=>Vc (h3 r hr)) h4 List.Pairwise.nil;simpa using this
theorem iA:(∀ A n b rest,ep A (some 1) n [] b (.agg [.nils 8]) rest (some (.agg [.nils 8]))=ao rest (A.aP n (.box (.agg [.nils 8])))) ∧
  (∀ A n b rest m p lo k,ep A (some 1) n [] b (.agg [.view m p 8 lo k]) rest (some (.agg [.nils 8]))=ao rest (A.aP n (.box (.agg [.view m p 8 lo k])))) ∧
  (∀ A n b rest (l:List ai),ep A (some 1) n [] b (.agg [enc l]) rest (some (.agg [.nils 8]))=ao rest (A.aP n (.box (.agg [enc l])))) ∧
  (∀ l:List ai,fA [.nils 8] [(0,enc l)]=some [enc l])∧(∀ m p lo k,fA [.nils 8] [(0,.view m p 8 lo k)]=some [.view m p 8 lo k])∧(∀ l:List ai,bQ (some 1) (.agg [enc l])=true)∧bQ (some 1) (.agg [.nils 8])=true∧(∀ m p lo k,bQ (some 1) (.agg [.view m p 8 lo k])=true) :=
 ⟨fun A n b rest=>by rw[fh (s:=some 1) (v:=.agg [.nils 8]) (old:=.agg [.nils 8]) rfl rfl rfl,fg],fun A n b rest m p lo k=>by rw[fh (s:=some 1) (v:=.agg [.view m p 8 lo k]) (old:=.agg [.nils 8]) rfl rfl rfl,fg],
  fun A n b rest l=>by rw[fh (s:=some 1) (v:=.agg [enc l]) (old:=.agg [.nils 8]) rfl rfl rfl,fg],fun _=>rfl,fun _ _ _ _=>rfl,fun _=>rfl,rfl,fun _ _ _ _=>rfl⟩
theorem EH(l:List ai)(r:ai)(hl:l.length≤1000000000):aR Tryz.prog 44 [enc (⟨l⟩:iL),enc r] (.tuple [enc (⟨(iQ l r).1⟩:iL),enc (iQ l r).2]):=by
 refine aR.bO Tryz.func44 GP HV Ja (t8 rfl) (fun hwf W0 bF E1 =>?_);simp only[yl,Ct,bC,Z8];clear hwf;have f92:=EP l hl;simp only[iQ];cases q1:np l
 ·rw[q1] at f92;simp only[if_true];have R:=y6 @iA aH
  repeat' ((first |(with_reducible refine .guard (fun hb =>?_) (fun hb =>?_) <;>try simp only[hb])|refine U.aL (by decide +kernel) rfl fun K hK =>?_|refine .flat _ (f92) rfl ?_|(refine .aI [0,1,2,3,4,5,6,7,8,13,25,40,43,56] hK ?_;clear hK K)|(with_reducible refine .done (hK _ ?_);clear hK K)|refine U.of rfl ?_|(with_reducible refine aB.aJ (fun h =>?_) (fun h =>?_) <;>try simp only[h])) <;>try simp only[aM,R,simprocAttr])
  all_goals clear R
  all_goals rfl
 rw[q1] at f92;have hb:=F4 q1;have f80:=nd r;simp only[Bool.true_eq_false,if_false];cases q2:bg r
 ·rw[q2] at f80;simp only[if_true];have R:=y6 @iA aH
  repeat' ((first |(with_reducible refine .guard (fun hb =>?_) (fun hb =>?_) <;>try simp only[hb])|refine U.aL (by decide +kernel) rfl fun K hK =>?_|refine .flat _ (f92) rfl ?_|refine .flat _ (f80) rfl ?_|(refine .aI [0,1,2,3,4,5,6,7,8,13,25,40,43,56] hK ?_;clear hK K)|(with_reducible refine .done (hK _ ?_);clear hK K)|refine U.of rfl ?_|(with_reducible refine aB.aJ (fun h =>?_) (fun h =>?_) <;>try simp only[h])) <;>try simp only[aM,R,simprocAttr])
  all_goals clear R
  all_goals rfl
 rw[q2] at f80;simp only[Bool.true_eq_false,if_false];have hlen:=hb.len;have f94:=ER l r.bz hb.DH (by omega);have hpl:=Vw l r.bz;have hcl:=tp l (by omega);cases q3:jZ l r.bz
 rotate_left
 ·rw[q3] at f94;obtain ⟨hp,hat⟩:=(Ak hb.DH r.bz).1 q3;simp only[if_true];have hg:l.getD (fy l r.bz) default=l[fy l r.bz]:=by simp[Y8,hp]
  rw[hg];have he:=fun A=>gP (A:=A) 8 hp rfl;generalize l[fy l r.bz]=x at *;generalize fy l r.bz=p at *;by_cases q4:x=r
  ·have q4':decide (x=r)=true:=decide_eq_true q4;rw[if_pos q4];have R:=y6 @he (y6 @q4' (y6 @iA aH))
   repeat' ((first |(with_reducible refine .guard (fun hb =>?_) (fun hb =>?_) <;>try simp only[hb])|refine U.aL (by decide +kernel) rfl fun K hK =>?_|refine .flat _ (f92) rfl ?_|refine .flat _ (f80) rfl ?_|refine .lead _ (f94) ?_|refine .lead _ (hcl) ?_|(refine .aI [0,1,2,3,4,5,6,7,8,13,25,40,43,56] hK ?_;clear hK K)|(with_reducible refine .done (hK _ ?_);clear hK K)|refine U.of rfl ?_|(with_reducible refine aB.aJ (fun h =>?_) (fun h =>?_) <;>try simp only[h])) <;>try simp only[aM,R,simprocAttr])
   all_goals clear R
   all_goals rfl
  ·have q4':decide (x=r)=false:=decide_eq_false q4;rw[if_neg q4];have R:=y6 @he (y6 @q4' (y6 @iA aH))
   repeat' ((first |(with_reducible refine .guard (fun hb =>?_) (fun hb =>?_) <;>try simp only[hb])|refine U.aL (by decide +kernel) rfl fun K hK =>?_|refine .flat _ (f92) rfl ?_|refine .flat _ (f80) rfl ?_|refine .lead _ (f94) ?_|refine .lead _ (hcl) ?_|(refine .aI [0,1,2,3,4,5,6,7,8,13,25,40,43,56] hK ?_;clear hK K)|(with_reducible refine .done (hK _ ?_);clear hK K)|refine U.of rfl ?_|(with_reducible refine aB.aJ (fun h =>?_) (fun h =>?_) <;>try simp only[h])) <;>try simp only[aM,R,simprocAttr])
   all_goals clear R
   all_goals rfl
 rw[q3] at f94;simp only[Z4,if_false];have hin:uW l:=fun x hx=>nV (hb.ok x hx);have f100:=wP l hl hin;have hix:=AB l (nV q2);by_cases q5:(fm l r.bf:Int)<r.no
 ·have q5':decide ((fm l r.bf:Int)<r.no)=true:=decide_eq_true q5;rw[if_pos q5];have R:=y6 @hix (y6 @q5' (y6 @oj (y6 @iA aH)))
  repeat' ((first |(with_reducible refine .guard (fun hb =>?_) (fun hb =>?_) <;>try simp only[hb])|refine U.aL (by decide +kernel) rfl fun K hK =>?_|refine .flat _ (f92) rfl ?_|refine .flat _ (f80) rfl ?_|refine .lead _ (f94) ?_|refine .lead _ (f100) ?_|(refine .aI [0,1,2,3,4,5,6,7,8,13,25,40,43,56] hK ?_;clear hK K)|(with_reducible refine .done (hK _ ?_);clear hK K)|refine U.of rfl ?_|(with_reducible refine aB.aJ (fun h =>?_) (fun h =>?_) <;>try simp only[h])) <;>try simp only[aM,R,simprocAttr])
  all_goals clear R
  all_goals rfl
 have q5':decide ((fm l r.bf:Int)<r.no)=false:=decide_eq_false q5;rw[if_neg q5];by_cases q6:l.length=60
 ·have q6':((l.length:Int)==60)=true:=by rw[beq_iff_eq];omega
  rw[if_pos q6];have R:=y6 @hix (y6 @q5' (y6 @q6' (y6 @oj (y6 @iA aH))))
  repeat' ((first |(with_reducible refine .guard (fun hb =>?_) (fun hb =>?_) <;>try simp only[hb])|refine U.aL (by decide +kernel) rfl fun K hK =>?_|refine .flat _ (f92) rfl ?_|refine .flat _ (f80) rfl ?_|refine .lead _ (f94) ?_|refine .lead _ (f100) ?_|(refine .aI [0,1,2,3,4,5,6,7,8,13,25,40,43,56] hK ?_;clear hK K)|(with_reducible refine .done (hK _ ?_);clear hK K)|refine U.of rfl ?_|(with_reducible refine aB.aJ (fun h =>?_) (fun h =>?_) <;>try simp only[h])) <;>try simp only[aM,R,simprocAttr])
  all_goals clear R
  all_goals rfl
 have q6':((l.length:Int)==60)=false:=by rw[beq_eq_false_iff_ne];omega
 rw[if_neg q6];have hbs:gK 8 (some [enc r])=some (enc [r]):=qL 8 r rfl;have R:=y6 @hix (y6 @q5' (y6 @q6' (y6 @hbs (y6 @oj (y6 @iA aH)))))
 repeat' ((first |(with_reducible refine .guard (fun hb =>?_) (fun hb =>?_) <;>try simp only[hb])|(refine U.lO (gs:=uI) [101] [(2,[2]),(3,[3]),(4,[4]),(62,[2])] [0,1,3,4,5,2,6,7,8,9] (by decide +kernel) (dy.of (by simp[jx,cF,AY,I.only])) fun K hK =>?_;simp only[j8,uI,List.getD_cons_zero,List.getD_cons_succ,R,simprocAttr])|refine U.aL (by decide +kernel) rfl fun K hK =>?_|refine .flat _ (f92) rfl ?_|refine .flat _ (f80) rfl ?_|refine .lead _ (f94) ?_|refine .lead _ (f100) ?_|(refine .aI [0,1,2,3,4,5,6,7,8,13,25,40,43,56] hK ?_;clear hK K)|(with_reducible refine .done (hK _ ?_);clear hK K)|refine U.of rfl ?_|(with_reducible refine aB.aJ (fun h =>?_) (fun h =>?_) <;>try simp only[h])) <;>try simp only[aM,R,simprocAttr])
 all_goals clear R
 obtain ⟨au,hL⟩:∃ au,au=fP l (fy l r.bz) r:=⟨_,rfl⟩
 have hLn:l.length+1=au.length:=by rw[hL,Tg r hpl]
 have hfin:∀ q,kK 8 0 (l.length+1) (some ((au++List.replicate q cv).map enc))=some (enc au):=fun q=>by
  rw[ri (α:=ai) (sz:=8) rfl,hLn,DQ]
 refine .bx [(7,64)] [enc l] (qR l) (xc l (by omega)) eH.nil ⟨.inl ⟨(iE _ _).symm,bN _ _,eY _⟩,trivial⟩ ?_ ?_
 ·rintro x os' (⟨_,h | h,rfl⟩ | ⟨_,k,rfl,rfl⟩)
  ·subst h;exact dx.nil (fun _=>rfl) (fun h=>by cases h)
  ·subst h;exact dx.nil (fun _=>rfl) (fun h=>by cases h)
  ·exact dx.vn (fun p=>fR p _) (fun h=>by cases h) rfl (fun h=>by cases h) rfl (by decide)
 rintro x os' (⟨hn,h,rfl⟩ | ⟨hn,k,rfl,rfl⟩)
 ·have hren:x.aQ (bp [(7,64)])=x∧x.cq=true∧∀ q,x.only q=true:=by rcases h with rfl | rfl <;>exact ⟨by simp only[I.aQ],rfl,fun _=>rfl⟩
  have hren2:x.aQ (bp [(25,68)])=x:=by rcases h with rfl | rfl <;>simp only[I.aQ]
  have hpos:fy l r.bz=0:=by rw[hn];rfl
  rw[hren.1,hpos]
  try simp only[oa,X4,aH,aZ,simprocAttr]
  refine .bx [(25,68)] [x,enc (0:Int),enc [r]] (As r) (Ef x h r) eH.nil ⟨.inl ⟨hren2.symm,hren.2.2 _,hren.2.1⟩,.inl ⟨rfl,rfl,rfl⟩,.inl ⟨(iE _ _).symm,bN _ _,eY _⟩,trivial⟩ ?_ ?_
  ·rintro x os' ⟨k,rfl,rfl⟩;exact dx.vn (fun p=>fR p _) (fun h=>by cases h) rfl (fun h=>by cases h) rfl (by decide)
  ·rintro x os' ⟨k,rfl,rfl⟩;have hLg:[r]=au:=by rw[hL,hpos,hn];rfl
   have hf1:=hfin k;rw[hn] at hf1;simp only[X9,Z8] at hf1;rw[hLg]
   try simp only[eN,oa,mF,Y3,X4,iA,aZ,simprocAttr]
   refine .done (hK _ ?_);clear hK K;refine U.ret ?_;simp only[aZ,simprocAttr]
   try simp only[hf1,iA,aZ,simprocAttr]
   rw[←hL];rfl
 ·try simp only[eN,oa,mF,Y3,X4,aH,aZ,simprocAttr]
  refine .vr false [(1000000,64),(25,68),(40,69)] (eN 1000000 l k) [.view 1000000 [] 8 0 l.length,enc (fy l r.bz:Int),enc [r]] (Au l (fy l r.bz) r k) rfl (Ee l (fy l r.bz) r k hpl hn (by omega)) ⟨?_,?_⟩ ⟨.inl ⟨?_,?_,rfl⟩,.inl ⟨rfl,rfl,rfl⟩,.inl ⟨(iE _ _).symm,bN _ _,eY _⟩,trivial⟩ ?_ ?_
  ·intro n x h;simp only[eN,aE] at h;split at h
   ·rename_i hn';subst hn';simp only[v6] at h;subst h;exact ⟨by simp only[oa,mF,aZ,simprocAttr],fR _ _,rfl⟩
   ·cases h
  ·intro a b ha hb _;rw[Go.Abs.gz.1 ha,Go.Abs.gz.1 hb]
  ·try simp only[oa,simprocAttr]
  ·exact Go.Abs.gz.2 rfl
  ·rintro x os' (⟨q,rfl,rfl⟩ | ⟨d,q,rfl | rfl,rfl,rfl⟩)
   ·exact dx.gU (fun p=>fR p _) (fun h=>by cases h) rfl (fun h=>by cases h)
   ·exact dx.oq rfl rfl (by decide) (by decide) (fun p=>fR p _) (fun h=>by cases h) (fun p=>fR p _) (fun h=>by cases h) rfl (fun h=>by cases h) rfl (by decide)
   ·exact dx.oq rfl rfl (by decide) (by decide) (fun p=>fR p _) (fun h=>by cases h) (fun p=>fR p _) (fun h=>by cases h) rfl (fun h=>by cases h) rfl (by decide)
  ·rintro x os' (⟨q,rfl,rfl⟩ | ⟨d,q,rfl | rfl,rfl,rfl⟩)
   all_goals
    rw[←hL];have hf1:=hfin q
    try simp only[eN,oa,mF,Y3,X4,iA,aZ,simprocAttr]
    refine .done (hK _ ?_);clear hK K;refine U.ret ?_;simp only[aZ,simprocAttr]
    try simp only[hf1,iA,aZ,simprocAttr]
    rw[←hL];rfl
end Go.Proofs.YtoffnnjbplgnaaaGreatDoor
namespace Go.Proofs.YtoffnnjbplgnaaaGreatDoor
open Go Go.Abs Go.Shelf Go.RowKit Go.Sort Go.Proofs
open Go.Abs.Enc (enc)
def AM:Go.Shelf.Ren:=⟨fun | 6=>141 | 15=>163 | 14=>162 | 28=>184 | 29=>185 | 20=>176 | 21=>177 | 22=>178 | 23=>179 | 24=>180 | 25=>181 | 26=>182 | 27=>183 | 46=>199 | 47=>200 | 48=>201 | 49=>202 | 50=>203 | 57=>213 | n=>n,fun | 22=>23 | 24=>50 | 25=>188 | 3=>3 | 39=>208 | 0=>0 | 53=>225 | 55=>227 | 4=>4 | 46=>219 | 45=>218 | 50=>144 | 5=>5 | 9=>9 | 66=>243 | 70=>247 | 76=>258 | 77=>259 | n=>n,fun | n=>n⟩
theorem TL:Go.Proofs.SlLaysF0.n6 Tryz.prog AM := {
 mixed:=by kernel_rfl
 f6 := ⟨ "slices.SortFunc[[]pinfold/api.Record,pinfold/api.Record]", by decide, Tryz.func141.trans (congrArg some (by kernel_rfl))⟩
 f14 := ⟨ "slices.pdqsortCmpFunc[pinfold/api.Record]", by decide, Tryz.func162.trans (congrArg some (by kernel_rfl))⟩
 f15:=Tryz.func163.trans (congrArg some (by kernel_rfl))
 f20 := ⟨ "slices.insertionSortCmpFunc[pinfold/api.Record]", by decide, Tryz.func176.trans (congrArg some (by kernel_rfl))⟩
 f21 := ⟨ "slices.heapSortCmpFunc[pinfold/api.Record]", by decide, Tryz.func177.trans (congrArg some (by kernel_rfl))⟩
 f22 := ⟨ "slices.breakPatternsCmpFunc[pinfold/api.Record]", by decide, Tryz.func178.trans (congrArg some (by kernel_rfl))⟩
 f23 := ⟨ "slices.choosePivotCmpFunc[pinfold/api.Record]", by decide, Tryz.func179.trans (congrArg some (by kernel_rfl))⟩
 f24 := ⟨ "slices.reverseRangeCmpFunc[pinfold/api.Record]", by decide, Tryz.func180.trans (congrArg some (by kernel_rfl))⟩
 f25 := ⟨ "slices.partialInsertionSortCmpFunc[pinfold/api.Record]", by decide, Tryz.func181.trans (congrArg some (by kernel_rfl))⟩
 f26 := ⟨ "slices.partitionEqualCmpFunc[pinfold/api.Record]", by decide, Tryz.func182.trans (congrArg some (by kernel_rfl))⟩
 f27 := ⟨ "slices.partitionCmpFunc[pinfold/api.Record]", by decide, Tryz.func183.trans (congrArg some (by kernel_rfl))⟩
 f28:=Tryz.func184.trans (congrArg some (by kernel_rfl))
 f29:=Tryz.func185.trans (congrArg some (by kernel_rfl))
 f46 := ⟨ "slices.siftDownCmpFunc[pinfold/api.Record]", by decide, Tryz.func199.trans (congrArg some (by kernel_rfl))⟩
 f47:=Tryz.func200.trans (congrArg some (by kernel_rfl))
 f48:=Tryz.func201.trans (congrArg some (by kernel_rfl))
 f49 := ⟨ "slices.medianAdjacentCmpFunc[pinfold/api.Record]", by decide, Tryz.func202.trans (congrArg some (by kernel_rfl))⟩
 f50 := ⟨ "slices.medianCmpFunc[pinfold/api.Record]", by decide, Tryz.func203.trans (congrArg some (by kernel_rfl))⟩
 f57 := ⟨ "slices.order2CmpFunc[pinfold/api.Record]", by decide, Tryz.func213.trans (congrArg some (by kernel_rfl))⟩
 t0:=Tryz.underlying0
 a0:=Tryz.isAgg0
 z0:=Tryz.sizeOf0
 v0:=Tryz.zeroValue0
 t3:=Tryz.underlying3
 a3:=Tryz.isAgg3
 z3:=Tryz.sizeOf3
 v3:=Tryz.zeroValue3
 t4:=Tryz.underlying4
 a4:=Tryz.isAgg4
 z4:=Tryz.sizeOf4
 v4:=Tryz.zeroValue4
 t5:=Tryz.underlying5
 a5:=Tryz.isAgg5
 z5:=Tryz.sizeOf5
 v5:=Tryz.zeroValue5
 t9:=Tryz.underlying9
 a9:=Tryz.isAgg9
 z9:=Tryz.sizeOf9
 v9:=Tryz.zeroValue9
 t22:=Tryz.underlying23
 a22:=Tryz.isAgg23
 z22:=Tryz.sizeOf23
 v22:=Tryz.zeroValue23
 t25:=Tryz.underlying188
 a25:=Tryz.isAgg188
 z25:=Tryz.sizeOf188
 v25:=Tryz.zeroValue188
 t39:=Tryz.underlying208
 a39:=Tryz.isAgg208
 z39:=Tryz.sizeOf208
 v39:=Tryz.zeroValue208
 t45:=Tryz.underlying218
 a45:=Tryz.isAgg218
 z45:=Tryz.sizeOf218
 v45:=Tryz.zeroValue218
 t46:=Tryz.underlying219
 a46:=Tryz.isAgg219
 z46:=Tryz.sizeOf219
 v46:=Tryz.zeroValue219
 t50:=Tryz.underlying144
 a50:=Tryz.isAgg144
 z50:=Tryz.sizeOf144
 v50:=Tryz.zeroValue144
 t53:=Tryz.underlying225
 a53:=Tryz.isAgg225
 z53:=Tryz.sizeOf225
 v53:=Tryz.zeroValue225
 t55:=Tryz.underlying227
 a55:=Tryz.isAgg227
 z55:=Tryz.sizeOf227
 v55:=Tryz.zeroValue227
 t66:=Tryz.underlying243
 a66:=Tryz.isAgg243
 z66:=Tryz.sizeOf243
 v66:=Tryz.zeroValue243
 t70:=Tryz.underlying247
 a70:=Tryz.isAgg247
 z70:=Tryz.sizeOf247
 v70:=Tryz.zeroValue247
 t76:=Tryz.underlying258
 a76:=Tryz.isAgg258
 z76:=Tryz.sizeOf258
 v76:=Tryz.zeroValue258
 t77:=Tryz.underlying259
 a77:=Tryz.isAgg259
 z77:=Tryz.sizeOf259
 v77:=Tryz.zeroValue259 }
theorem Eu:aR Tryz.prog 141 [enc ([]:List ai),.func 142 []] (.tuple []):=by
 refine ⟨by kernel_rfl,fun w D vs _ hD hv =>?_⟩;simp only[al] at hv;obtain ⟨u,rest,cs',rfl,hp,hr',hv2⟩:=hv;obtain ⟨a,cap,h1,_⟩:=hr';have h2:cs'=[u]:=hp;rw[h1] at h2;obtain rfl:u=.slice a 0 cap:=by simpa using h2.symm
 obtain ⟨f,rest2,cs2,rfl,hp2,hr2,rfl⟩:=hv2;simp only[ae] at hr2;obtain ⟨vs2,e2,e3⟩:=hr2;have h3:cs2=[f]:=hp2;rw[e2] at h3;simp only[al] at e3;subst e3;obtain rfl:f=.func (.func 142) #[] #[]:=by
  have:=h3.symm;simp only[Y7,and_true] at this;rw[this];rfl
 refine (AnyF.slices_SortFunc_none (P:=Tryz.prog) (ρ:=AM) { TL with } a cap (.func (.func 142) #[] #[]) w).mono ?_;rintro e w' ⟨rfl,rfl⟩;exact ⟨.tuple #[],D,rfl,⟨[],rfl,rfl⟩,⟨rfl,rfl,rfl,Z5 _,fun _ _=>rfl⟩,hD,fun _ _ h _=>h⟩
theorem ES:aR Tryz.prog 95 [enc ([]:List ai)] (enc (⟨[]⟩:iL)):=by
 refine aR.bO Tryz.func95 Hb Ih Jv (t8 rfl) (fun hwf W0 bF E1 =>?_);simp only[yG,CN,bC];clear hwf;have h1:=tp [] (by simp);have R:=y6 @iA (y6 @jV aH)
 repeat' ((first |refine U.aL (by decide +kernel) rfl fun K hK =>?_|refine .lead _ (h1) ?_|refine .flat _ (Eu) rfl ?_|(refine .aI [0,2,3] hK ?_;clear hK K)|(with_reducible refine .done (hK _ ?_);clear hK K)|refine U.of rfl ?_|(with_reducible refine aB.aJ (fun h =>?_) (fun h =>?_) <;>try simp only[h])) <;>try simp only[aM,R,simprocAttr])
 all_goals clear R
 all_goals rfl
end Go.Proofs.YtoffnnjbplgnaaaGreatDoor
namespace Go.Proofs.YtoffnnjbplgnaaaGreatDoor
open Go Go.Abs
open Go.Abs.Enc (enc)
theorem D5{l:List ai}(h:gI [] l=true):l.length≤60:=by
 have:=iO.len (by simp) ((wN l []).1 h);simpa using this
theorem D6{l:List ai}(h:gI [] l=true):∀ r∈l,bg r=true:=iO.ok ((wN l []).1 h)
def nF(r:c7)(l:List ai):Bool:=gI [] l&&decide (r.de.all=eO 1 l)&&(List.range (l.length+1)).any fun i=>decide (r.copy.all=eO 1 (l.take i))
theorem Fe{p:Nat→Bool}{n i:Nat}(hi:i<n)(h:∀ k,k<i→p k=false)(hp:p i=true):(List.range n).any p=true:=List.any_eq_true.2 ⟨i,by simpa using hi,hp⟩
theorem Fc{p:Nat→Bool}{n:Nat}(h:∀ k,k<n→p k=false):(List.range n).any p=false:=by
 rw[List.any_eq_false];intro k hk;rw[h k (by simpa using hk)];decide
theorem EN(r:c7)(h:r.small)(l:List ai)(hl:l.length≤1000000):aR Tryz.prog 87 [enc r,enc l] (enc (nF r l)):=by
 refine aR.bO Tryz.func87 G6 Ib Jq (t8 rfl) (fun hwf W0 bF E1 =>?_);simp only[yB,CI,bC,Z8];clear hwf;have f98:=ET l (by omega);have f1:=oA r.de h.1;have f2:=oA r.copy h.2;simp only[nF];cases q1:gI [] l
 ·rw[q1] at f98;have R:=y6 @bj aH
  repeat' ((first |(with_reducible refine .guard (fun hb =>?_) (fun hb =>?_) <;>try simp only[hb])|refine U.aL (by decide +kernel) rfl fun K hK =>?_|refine .flat _ (f98) rfl ?_|(refine .aI [0,1,2,4,5,16,19,20,21,30] hK ?_;clear hK K)|(with_reducible refine .done (hK _ ?_);clear hK K)|refine U.of rfl ?_|(with_reducible refine aB.aJ (fun h =>?_) (fun h =>?_) <;>try simp only[h])) <;>try simp only[aM,R,simprocAttr])
  all_goals clear R
  all_goals rfl
 rw[q1] at f98;have hok:=D6 q1;have hln:=D5 q1;have f135:=wU l hl hok;have hpre:=fun i=>wU (l.take i) (by rw[Y0];omega) fun x hx=>hok x (List.mem_of_mem_take hx);cases q2:decide (r.de.all=eO 1 l)
 ·have R:=y6 @q2 (y6 @gq (y6 @bj aH))
  repeat' ((first |(with_reducible refine .guard (fun hb =>?_) (fun hb =>?_) <;>try simp only[hb])|refine U.aL (by decide +kernel) rfl fun K hK =>?_|refine .flat _ (f98) rfl ?_|refine .flat _ (f1) rfl ?_|refine .flat _ (f135) rfl ?_|(refine .aI [0,1,2,4,5,16,19,20,21,30] hK ?_;clear hK K)|(with_reducible refine .done (hK _ ?_);clear hK K)|refine U.of rfl ?_|(with_reducible refine aB.aJ (fun h =>?_) (fun h =>?_) <;>try simp only[h])) <;>try simp only[aM,R,simprocAttr])
  all_goals clear R
  all_goals rfl
 have hw0:=fj (i:=l.length) (by omega);have R:=y6 @q2 (y6 @hw0 (y6 @gq (y6 @bj aH)))
 repeat' ((first |(with_reducible refine .guard (fun hb =>?_) (fun hb =>?_) <;>try simp only[hb])|refine U.aL (by decide +kernel) rfl fun K hK =>?_|refine .flat _ (f98) rfl ?_|refine .flat _ (f1) rfl ?_|refine .flat _ (f135) rfl ?_|(refine .aI [0,1,2,4,5,16,19,20,21,30] hK ?_;clear hK K)|(with_reducible refine .done (hK _ ?_);clear hK K)|refine U.of rfl ?_|(with_reducible refine aB.aJ (fun h =>?_) (fun h =>?_) <;>try simp only[h])) <;>try simp only[aM,R,simprocAttr])
 all_goals clear R
 refine U.loop (fun i:Nat=>aw [(1,enc l),(2,.ptr 2 []),(19,.int .i64 ((l.length+1:Nat):Int)),(20,.int .i64 i)] [(2,.box (enc r))]) (fun i=>i≤l.length+1∧∀ k,k<i→decide (r.copy.all=eO 1 (l.take k))=false) (fun i=>l.length+1-i) 0 ⟨Nat.zero_le _,fun k hk=>by omega⟩ ?_ ?_
 ·refine bG.df ?_ ?_ ?_ ?_ <;>simp[cG,cN,cL,cg,aC,cF,eB,I.only,ah.only,bN]
  all_goals rfl
 rintro i ⟨hi,hk⟩;by_cases hlt:i<l.length+1
 ·have hlc:=gj hlt;have hw:=fj (i:=i) (by omega);have hsl:=fun A=>Dy (l:=l) (k:=i) A (esz:=8) rfl (by omega);have f135':=hpre i;cases q3:decide (r.copy.all=eO 1 (l.take i))
  ·have R:=y6 @hlc (y6 @hw (y6 @hsl (y6 @q3 (y6 @lf (y6 @bj aH)))))
   repeat' ((first |(with_reducible refine .guard (fun hb =>?_) (fun hb =>?_) <;>try simp only[hb])|refine U.aL (by decide +kernel) rfl fun K hK =>?_|refine .flat _ (f2) rfl ?_|refine .flat _ (f135') rfl ?_|(refine .aI [0,1,2,4,5,16,19,20,21,30] hK ?_;clear hK K)|(with_reducible refine .done (hK _ ?_);clear hK K)|refine U.of rfl ?_|(with_reducible refine aB.aJ (fun h =>?_) (fun h =>?_) <;>try simp only[h])) <;>try simp only[aM,R,X6,simprocAttr])
   all_goals clear R
   refine ⟨i+1,⟨by omega,fun k hk2 =>?_⟩,by omega,?_⟩
   ·by_cases e:k=i
    ·rw[e];exact q3
    ·exact hk k (by omega)
   ·clear hk;refine bG.df ?_ ?_ ?_ ?_ <;>simp[cG,cN,cL,cg,aC,cF,eB,I.only,ah.only,bN]
    all_goals rfl
  ·rw[Fe hlt hk q3];have R:=y6 @hlc (y6 @hw (y6 @hsl (y6 @q3 (y6 @lf (y6 @bj aH)))))
   repeat' ((first |(with_reducible refine .guard (fun hb =>?_) (fun hb =>?_) <;>try simp only[hb])|refine U.aL (by decide +kernel) rfl fun K hK =>?_|refine .flat _ (f2) rfl ?_|refine .flat _ (f135') rfl ?_|(refine .aI [0,1,2,4,5,16,19,20,21,30] hK ?_;clear hK K)|(with_reducible refine .done (hK _ ?_);clear hK K)|refine U.of rfl ?_|(with_reducible refine aB.aJ (fun h =>?_) (fun h =>?_) <;>try simp only[h])) <;>try simp only[aM,R,X6,simprocAttr])
   all_goals clear R
   all_goals rfl
 ·have hlc:=gO hlt;rw[Fc fun k hk2=>hk k (by omega)];have R:=y6 @hlc aH
  repeat' ((first |(with_reducible refine .guard (fun hb =>?_) (fun hb =>?_) <;>try simp only[hb])|refine U.aL (by decide +kernel) rfl fun K hK =>?_|(refine .aI [0,1,2,4,5,16,19,20,21,30] hK ?_;clear hK K)|(with_reducible refine .done (hK _ ?_);clear hK K)|refine U.of rfl ?_|(with_reducible refine aB.aJ (fun h =>?_) (fun h =>?_) <;>try simp only[h])) <;>try simp only[aM,R,simprocAttr])
  all_goals clear R
  all_goals rfl
section
variable {α:Type} [Enc α] {P:Program} {hs:List FuncId} {Y:Value→List I→List (Nat×ah)→bV→Prop} {K:ab→Prop} {rest:List ar} {d e esz bytes:Nat}
def lW(esz:Nat)(v:I)(os:List (Nat×ah))(l:List α)(S:List Nat):Prop:=(l=[]∧(v=.c0 esz∨v=.nils esz))∨∃ n q,n∈S∧v=.view n [] esz 0 l.length∧aE os n=some (.box (.agg ((l++q).map enc)))
theorem Fs{A:ab}{w:I}(hw:w=.c0 esz∨w=.nils esz)(z:I){l:List α}(hsz:Enc.sz α=esz)(hl:l≠[])(hf:A.o d=none)(hb:l.length*bytes≤140737488355328)(hml:l.length≤maxLen) :
  ∃ p:Nat→Prop,eJ A (some d) e esz bytes z (enc l) rest w=.any p fun m=>ao rest ((A.aP d (.box (.agg (l.map enc++List.replicate m z)))).aK (some d) (.view d [] esz 0 l.length)):=by
 have hne:l.map (enc (α:=α))≠[]:=by simpa using hl
 have h1:cM A esz w=some []:=by rcases hw with rfl | rfl <;>rfl
 refine ⟨fun m=>l.length+m≤maxLen,?_⟩;rcases hw with rfl | rfl <;>simp only[eJ,h1,ke A esz l hsz,dU,if_neg hne,eI,hf,X9,Z8,Z2,if_pos (y6 hb hml),X4]
theorem Fq{A:ab}(z:I)(hsz:Enc.sz α=esz){n l:Nat}{xs ys:List α}(hy:ys≠[])(ho:A.o n=some (.box (.agg (xs.map enc))))(hl:l≤xs.length)(hr:xs.length<l+ys.length)(hf:A.o d=none)(hb:(l+ys.length)*bytes≤140737488355328)(hml:l+ys.length≤maxLen) :
  ∃ p:Nat→Prop,eJ A (some d) e esz bytes z (enc ys) rest (.view n [] esz 0 l)=.any p fun m=>ao rest ((A.aP d (.box (.agg ((xs.take l).map enc++(ys.map enc++List.replicate m z))))).aK (some d) (.view d [] esz 0 (l+ys.length))):=by
 have h1:=mQ (A:=A) (esz:=esz) (lo:=0) (k:=l) ho (by omega);have h2:(I.agg (xs.map (enc (α:=α)))).at []=some (.agg (xs.map enc)):=rfl;have h4:(xs.take l).length=l:=by rw[Y0];omega
 refine ⟨fun m=>l+ys.length+m≤maxLen,?_⟩;simp only[eJ,h1,List.drop_zero,ke A esz ys hsz,dU];rw[if_neg (by simpa using hy)];simp only[ho,h2,Z2,Z8];rw[if_neg (by omega)];simp only[eI,hf,Z2,h4];rw[if_pos ⟨hb,hml⟩]
theorem Ta(z:α){ts:List (Nat×I)}{os:List (Nat×ah)}{v:I}{l ys:List α}{S:List Nat}(hsz:Enc.sz α=esz)(hg:lW esz v os l S)(hf:aE os d=none)(hb:(l.length+ys.length)*bytes≤140737488355328)(hml:l.length+ys.length≤maxLen) :
  (∃ v' os',eJ (aw ts os) (some d) e esz bytes (enc z) (enc ys) rest v=ao rest (aw ((d,v')::ts) os')∧lW esz v' os' (l++ys) (d::S)∧∀ m,m∉d::S→aE os' m=aE os m) ∨
  (∃ p,∃ v':Nat→I,∃ os':Nat→List (Nat×ah),eJ (aw ts os) (some d) e esz bytes (enc z) (enc ys) rest v=.any p (fun m=>ao rest (aw ((d,v' m)::ts) (os' m)))∧∀ k,lW esz (v' k) (os' k) (l++ys) (d::S)∧∀ m,m∉d::S→aE (os' k) m=aE os m):=by
 by_cases hy:ys=[]
 ·subst hy;rw[List.append_nil];rcases hg with ⟨rfl,hv⟩ | ⟨n,q,hn,rfl,ho⟩
  ·rcases hv with rfl | rfl
   ·exact .inl ⟨.c0 esz,os,Ft _ hsz,.inl ⟨rfl,.inl rfl⟩,fun _ _=>rfl⟩
   ·refine .inl ⟨.nils esz,os,?_,.inl ⟨rfl,.inr rfl⟩,fun _ _=>rfl⟩;have h1:cM (aw ts os) esz (.nils esz)=some []:=rfl;simp only[eJ,h1,ke _ esz ([]:List α) hsz,dU,X0,if_true];rfl
  ·refine .inl ⟨_,os,?_,.inr ⟨n,q,List.mem_cons_of_mem _ hn,rfl,ho⟩,fun _ _=>rfl⟩;have h1:=mQ (A:=aw ts os) (esz:=esz) (lo:=0) (k:=l.length) ho (by simp);simp only[eJ,h1,ke _ esz ([]:List α) hsz,dU,X0,if_true];rfl
 ·rcases hg with ⟨rfl,hv⟩ | ⟨n,q,hn,rfl,ho⟩
  ·obtain ⟨p,h1⟩:=Fs (A:=aw ts os) (rest:=rest) (e:=e) hv (enc z) hsz hy hf (by simpa using hb) (by simpa using hml);refine .inr ⟨p,fun m=>.view d [] esz 0 ys.length,fun m=>(d,.box (.agg (ys.map enc++List.replicate m (enc z))))::os,h1,fun k=>⟨.inr ⟨d,List.replicate k z,List.mem_cons_self,by simp,?_⟩,fun m hm =>?_⟩⟩
   ·simp[aE]
   ·rw[eB,if_neg (fun h=>by rw[h] at hm;exact hm List.mem_cons_self)]
  ·by_cases hr:l.length+ys.length≤(l++q).length
   ·have h1:=xm (A:=aw ts os) (rest:=rest) (d:=some d) (e:=e) (bytes:=bytes) (esz:=esz) (enc z) hsz hy ho hr;have e1:(l++q).take l.length++(ys++(l++q).drop (l.length+ys.length))=(l++ys)++q.drop ys.length:=by simp[List.drop_append]
    rw[e1] at h1;refine .inl ⟨_,(n,.box (.agg (((l++ys)++q.drop ys.length).map enc)))::os,h1,.inr ⟨n,q.drop ys.length,List.mem_cons_of_mem _ hn,by simp,by simp[aE]⟩,fun m hm =>?_⟩;rw[eB,if_neg (fun h=>by rw[h] at hm;exact hm (List.mem_cons_of_mem _ hn))]
   ·obtain ⟨p,h1⟩:=Fq (A:=aw ts os) (rest:=rest) (d:=d) (e:=e) (bytes:=bytes) (esz:=esz) (enc z) hsz hy ho (by simp) (by omega) hf hb hml;refine .inr ⟨p,fun m=>.view d [] esz 0 (l.length+ys.length),fun m=>(d,.box (.agg (((l++q).take l.length).map enc++(ys.map enc++List.replicate m (enc z)))))::os,h1,fun k=>⟨.inr ⟨d,List.replicate k z,List.mem_cons_self,by simp,?_⟩,fun m hm =>?_⟩⟩
    ·simp[aE]
    ·rw[eB,if_neg (fun h=>by rw[h] at hm;exact hm List.mem_cons_self)]
theorem bD.S7(z:α){ts:List (Nat×I)}{os:List (Nat×ah)}{v:I}{l ys:List α}{S:List Nat}(hsz:Enc.sz α=esz)(hg:lW esz v os l S)(hf:aE os d=none)(hb:(l.length+ys.length)*bytes≤140737488355328)(hml:l.length+ys.length≤maxLen)
  (h:∀ v' os',lW esz v' os' (l++ys) (d::S)→(∀ m,m∉d::S→aE os' m=aE os m)→bD P Y hs K (ao rest (aw ((d,v')::ts) os'))):bD P Y hs K (eJ (aw ts os) (some d) e esz bytes (enc z) (enc ys) rest v):=by
 rcases Ta (rest:=rest) (e:=e) z hsz hg hf hb hml (ts:=ts) with ⟨v',os',h1,h2,h3⟩ | ⟨p,v',os',h1,h2⟩
 ·rw[h1];exact h v' os' h2 h3
 ·rw[h1];exact .any fun m _=>h _ _ (h2 m).1 (h2 m).2
theorem S9{v:I}{os:List (Nat×ah)}{l:List α}{S:List Nat}{A:ab}(hsz:Enc.sz α=esz)(h:lW esz v os l S)(hA:∀ m∈S,A.o m=aE os m):ba true A v=some (enc l):=by
 rcases h with ⟨rfl,rfl | rfl⟩ | ⟨n,q,hn,rfl,ho⟩
 ·simp only[ba,iV,X0,hsz]
 ·simp only[ba,iV,X0,hsz]
 ·have h1:ba true A (.view n [] esz 0 l.length)=kK esz 0 l.length (some ((l++q).map enc)):=by
   rw[uF,hA n hn,ho];rfl
  rw[h1,ri hsz,List.take_left]
end
theorem S8{l:List ai}{x:I}{os' os0:List (Nat×ah)}{d:Nat}(h:qR l x os'):lW 8 (x.aQ (bp [(7,d)])) (cV [(7,d)] os'++os0) l [d]:=by
 rcases h with ⟨hn,rfl | rfl,rfl⟩ | ⟨hn,k,rfl,rfl⟩
 ·exact .inl ⟨hn,.inr rfl⟩
 ·exact .inl ⟨hn,.inl rfl⟩
 ·refine .inr ⟨d,List.replicate k cv,by simp,?_,?_⟩
  ·simp[I.aQ,bp]
  ·simp only[eN,mF,Z3,Y3,aE,cV,bp,if_true,ah.aQ,I.aQ]
def jg:c7:=⟨⟨[],[]⟩,⟨[],[]⟩⟩
theorem oW:I.agg [.agg [.aj ⟨#[]⟩,.aj ⟨#[]⟩],.agg [.aj ⟨#[]⟩,.aj ⟨#[]⟩]]=enc jg:=rfl
def ou(r:c7)(l s:List ai)(x:ai):c7×List ai×Int :=
 if x∈l then (r,l,0) else if (iQ s x).2≠0 then (jg,[],(iQ s x).2) else (⟨⟨r.de.bH,r.de.ef++cQ (er 1 l) x⟩,r.copy⟩,l++[x],0)
theorem E8{s:List ai}{x:ai}(h:(iQ s x).2=0):bg x=true:=by
 simp only[iQ] at h;cases q:bg x
 ·rw[q] at h
  (repeat' split at h) <;>simp_all
 ·rfl
theorem DJ:(∀ A n b rest (q:iL),ep A (some 1) n [] b (enc q) rest (some (.agg [.nils 8]))=ao rest (A.aP n (.box (enc q)))) ∧
  (∀ A n rest (r:c7) (x y:List UInt8),ep A none n [0,1] (enc r) (enc (ak.of x)) rest (some (enc (ak.of y)))=ao rest (A.aP n (.box (enc (⟨⟨r.de.bH,x⟩,r.copy⟩:c7))))) :=
 ⟨fun A n b rest q=>by rw[fh (s:=some 1) (v:=enc q) (old:=.agg [.nils 8]) (eY _) rfl rfl,fg],
  fun A n rest r x y=>by rw[fh (s:=none) (v:=enc (ak.of x)) (old:=enc (ak.of y)) (eY _) rfl rfl];rfl⟩
theorem EO(r:c7)(h:r.small)(l s:List ai)(hl:l.length≤60)(hok:∀ x∈l,bg x=true)(hsl:s.length≤60)(h95:aR Tryz.prog 95 [enc l] (enc (⟨s⟩:iL)))(x:ai) :
  aR Tryz.prog 88 [enc r,enc l,enc x] (.tuple [enc (ou r l s x).1,enc (ou r l s x).2.1,enc (ou r l s x).2.2]):=by
 refine aR.bO Tryz.func88 G7 Ic Jr (t8 rfl) (fun hwf W0 bF E1 =>?_);simp only[yC,CJ,bC,Z8,Nat.reduceAdd];clear hwf;have f136:=Ep l x (by omega);have f93:=tp l (by omega);have f44:=EH s x (by omega);simp only[ou];cases q1:decide (x∈l)
 rotate_left
 ·rw[q1] at f136;rw[if_pos (of_decide_eq_true q1)];have R:=y6 @oW (y6 @fW (y6 @bj aH))
  repeat' ((first |refine U.aL (by decide +kernel) rfl fun K hK =>?_|refine .flat _ (f136) rfl ?_|refine .lead _ (f93) ?_|(refine U.lO (gs:=uL) [] [(3,[3]),(6,[6])] [0,1,2,3,4,5] (by decide +kernel) (dy.of (by simp[jx,cF,AY,I.only,bN])) fun K hK =>?_;simp only[j8,uL,List.getD_cons_zero,List.getD_cons_succ,R,simprocAttr])|(refine .aI [0,1,2,3,5,6,7,8,10,11,15,27] hK ?_;clear hK K)|(with_reducible refine .done (hK _ ?_);clear hK K)|refine U.of rfl ?_|(with_reducible refine aB.aJ (fun h =>?_) (fun h =>?_) <;>try simp only[h])) <;>try simp only[aM,R,simprocAttr])
  all_goals clear R
  all_goals rfl
 rw[q1] at f136;rw[if_neg (of_decide_eq_false q1)];by_cases q2:(iQ s x).2=0
 rotate_left
 ·have q2':((iQ s x).2 != 0)=true:=by simpa using q2
  rw[if_pos q2];generalize iQ s x=p at *;have R:=y6 @oW (y6 @q2' (y6 @DJ (y6 @iA (y6 @fW (y6 @bj aH)))))
  repeat' ((first |refine U.aL (by decide +kernel) rfl fun K hK =>?_|refine .flat _ (f136) rfl ?_|refine .lead _ (h95) ?_|refine .lead _ (f44) ?_|(refine .aI [0,1,2,3,5,6,7,8,10,11,15,27] hK ?_;clear hK K)|(with_reducible refine .done (hK _ ?_);clear hK K)|refine U.of rfl ?_|(with_reducible refine aB.aJ (fun h =>?_) (fun h =>?_) <;>try simp only[h])) <;>try simp only[aM,R,simprocAttr])
  all_goals clear R
  all_goals rfl
 have q2':((iQ s x).2 != 0)=false:=by simp[q2]
 rw[if_neg (by simp[q2])];have hx:=E8 q2;have f137:=Er l (by omega) hok;have hin:=sZ l;have f81:=oB (er 1 l) hin x hx;have hll:=pz hin hx;have hadd:=eE r.de.ef (cQ (er 1 l) x) (by have:=h.1.2;omega);generalize iQ s x=p at *;have hbs:gK 8 (some [enc x])=some (enc [x]):=qL 8 x rfl;have R:=y6 @oW (y6 @q2' (y6 @hadd (y6 @DJ (y6 @iA (y6 @fW (y6 @bj aH))))))
 repeat' ((first |refine U.aL (by decide +kernel) rfl fun K hK =>?_|refine .flat _ (f136) rfl ?_|refine .lead _ (h95) ?_|refine .lead _ (f44) ?_|refine .flat _ (f137) rfl ?_|refine .lead _ (f81) ?_|(refine .aI [0,1,2,3,5,6,7,8,10,11,15,27] hK ?_;clear hK K)|(with_reducible refine .done (hK _ ?_);clear hK K)|refine U.of rfl ?_|(with_reducible refine aB.aJ (fun h =>?_) (fun h =>?_) <;>try simp only[h])) <;>try simp only[aM,R,simprocAttr])
 all_goals clear R
 obtain ⟨r',hr'⟩:∃ r':c7,r'=⟨⟨r.de.bH,r.de.ef++cQ (er 1 l) x⟩,r.copy⟩:=⟨_,rfl⟩
 rw[←hr'];refine U.sub (bG.rm [3] 3 (x:=.ptr 3 []) (y:=.ref (enc r')) (ts':=[(1,enc l),(3,.ref (enc r')),(5,.ptr 5 []),(6,.ptr 6 [])]) (os':=[(6,.box (enc jg)),(5,.box (enc x))]) rfl ?_ ?_ ?_ ?_ ?_ ?_) ?_
 ·rw[uE];simp[nA,dz,aw,j0,aE,jV,qH]
 ·simp[dO,cg,ah.only,I.only,I.cD,bN]
 ·simp[cG,iW,cF,I.only,bN]
 ·simp[cN,dO,aE]
 ·simp[cL,aC,aE,I.only,bN]
 ·simp[cg,ah.only,bN]
 refine U.sub (bG.rm [5] 5 (x:=.ptr 5 []) (y:=.ref (enc x)) (ts':=[(1,enc l),(3,.ref (enc r')),(5,.ref (enc x)),(6,.ptr 6 [])]) (os':=[(6,.box (enc jg))]) rfl ?_ ?_ ?_ ?_ ?_ ?_) ?_
 ·rw[uE];simp[nA,dz,aw,j0,aE,jV,qH]
 ·simp[dO,cg,ah.only,bN]
 ·simp[cG,iW,cF,I.only,bN]
 ·simp[cN,dO,aE]
 ·simp[cL,aC,aE,I.only,bN]
 ·simp[cg,ah.only,bN]
 have R:=y6 @hbs (y6 @ec (y6 @fW (y6 @bj aH)))
 repeat' ((first |refine U.aL (by decide +kernel) rfl fun K hK =>?_|refine .flat _ (8 [0,1,3,4,2,5,6,7,8] [(3,[]),(5,[]),(6,[6])]) rfl ?_|(refine .aI [0,1,2,3,5,6,7,8,10,11,15,27] hK ?_;clear hK K)|(with_reducible refine .done (hK _ ?_);clear hK K)|refine U.of rfl ?_|(with_reducible refine aB.aJ (fun h =>?_) (fun h =>?_) <;>try simp only[h])) <;>try simp only[aM,R,simprocAttr])
 all_goals clear R
 refine U.lO (gs:=uM) [] [(3,[]),(5,[]),(6,[6])] [0,1,3,4,2,5,6,7,8] (by decide +kernel) (dy.of (by simp[jx,cF,I.only,bN])) fun K hK =>?_
 try simp only[j8,uM,Z3,X0,List.getD_cons_zero,List.getD_cons_succ,hbs,aH,aZ,simprocAttr]
 refine .bx [(7,46)] [enc l] (qR l) (xc l (by omega)) eH.nil ⟨.inl ⟨(iE _ _).symm,bN _ _,eY _⟩,trivial⟩ ?_ ?_
 ·rintro x os' (⟨_,h | h,rfl⟩ | ⟨_,k,rfl,rfl⟩)
  ·subst h;exact dx.nil (fun _=>rfl) (fun h=>by cases h)
  ·subst h;exact dx.nil (fun _=>rfl) (fun h=>by cases h)
  ·exact dx.vn (fun p=>fR p _) (fun h=>by cases h) rfl (fun h=>by cases h) rfl (by decide)
 intro y os' hp;have hg:=S8 (d:=46) (os0:=[(6,.box (enc jg))]) hp;have h6:∀ m,m≠46→aE (cV [(7,46)] os'++[(6,ah.box (enc jg))]) m=aE [(6,ah.box (enc jg))] m:=by
  intro m hm;rcases hp with ⟨_,_,rfl⟩ | ⟨_,k,_,rfl⟩
  ·rfl
  ·simp only[eN,cV,Z3,X0,bp,if_true,Y3,X4,aE,if_neg hm]
 generalize y.aQ (bp [(7,46)])=v at hg ⊢;generalize cV [(7,46)] os'++[(6,ah.box (enc jg))]=os at hg h6 ⊢;have h49:aE os 49=none:=h6 49 (by decide)
 try simp only[ec,aZ,simprocAttr]
 refine bD.S7 (default:ai) (ys:=[x]) rfl hg h49 (by simp;omega) (by simp[maxLen];omega) fun v' os'' hg2 hk =>?_;have h66:aE os'' 6=some (.box (enc jg)):=by rw[hk 6 (by decide),h6 6 (by decide)];rfl
 try simp only[h66,fW,aZ,simprocAttr]
 have hf:∀ ts,ba true (aw ts ((6,.box (enc r'))::os'')) v'=some (enc (l++[x])):=fun ts=>S9 rfl hg2 fun m hm=>by
  have:m≠6:=by
   simp only[zz1,List.not_mem_nil,or_false] at hm;omega
  simp[aw,aE,this]
 refine .done (hK _ ?_);clear hK K;refine U.ret ?_;simp only[aZ,simprocAttr]
 try simp only[hf,aH,aZ,simprocAttr]
 all_goals rfl
def qn(r:c7)(l s:List ai)(x:ai):c7×List ai×Int:=if nF r l=false then (jg,[],84) else ou r l s x
theorem EG(r:c7)(h:r.small)(l s:List ai)(hl:l.length≤1000000)(hsl:s.length≤60)(h95:nF r l=true→aR Tryz.prog 95 [enc l] (enc (⟨s⟩:iL)))(x:ai) :
  aR Tryz.prog 35 [enc r,enc l,enc x] (.tuple [enc (qn r l s x).1,enc (qn r l s x).2.1,enc (qn r l s x).2.2]):=by
 refine aR.bO Tryz.func35 GO HU I9 (t8 rfl) (fun hwf W0 bF E1 =>?_);simp only[yk,Cs,bC,Z8,Nat.reduceAdd];clear hwf;have f:=EN r h l hl;simp only[qn];cases q:nF r l
 ·rw[q] at f;have R:=y6 @oW (y6 @fW (y6 @bj aH))
  repeat' ((first |refine U.aL (by decide +kernel) rfl fun K hK =>?_|refine .flat _ (f) rfl ?_|(refine .aI [0,1,2,3,5,6,7,8,12] hK ?_;clear hK K)|(with_reducible refine .done (hK _ ?_);clear hK K)|refine U.of rfl ?_|(with_reducible refine aB.aJ (fun h =>?_) (fun h =>?_) <;>try simp only[h])) <;>try simp only[aM,R,simprocAttr])
  all_goals clear R
  all_goals rfl
 rw[q] at f;have hw:gI [] l=true:=by simp only[nF,Z0] at q;exact q.1.1
 have f88:=EO r h l s (D5 hw) (D6 hw) hsl (h95 q) x;simp only[Bool.true_eq_false,if_false];generalize ou r l s x=p at *;have R:=y6 @oW (y6 @fW (y6 @bj aH))
 repeat' ((first |refine U.aL (by decide +kernel) rfl fun K hK =>?_|refine .flat _ (f) rfl ?_|refine .lead _ (f88) ?_|(refine .aI [0,1,2,3,5,6,7,8,12] hK ?_;clear hK K)|(with_reducible refine .done (hK _ ?_);clear hK K)|refine U.of rfl ?_|(with_reducible refine aB.aJ (fun h =>?_) (fun h =>?_) <;>try simp only[h])) <;>try simp only[aM,R,simprocAttr])
 all_goals clear R
 all_goals rfl
end Go.Proofs.YtoffnnjbplgnaaaGreatDoor
namespace Go.Proofs.YtoffnnjbplgnaaaGreatDoor
open Go Go.Abs Go.RowKit
open Go.Abs.Enc (enc)
def fZ(p:List Int)(i:Nat)(n:Int):Int:=if p=[] then 0 else vi (p.getD (i%p.length) 0) n
theorem V2(i n:Nat):(i:Int).tmod (n:Int)=((i%n:Nat):Int):=rfl
theorem th(p:List Int)(i:Nat)(n:Int)(hn:n≠0)(hi:i≤1000)(hp:p.length≤1000000000000000):aR Tryz.prog 121 [enc p,.int .i64 (i:Int),enc n] (enc (fZ p i n)):=by
 refine aR.bO Tryz.func121 Gb Ho IB (t8 rfl) (fun hwf W0 bF E1 =>?_);simp only[xI,BU,bC,Z8,Nat.reduceAdd];clear hwf;simp only[fZ];by_cases h:p=[]
 ·have q:((p.length:Int)==0)=true:=by rw[h];rfl
  rw[if_pos h];have R:=y6 @q aH
  repeat' ((first |refine U.aL (by decide +kernel) rfl fun K hK =>?_|(refine .aI [0,1,2,6,9] hK ?_;clear hK K)|(with_reducible refine .done (hK _ ?_);clear hK K)|refine U.of rfl ?_|(with_reducible refine aB.aJ (fun h =>?_) (fun h =>?_) <;>try simp only[h])) <;>try simp only[aM,R,simprocAttr])
  all_goals clear R
  all_goals rfl
 ·have hpos:0<p.length:=List.length_pos_iff.2 h;have q:((p.length:Int)==0)=false:=by rw[beq_eq_false_iff_ne];omega
  have hnz:¬ (p.length:Int)=0:=by omega
  have hr:=V2 i p.length;have hlt:i%p.length<p.length:=Nat.mod_lt _ hpos;have he:=fun A=>gP (A:=A) 1 hlt rfl;rw[if_neg h];have hg:p.getD (i%p.length) 0=p[i%p.length]:=by simp[Y8,hlt]
  rw[hg];generalize p[i%p.length]=x at *;have R:=y6 @q (y6 @hnz (y6 @hr (y6 @he (y6 @hn aH))))
  repeat' ((first |refine U.aL (by decide +kernel) rfl fun K hK =>?_|(refine .aI [0,1,2,6,9] hK ?_;clear hK K)|(with_reducible refine .done (hK _ ?_);clear hK K)|refine U.of rfl ?_|(with_reducible refine aB.aJ (fun h =>?_) (fun h =>?_) <;>try simp only[h])) <;>try simp only[aM,R,simprocAttr])
  all_goals clear R
  all_goals rfl
end Go.Proofs.YtoffnnjbplgnaaaGreatDoor
namespace Go.Proofs.YtoffnnjbplgnaaaGreatDoor
open Go Go.Abs
open Go.Abs.Enc (enc)
def tc(u:List UInt8)(p:List Int)(i:Nat):List UInt8:=u.take (fZ p i (u.length+1:Nat)).toNat
def qa(w:List UInt8)(p:List Int)(i:Nat):List UInt8:=if fZ p (i+1) 2=1∧0<w.length then w.set (fZ p (i+2) (w.length:Nat)).toNat 63 else w
def wI(r:c8)(p:List Int)(i:Nat):List UInt8:=r.bH++qa (tc r.ef p i) p i
def lr(r:c8)(p:List Int)(i:Nat):c8:=⟨wI r p i,[]⟩
theorem DC(w:List UInt8)(p:List Int)(i:Nat):(qa w p i).length=w.length:=by
 rw[qa];split <;>simp
theorem tI{p:List Int}{i:Nat}{n:Nat}(hn:0<n∧n≤4611686018427387904)(hp:∀ x∈p,-9223372036854775808≤x∧x≤9223372036854775807):0≤fZ p i (n:Nat)∧fZ p i (n:Nat)<n:=by
 rw[fZ];by_cases h:p=[]
 ·rw[if_pos h];omega
 ·rw[if_neg h];have hpos:0<p.length:=List.length_pos_iff.2 h;have hlt:i%p.length<p.length:=Nat.mod_lt _ hpos;have hm:p.getD (i%p.length) 0∈p:=by simp only[Y8,Y6 hlt,Option.getD_some];exact List.getElem_mem hlt
  rw[Ue (hp _ hm) (by omega)];exact ⟨Int.emod_nonneg _ (by omega),Int.emod_lt_of_pos _ (by omega)⟩
theorem xE:∀ l:List UInt8,l9 (l.map enc)=some l
 | []=>rfl
 |b::l=>by
  have h:=xE l;rw[Z3]
  show (match I.int .u8 (b.toNat:Int),l9 (l.map enc) with | .int .u8 n,some l=>some (UInt8.ofNat n.toNat::l) | _,_=>none)=_
  rw[h]
  show some (UInt8.ofNat ((b.toNat:Int)).toNat::l)=_
  simp
theorem qI(l:List UInt8):ku (some (l.map enc))=some (enc (ak.of l)):=by
 rw[ku,xE];rfl
theorem sS(A:ab)(t:List UInt8):jL A 1 (enc (ak.of t))=some (t.map enc):=rfl
theorem sJ(n:Nat):List.replicate n (I.int .u8 0)=(List.replicate n (0:UInt8)).map enc:=by rw[List.map_replicate];rfl
def wm(sz z lo k:Nat):Option (List I)→Option (List I)
 |some fs=>if lo+k≤fs.length∧z=sz then some ((fs.drop lo).take k) else none
 |none=>none
theorem sT(A:ab)(sz n z lo k:Nat)(p:List Nat):jL A sz (.view n p z lo k)=wm sz z lo k (ej (dz p (A.o n))):=by
 show cM A sz (.view n p z lo k)=_
 simp only[cM,jr,fo];cases dz p (A.o n) with
 |none=>rfl
 |some c=>cases c <;>rfl
theorem sV(l q:List UInt8){n:Nat}(h:n=l.length):wm 1 1 0 n (some ((l++q).map enc))=some (l.map enc):=by
 subst h;simp only[wm,Z2,List.drop_zero,←List.map_take,List.take_left];rw[if_pos ⟨by simp,trivial⟩]
theorem sU(A:ab)(k n:Nat)(l:List UInt8)(hn:n=l.length)(h:A.o k=some (.box (.agg (l.map enc)))):cM A 1 (.view k [] 1 0 n)=some (l.map enc):=by
 subst hn;have e:=mQ (A:=A) (esz:=1) (lo:=0) (k:=l.length) h (by simp);rw[List.drop_zero,List.take_length] at e;exact e
theorem y5{A:ab}{d:Option Nat}{z esz:Nat}{rest:List ar}{ys:List I} : jT A d esz (ao rest) (.c0 z) (some ys)=ao rest (A.aK d (.int .i64 0)):=rfl
theorem WE{n:Nat}{p:List Nat}{sz k:Nat} : iy n p sz 0 k k (some (.int .i64 k)) none none=some (.c0 sz):=by
 simp only[iy,gJ];rw[if_pos ⟨by omega,by omega,by omega⟩,if_pos (by omega)]
theorem Dv{A:ab}{n k i:Nat}{xs:List UInt8}(hk:k=xs.length)(hi:i<k)(h:A.o n=some (.box (.agg (xs.map enc)))):jj A 1 (some (.int .i64 i)) none none (.view n [] 1 0 k)=some (.view n [] 1 i (k-i)):=by
 subst hk;rw[wi,h]
 show ln n [] 1 0 xs.length 1 _ none none (some (xs.map enc))=_
 rw[wj,Z2,lR (by omega) (by omega) hi]
theorem Dw{A:ab}{n k:Nat}{xs:List UInt8}(hk:k=xs.length)(h:A.o n=some (.box (.agg (xs.map enc)))):jj A 1 (some (.int .i64 k)) none none (.view n [] 1 0 k)=some (.c0 1):=by
 subst hk;rw[wi,h]
 show ln n [] 1 0 xs.length 1 _ none none (some (xs.map enc))=_
 rw[wj,Z2,WE]
theorem qS{A:ab}{d:Option Nat}{n k m:Nat}{rest:List ar}{a:List UInt8}(hk:k=a.length+m)(h:A.o n=some (.box (.agg ((List.replicate k (0:UInt8)).map enc)))) :
  jT A d 1 (ao rest) (.view n [] 1 0 k) (some (a.map enc))=ao rest ((A.aP n (.box (.agg ((a++List.replicate m (0:UInt8)).map enc)))).aK d (.int .i64 (a.length:Nat))):=by
 subst hk;rw[nu (c:=a.length) h (by simp) (by omega)];simp
theorem yZ{A:ab}{d:Option Nat}{n i m:Nat}{rest:List ar}{a b:List UInt8}(hi:i=a.length)(hm:m=b.length)(h:A.o n=some (.box (.agg ((a++List.replicate m (0:UInt8)).map enc)))) :
  jT A d 1 (ao rest) (.view n [] 1 i m) (some (b.map enc))=ao rest ((A.aP n (.box (.agg ((a++b).map enc)))).aK d (.int .i64 (b.length:Nat))):=by
 subst hi hm;rw[nu (c:=b.length) h (by simp) (by omega)];simp
theorem w9(r:c8)(hr:r.small)(p:List Int)(i:Nat)(hi:i≤900)(hp:p.length≤100000000000000)(hpi:∀ x∈p,-9223372036854775808≤x∧x≤9223372036854775807):aR Tryz.prog 75 [enc r,enc p,.int .i64 (i:Int)] (enc (lr r p i)):=by
 obtain ⟨n1,hn1⟩:∃ n1:Nat,fZ p i ((r.ef.length+1:Nat):Int)=(n1:Int):=Y2 (tI (by have:=hr.2;omega) hpi).1;have hn1l:n1≤r.ef.length:=by have:=(tI (p:=p) (i:=i) (n:=r.ef.length+1) (by have:=hr.2;omega) hpi).2;omega
 have hd:=hr.1;have hu:=hr.2;have e1:tc r.ef p i=r.ef.take n1:=by rw[tc,hn1];rfl
 have hnl:(r.ef.take n1).length=n1:=by rw[Y0];omega
 rw[lr,wI,e1];refine aR.bO Tryz.func75 GX H2 Jh (t8 rfl) (fun hwf W0 bF E1 =>?_);simp only[c75,Cz,bC,Z8,Nat.reduceAdd];clear hwf;have f1:=th p i ((r.ef.length+1:Nat):Int) (by omega) (by omega) (by omega);have f2:=th p (i+1) 2 (by omega) (by omega) (by omega);have hss:=p8 (ak.of r.ef) (j:=n1) (by rw[ak.dm];exact hn1l);rw[ak.dm] at hss;have hs2:=v8 (r.ef.take n1);have hl:=fun t=>lQ t;have hw1:IntKind.i64.wrap (((r.ef.length:Nat):Int)+1)=((r.ef.length+1:Nat):Int):=by rw[dH _ (by omega) (by omega)];omega
 have hw2:IntKind.i64.wrap ((i:Int)+1)=((i+1:Nat):Int):=by rw[dH _ (by omega) (by omega)];omega
 have hw3:IntKind.i64.wrap ((i:Int)+2)=((i+2:Nat):Int):=by rw[dH _ (by omega) (by omega)];omega
 rw[hn1] at f1
 replace f2:aR Tryz.prog 121 [enc p,.int .i64 ((i+1:Nat):Int),.int .i64 2] (.int .i64 (fZ p (i+1) 2)):=f2
 replace f1:aR Tryz.prog 121 [enc p,.int .i64 (i:Int),.int .i64 ((r.ef.length+1:Nat):Int)] (.int .i64 (n1:Int)):=f1
 obtain ⟨l2,hl2⟩:∃ l2,qa (r.ef.take n1) p i=l2:=⟨_,rfl⟩
 have hl2n:l2.length=n1:=by rw[←hl2,DC,hnl]
 rw[hl2];rw[qa] at hl2;generalize r.ef.take n1=w at *;have hpi':=hpi;clear e1;have hiv:=trivial;have hat:=trivial;have hst:=trivial;have f3:=f2;rcases Nat.eq_zero_or_pos n1 with h0 | h0
 ·have hw0:l2=w:=by
   rw[if_neg] at hl2
   ·exact hl2.symm
   ·intro h;omega
  subst hw0;have hg:decide ((n1:Int)>0)=false:=decide_eq_false (by omega);cases hb:fZ p (i+1) 2==1
  ·generalize fZ p (i+1) 2=a2 at *;have hw4:IntKind.i64.wrap ((r.bH.length:Int)+(n1:Int))=((r.bH.length+n1:Nat):Int):=by rw[dH _ (by omega) (by omega)];omega
   have hmk:=fun (A:ab) (rest:List ar)=>r8 (A:=A) (d:=44) (bytes:=1) (z:=.int .u8 0) (rest:=rest) (n:=r.bH.length+n1) (by omega) (by unfold maxLen;omega);have hcp:=fun (A:ab) (rest:List ar)=>qS (A:=A) (d:=some 48) (n:=44) (k:=r.bH.length+n1) (m:=n1) (rest:=rest) (a:=r.bH) rfl;have hcv:=fun (q:List UInt8)=>sV l2 q (n:=n1) hl2n.symm;have hsb:=fun (A:ab)=>sU A 44 (r.bH.length+n1) (r.bH++l2) (by simp[hl2n]);have hbs:=qI (r.bH++l2);have hce:=fun (A:ab)=>sS A r.bH;have hl0:l2=[]:=X7 (by omega);have hsl:=fun (A:ab)=>Dw (A:=A) (n:=44) (k:=r.bH.length+n1) (xs:=r.bH++List.replicate n1 0) (by simp);have hn:((r.bH.length+n1:Nat):Int)=(r.bH.length:Int):=by omega
   have hrp:r.bH++List.replicate n1 (0:UInt8)=r.bH++l2:=by rw[hl0,h0];rfl
   rw[hn,hrp] at hsl;rw[hrp] at hcp;have R:=y6 @hg (y6 @py (y6 @sT (y6 @lI (y6 @sJ (y6 @hw1 (y6 @hw2 (y6 @hw3 (y6 @hw4 (y6 @hb (y6 @hnl (y6 @hmk (y6 @hcp (y6 @hcv (y6 @hsb (y6 @hbs (y6 @hce (y6 @hsl (y6 @y5 (y6 @js (y6 @fW (y6 @kz (y6 @hl (y6 @hss (y6 @hs2 (y6 @bj (y6 @r0 aH))))))))))))))))))))))))))
   repeat' ((first |(with_reducible refine .guard (fun hb =>?_) (fun hb =>?_) <;>try simp only[hb])|(refine U.lO (gs:=kN) [] [] [0,1,2,3,4,5,6,7,8,9,10,11] (by decide +kernel) (dy.of (by simp[jx])) fun K hK =>?_;simp only[j8,kN,List.getD_cons_zero,List.getD_cons_succ,R,simprocAttr])|refine bD.ez rfl fun m =>?_|refine U.aL (by decide +kernel) rfl fun K hK =>?_|refine .flat _ (f1) rfl ?_|refine .flat _ (f2) rfl ?_|(refine .aI [0,1,2,3,6,7,8,29] hK ?_;clear hK K)|(with_reducible refine .done (hK _ ?_);clear hK K)|refine U.of rfl ?_|(with_reducible refine aB.aJ (fun h =>?_) (fun h =>?_) <;>try simp only[h])) <;>try simp only[aM,R,X6,simprocAttr])
   all_goals clear R
   all_goals rfl
  ·generalize fZ p (i+1) 2=a2 at *;have hw4:IntKind.i64.wrap ((r.bH.length:Int)+(n1:Int))=((r.bH.length+n1:Nat):Int):=by rw[dH _ (by omega) (by omega)];omega
   have hmk:=fun (A:ab) (rest:List ar)=>r8 (A:=A) (d:=44) (bytes:=1) (z:=.int .u8 0) (rest:=rest) (n:=r.bH.length+n1) (by omega) (by unfold maxLen;omega);have hcp:=fun (A:ab) (rest:List ar)=>qS (A:=A) (d:=some 48) (n:=44) (k:=r.bH.length+n1) (m:=n1) (rest:=rest) (a:=r.bH) rfl;have hcv:=fun (q:List UInt8)=>sV l2 q (n:=n1) hl2n.symm;have hsb:=fun (A:ab)=>sU A 44 (r.bH.length+n1) (r.bH++l2) (by simp[hl2n]);have hbs:=qI (r.bH++l2);have hce:=fun (A:ab)=>sS A r.bH;have hl0:l2=[]:=X7 (by omega);have hsl:=fun (A:ab)=>Dw (A:=A) (n:=44) (k:=r.bH.length+n1) (xs:=r.bH++List.replicate n1 0) (by simp);have hn:((r.bH.length+n1:Nat):Int)=(r.bH.length:Int):=by omega
   have hrp:r.bH++List.replicate n1 (0:UInt8)=r.bH++l2:=by rw[hl0,h0];rfl
   rw[hn,hrp] at hsl;rw[hrp] at hcp;have R:=y6 @hg (y6 @py (y6 @sT (y6 @lI (y6 @sJ (y6 @hw1 (y6 @hw2 (y6 @hw3 (y6 @hw4 (y6 @hb (y6 @hnl (y6 @hmk (y6 @hcp (y6 @hcv (y6 @hsb (y6 @hbs (y6 @hce (y6 @hsl (y6 @y5 (y6 @js (y6 @fW (y6 @kz (y6 @hl (y6 @hss (y6 @hs2 (y6 @bj (y6 @r0 aH))))))))))))))))))))))))))
   repeat' ((first |(with_reducible refine .guard (fun hb =>?_) (fun hb =>?_) <;>try simp only[hb])|(refine U.lO (gs:=kN) [] [] [0,1,2,3,4,5,6,7,8,9,10,11] (by decide +kernel) (dy.of (by simp[jx])) fun K hK =>?_;simp only[j8,kN,List.getD_cons_zero,List.getD_cons_succ,R,simprocAttr])|refine bD.ez rfl fun m =>?_|refine U.aL (by decide +kernel) rfl fun K hK =>?_|refine .flat _ (f1) rfl ?_|refine .flat _ (f2) rfl ?_|(refine .aI [0,1,2,3,6,7,8,29] hK ?_;clear hK K)|(with_reducible refine .done (hK _ ?_);clear hK K)|refine U.of rfl ?_|(with_reducible refine aB.aJ (fun h =>?_) (fun h =>?_) <;>try simp only[h])) <;>try simp only[aM,R,X6,simprocAttr])
   all_goals clear R
   all_goals rfl
 ·have hg:decide ((n1:Int)>0)=true:=decide_eq_true (by omega);cases hb:fZ p (i+1) 2==1
  ·have hw0:l2=w:=by
    rw[if_neg] at hl2
    ·exact hl2.symm
    ·intro h;rw[h.1] at hb;cases hb
   subst hw0;generalize fZ p (i+1) 2=a2 at *;have hw4:IntKind.i64.wrap ((r.bH.length:Int)+(n1:Int))=((r.bH.length+n1:Nat):Int):=by rw[dH _ (by omega) (by omega)];omega
   have hmk:=fun (A:ab) (rest:List ar)=>r8 (A:=A) (d:=44) (bytes:=1) (z:=.int .u8 0) (rest:=rest) (n:=r.bH.length+n1) (by omega) (by unfold maxLen;omega);have hcp:=fun (A:ab) (rest:List ar)=>qS (A:=A) (d:=some 48) (n:=44) (k:=r.bH.length+n1) (m:=n1) (rest:=rest) (a:=r.bH) rfl;have hcv:=fun (q:List UInt8)=>sV l2 q (n:=n1) hl2n.symm;have hsb:=fun (A:ab)=>sU A 44 (r.bH.length+n1) (r.bH++l2) (by simp[hl2n]);have hbs:=qI (r.bH++l2);have hce:=fun (A:ab)=>sS A r.bH;have hsl:=fun (A:ab)=>Dv (A:=A) (n:=44) (k:=r.bH.length+n1) (i:=r.bH.length) (xs:=r.bH++List.replicate n1 0) (by simp) (by omega);rw[Nat.add_sub_cancel_left] at hsl;have hcb:=fun (A:ab) (rest:List ar)=>yZ (A:=A) (d:=some 55) (n:=44) (i:=r.bH.length) (m:=n1) (rest:=rest) (a:=r.bH) (b:=l2) rfl hl2n.symm;have R:=y6 @hg (y6 @hiv (y6 @hat (y6 @hst (y6 @uZ (y6 @py (y6 @sT (y6 @lI (y6 @sJ (y6 @hw1 (y6 @hw2 (y6 @hw3 (y6 @hw4 (y6 @hb (y6 @hnl (y6 @hmk (y6 @hcp (y6 @hcv (y6 @hsb (y6 @hbs (y6 @hce (y6 @hsl (y6 @hcb (y6 @js (y6 @fW (y6 @kz (y6 @hl (y6 @hss (y6 @hs2 (y6 @bj (y6 @r0 aH))))))))))))))))))))))))))))))
   repeat' ((first |(with_reducible refine .guard (fun hb =>?_) (fun hb =>?_) <;>try simp only[hb])|(refine U.lO (gs:=kN) [] [] [0,1,2,3,4,5,6,7,8,9,10,11] (by decide +kernel) (dy.of (by simp[jx])) fun K hK =>?_;simp only[j8,kN,List.getD_cons_zero,List.getD_cons_succ,R,simprocAttr])|refine bD.ez rfl fun m =>?_|refine U.aL (by decide +kernel) rfl fun K hK =>?_|refine .flat _ (f1) rfl ?_|refine .flat _ (f2) rfl ?_|refine .flat _ (f3) rfl ?_|(refine .aI [0,1,2,3,6,7,8,29] hK ?_;clear hK K)|(with_reducible refine .done (hK _ ?_);clear hK K)|refine U.of rfl ?_|(with_reducible refine aB.aJ (fun h =>?_) (fun h =>?_) <;>try simp only[h])) <;>try simp only[aM,R,X6,simprocAttr])
   all_goals clear R
   all_goals rfl
  ·obtain ⟨j,hj,hjn⟩:∃ j:Nat,fZ p (i+2) (n1:Int)=(j:Int)∧j<n1:=by
    have:=tI (p:=p) (i:=i+2) (n:=n1) (by omega) hpi';obtain ⟨j,hj⟩:=Y2 this.1;exact ⟨j,hj,by omega⟩
   have hw0:w.set j 63=l2:=by
    rw[if_pos ⟨by simpa using hb,by omega⟩,hnl,hj] at hl2;exact hl2
   clear f3 hiv hat hst;have f3:=th p (i+2) (n1:Int) (by omega) (by omega) (by omega);rw[hj] at f3
   replace f3:aR Tryz.prog 121 [enc p,.int .i64 ((i+2:Nat):Int),.int .i64 (n1:Int)] (.int .i64 (j:Int)):=f3
   have hiv:=fun (fs:List I)=>Tn (m:=19) (sz:=1) (lo:=0) (l:=n1) (i:=j) (fs:=fs) hjn;rw[Z8] at hiv;have hat:∀ q:List UInt8,kr j [] (some ((w++q).map enc))=some (enc w[j]):=fun q=>by
    have h2:((w++q).map (enc (α:=UInt8)))[j]?=some (enc w[j]):=by
     rw[Y9,X8 (by omega),Y6 (by omega)];rfl
    simp only[kr,h2,nj,qH]
   have hst:∀ (A:ab) (q:List UInt8) (u:UInt8) (rest:List ar),ep A none 19 [j] (.agg ((w++q).map enc)) (.int .u8 63) rest (some (enc u))=ao rest (A.aP 19 (.box (.agg ((l2++q).map enc)))):=fun A q u rest=>by
    have:=WK (A:=A) (n:=19) (i:=j) (xs:=w++q) 63 u (rest:=rest) rfl (by simp;omega);rw[List.set_append_left _ _ (by omega),hw0] at this;exact this
   generalize fZ p (i+1) 2=a2 at *;have hw4:IntKind.i64.wrap ((r.bH.length:Int)+(n1:Int))=((r.bH.length+n1:Nat):Int):=by rw[dH _ (by omega) (by omega)];omega
   have hmk:=fun (A:ab) (rest:List ar)=>r8 (A:=A) (d:=44) (bytes:=1) (z:=.int .u8 0) (rest:=rest) (n:=r.bH.length+n1) (by omega) (by unfold maxLen;omega);have hcp:=fun (A:ab) (rest:List ar)=>qS (A:=A) (d:=some 48) (n:=44) (k:=r.bH.length+n1) (m:=n1) (rest:=rest) (a:=r.bH) rfl;have hcv:=fun (q:List UInt8)=>sV l2 q (n:=n1) hl2n.symm;have hsb:=fun (A:ab)=>sU A 44 (r.bH.length+n1) (r.bH++l2) (by simp[hl2n]);have hbs:=qI (r.bH++l2);have hce:=fun (A:ab)=>sS A r.bH;have hsl:=fun (A:ab)=>Dv (A:=A) (n:=44) (k:=r.bH.length+n1) (i:=r.bH.length) (xs:=r.bH++List.replicate n1 0) (by simp) (by omega);rw[Nat.add_sub_cancel_left] at hsl;have hcb:=fun (A:ab) (rest:List ar)=>yZ (A:=A) (d:=some 55) (n:=44) (i:=r.bH.length) (m:=n1) (rest:=rest) (a:=r.bH) (b:=l2) rfl hl2n.symm;have R:=y6 @hg (y6 @hiv (y6 @hat (y6 @hst (y6 @uZ (y6 @py (y6 @sT (y6 @lI (y6 @sJ (y6 @hw1 (y6 @hw2 (y6 @hw3 (y6 @hw4 (y6 @hb (y6 @hnl (y6 @hmk (y6 @hcp (y6 @hcv (y6 @hsb (y6 @hbs (y6 @hce (y6 @hsl (y6 @hcb (y6 @js (y6 @fW (y6 @kz (y6 @hl (y6 @hss (y6 @hs2 (y6 @bj (y6 @r0 aH))))))))))))))))))))))))))))))
   repeat' ((first |(with_reducible refine .guard (fun hb =>?_) (fun hb =>?_) <;>try simp only[hb])|(refine U.lO (gs:=kN) [] [] [0,1,2,3,4,5,6,7,8,9,10,11] (by decide +kernel) (dy.of (by simp[jx])) fun K hK =>?_;simp only[j8,kN,List.getD_cons_zero,List.getD_cons_succ,R,simprocAttr])|refine bD.ez rfl fun m =>?_|refine U.aL (by decide +kernel) rfl fun K hK =>?_|refine .flat _ (f1) rfl ?_|refine .flat _ (f2) rfl ?_|refine .flat _ (f3) rfl ?_|(refine .aI [0,1,2,3,6,7,8,29] hK ?_;clear hK K)|(with_reducible refine .done (hK _ ?_);clear hK K)|refine U.of rfl ?_|(with_reducible refine aB.aJ (fun h =>?_) (fun h =>?_) <;>try simp only[h])) <;>try simp only[aM,R,X6,simprocAttr])
   all_goals clear R
   all_goals rfl
def kg(r:c7)(p:List Int):c7:=⟨lr r.de p 0,lr r.copy p 3⟩
theorem tk(r:c7)(h:r.small)(p:List Int)(hp:p.length≤100000000000000)(hpi:∀ x∈p,-9223372036854775808≤x∧x≤9223372036854775807):aR Tryz.prog 22 [enc r,enc p] (enc (kg r p)):=by
 refine aR.bO Tryz.func22 GG HM I1 (t8 rfl) (fun hwf W0 bF E1 =>?_);simp only[yb,Ck,bC,Z8];clear hwf;have f1:=w9 r.de h.1 p 0 (by omega) hp hpi;have f2:=w9 r.copy h.2 p 3 (by omega) hp hpi
 replace f1:aR Tryz.prog 75 [enc r.de,enc p,.int .i64 0] (enc (lr r.de p 0)):=f1
 replace f2:aR Tryz.prog 75 [enc r.copy,enc p,.int .i64 3] (enc (lr r.copy p 3)):=f2
 simp only[kg];generalize lr r.de p 0=a at *;generalize lr r.copy p 3=b at *;have R:=y6 @kz (y6 @js (y6 @ma (y6 @zm (y6 @fW aH))))
 repeat' ((first |refine U.aL (by decide +kernel) rfl fun K hK =>?_|refine .flat _ (f1) rfl ?_|refine .flat _ (f2) rfl ?_|(refine .aI [0,1,2,4] hK ?_;clear hK K)|(with_reducible refine .done (hK _ ?_);clear hK K)|refine U.of rfl ?_|(with_reducible refine aB.aJ (fun h =>?_) (fun h =>?_) <;>try simp only[h])) <;>try simp only[aM,R,simprocAttr])
 all_goals clear R
 all_goals rfl
def ir:ai:=⟨2,0,5,10,12,0,0,[97]⟩
def iD:List UInt8:=[51,55,52,56,51,55,32,50,32,48,32,53,32,49,48,32,49,50,32,48,32,48,32,97,10]
def cK:c7:=⟨⟨[],iD⟩,⟨[],[]⟩⟩
theorem KI:e9 1 ir=(iD,374837,0):=by decide +kernel
theorem KL:fF 1 iD=(ir,374837,0):=by decide +kernel
theorem KN:qn jg [] [] ir=(cK,[ir],0):=by decide +kernel
theorem KJ:(j6 (kg cK [])).2=[]:=by decide +kernel
theorem KK:(j6 (kg cK [25,0,0])).2=[ir]:=by decide +kernel
theorem KM:(j6 (kg cK [25,1,3])).2=[]:=by decide +kernel
theorem KH:j6 (oO (oh cK) false)=(⟨⟨iD,[]⟩,⟨iD,[]⟩⟩,[ir]):=by decide +kernel
theorem lZ:iD.length=25:=rfl
theorem E0:iD.drop 7=[50,32,48,32,53,32,49,48,32,49,50,32,48,32,48,32,97,10]:=rfl
theorem Kz:I.agg [.agg [.int .i64 2,.int .i64 0],.int .i64 5,.int .i64 10,.int .i64 12,.agg [.int .i64 0,.int .i64 0],.aj ⟨#[97]⟩]=enc ir:=rfl
theorem wF(p:List Int):(kg cK p).small:=by
 refine ⟨⟨?_,?_⟩,⟨?_,?_⟩⟩ <;>simp[kg,lr,wI,DC,tc,cK,lZ] <;>omega
theorem wW:aR Tryz.prog 14 [] (enc true):=by
 refine aR.bO Tryz.func14 Gs Hz IN (t8 rfl) (fun hwf W0 bF E1 =>?_);simp only[xT,B8,bC];clear hwf;have f29:=w6 1 ir;rw[KI] at f29;have f31:=tl 1 iD (by rw[lZ];omega);rw[KL] at f31;have f35:=EG jg ⟨⟨by decide,by decide⟩,⟨by decide,by decide⟩⟩ [] [] (by decide) (by decide) (fun _=>ES) ir;rw[KN] at f35;have h0:cK.small:=by refine ⟨⟨?_,?_⟩,⟨?_,?_⟩⟩ <;>simp[cK,lZ]
 have t1:=tk cK h0 [] (by simp) (by simp);have t2:=tk cK h0 [25,0,0] (by simp) (by simp);have t3:=tk cK h0 [25,1,3] (by simp) (by simp);have o1:=qt _ (wF []);have o2:=qt _ (wF [25,0,0]);have o3:=qt _ (wF [25,1,3]);have f20:=EB cK h0;have f24:=EC (oh cK) false;have o4:=qt (oO (oh cK) false) (by refine ⟨⟨?_,?_⟩,⟨?_,?_⟩⟩ <;>simp[oh,oO,cK,c8.all,lZ]);rw[KJ] at o1;rw[KK] at o2;rw[KM] at o3;rw[KH] at o4;generalize kg cK []=T1 at *;generalize kg cK [25,0,0]=T2 at *;generalize kg cK [25,1,3]=T3 at *;generalize oh cK=T4 at *;generalize oO T4 false=T5 at *;generalize (j6 T1).1=U1 at *;generalize (j6 T2).1=U2 at *;generalize (j6 T3).1=U3 at *
 dsimp only at f29 f31 f35 o4
 have hl:lF (enc (ak.of iD))=some (.int .i64 25):=by rw[lQ,lZ];rfl
 have hww:cK.de.ef=iD:=rfl;have hl2:(((ak.of iD).l.length:Nat):Int)=25:=by rw[ak.dm,lZ];rfl
 have hd1:decide (cK.copy=(⟨[],[]⟩:c8))=true:=rfl;have hw7:IntKind.i64.wrap 7=7:=by decide
 have hl1:(((([ir]:List ai).length:Nat):Int)==1)=true:=rfl;have hn0:(((([]:List ai).length:Nat):Int)==0)=true:=rfl;have hse:bB .eql (enc (ak.of [50,32,48,32,53,32,49,48,32,49,50,32,48,32,48,32,97,10])) (.aj ⟨#[50,32,48,32,53,32,49,48,32,49,50,32,48,32,48,32,97,10]⟩)=some (.bool true):=by
  show bB .eql (enc (ak.of _)) (enc (ak.of [50,32,48,32,53,32,49,48,32,49,50,32,48,32,48,32,97,10]))=_
  rw[lf];simp
 have hp1:fA [.int .i64 0,.int .i64 0] [(0,.int .i64 2)]=some [.int .i64 2,.int .i64 0]:=rfl;have hp2:fA [.agg [.int .i64 0,.int .i64 0],.int .i64 0,.int .i64 0,.int .i64 0,.agg [.int .i64 0,.int .i64 0],.aj ⟨#[]⟩] [(0,.agg [.int .i64 2,.int .i64 0]),(1,.int .i64 5),(2,.int .i64 10),(3,.int .i64 12),(5,.aj ⟨#[97]⟩)]=some [.agg [.int .i64 2,.int .i64 0],.int .i64 5,.int .i64 10,.int .i64 12,.agg [.int .i64 0,.int .i64 0],.aj ⟨#[97]⟩]:=rfl;have hb2:gK 1 (some [.int .i64 25,.int .i64 0,.int .i64 0])=some (enc ([25,0,0]:List Int)):=rfl;have hb3:gK 1 (some [.int .i64 25,.int .i64 1,.int .i64 3])=some (enc ([25,1,3]:List Int)):=rfl;have hs:=wa (ak.of iD) (i:=7) (by rw[ak.dm,lZ];omega);rw[ak.dm,E0] at hs
 replace hs:dZ (.ss true false) [enc (ak.of iD),.int .i64 7]=some (enc (ak.of [50,32,48,32,53,32,49,48,32,49,50,32,48,32,48,32,97,10])):=hs
 have R:=y6 @hw7 (y6 @hl1 (y6 @hn0 (y6 @hse (y6 @hww (y6 @hl2 (y6 @hd1 (y6 @hl (y6 @hb2 (y6 @hb3 (y6 @hs (y6 @hp1 (y6 @hp2 (y6 @lf (y6 @Kz (y6 @ec (y6 @dL (y6 @zm (y6 @js (y6 @ma (y6 @fW (y6 @kz (y6 @bj aH))))))))))))))))))))))
 repeat' ((first |(with_reducible refine .guard (fun hb =>?_) (fun hb =>?_) <;>try simp only[hb])|refine U.aL (by decide +kernel) rfl fun K hK =>?_|refine .flat _ (f29) rfl ?_|refine .flat _ (f31) rfl ?_|refine .flat _ (f35) rfl ?_|refine .flat _ (t1) rfl ?_|refine .flat _ (o1) rfl ?_|refine .flat _ (t2) rfl ?_|refine .flat _ (o2) rfl ?_|refine .flat _ (t3) rfl ?_|refine .flat _ (o3) rfl ?_|refine .flat _ (f20) rfl ?_|refine .flat _ (f24) rfl ?_|refine .flat _ (o4) rfl ?_|refine .lead _ (f35) ?_|refine .lead _ (o1) ?_|refine .lead _ (o2) ?_|refine .lead _ (o3) ?_|refine .lead _ (o4) ?_|(refine .aI [0,1,2,3,4,5,6,7,8,9,10,12,14,16,17,18,19,20] hK ?_;clear hK K)|(with_reducible refine .done (hK _ ?_);clear hK K)|refine U.of rfl ?_|(with_reducible refine aB.aJ (fun h =>?_) (fun h =>?_) <;>try simp only[h])) <;>try simp only[aM,R,eq_self,decide_true,simprocAttr])
 all_goals clear R
 all_goals rfl
structure oE where
 sum:Int
 gh:List UInt8
 deriving DecidableEq,Inhabited
instance:Enc oE where
 enc r:=.agg [.int .i64 r.sum,enc (ak.of r.gh)]
 sz:=2
 aF:=.eC [.one,.one]
 gf:=true
 done e:=by simp only[I.done,I.ig,Enc.done,Bool.and_self]
 size e:=by simp only[I.size,I.sizes,kH];rfl
 hG e:=by simp only[I.aF,I.cB,eh];rfl
 agg _:=rfl
theorem Bi(n:Int)(s:ak)(v:I):fu [.int .i64 n,enc s] 1 1 v=some v:=nT (t8 rfl) (by simp[I.sizes,I.size])
theorem DV:(∀ x:oE,(enc x).cX=some [.int .i64 x.sum,enc (ak.of x.gh)])∧(type_of% @Bi)∧(∀ x:oE,bQ (some 2) (enc x)=true):=⟨fun _=>rfl,Bi,fun _=>by rw[gM];rfl⟩
theorem TS{s:Int}{r:ai}(h:(e9 s r).2.2=0):fF s (e9 s r).1=(r,(e9 s r).2.1,0):=by
 cases q1:dA 0 1000002 s
 ·rw[rS q1] at h;cases h
 ·cases q2:bg r
  ·rw[rT q1 q2] at h;cases h
  ·rw[rU q1 q2,fF,if_neg (by simp[q1]),(vM bg (by have:=kQ.1 q1;omega) q2 (nW q2)).1]
theorem TQ(s:Int)(r:ai):(e9 s r).1.length≤1000:=by
 cases q1:dA 0 1000002 s
 ·rw[rS q1];simp
 ·cases q2:bg r
  ·rw[rT q1 q2];simp
  ·rw[rU q1 q2];have:=pz (s:=s) (by have:=kQ.1 q1;omega) q2;simp only;omega
theorem EI(r:ai)(hr:r.text.length≤140737488351232)(p:oE)(hp:p.gh.length≤140737488351232):aR Tryz.prog 6 [enc r,enc p] (enc true):=by
 refine aR.bO Tryz.func6 GQ HW Jb (t8 rfl) (fun hwf W0 bF E1 =>?_);simp only[qN,Cu,bC,Z8];clear hwf;have f29:=w6 p.sum r;have f30:=ED p.sum r;have f31:=tl p.sum p.gh (by omega);have f32:=EE p.sum p.gh (by omega);have f33:=EF r;have f34:=tm r;have hn:∀ a:Int,(a != a)=false:=fun a=>by simp
 have hsn:=fun a=>gq a a;by_cases he:(e9 p.sum r).2.2=0
 ·have hb:=TS he;have f31':=tl p.sum (e9 p.sum r).1 (by have:=TQ p.sum r;omega);rw[hb] at f31';generalize e9 p.sum r=au at *;generalize fF p.sum p.gh=R at *;generalize fk r=c at *;have e0:(au.2.2 != 0)=false:=by rw[he];rfl
  simp only[wJ] at f32;have R:=y6 @Bool.not_true (y6 @hn (y6 @hsn (y6 @e0 (y6 @DV (y6 @ec (y6 @dL aH))))))
  repeat' ((first |(with_reducible refine .guard (fun hb =>?_) (fun hb =>?_) <;>try simp only[hb])|refine U.aL (by decide +kernel) rfl fun K hK =>?_|refine .flat _ (wW) rfl ?_|refine .flat _ (f29) rfl ?_|refine .flat _ (f30) rfl ?_|refine .flat _ (f31) rfl ?_|refine .flat _ (f32) rfl ?_|refine .flat _ (f33) rfl ?_|refine .flat _ (f34) rfl ?_|refine .flat _ (f31') rfl ?_|(refine .aI [0,1,2,3,4,5,6,7,8,9,10,11,12,13,14,15,16,17,18,19,20,94,96] hK ?_;clear hK K)|(with_reducible refine .done (hK _ ?_);clear hK K)|refine U.of rfl ?_|(with_reducible refine aB.aJ (fun h =>?_) (fun h =>?_) <;>try simp only[h])) <;>try simp only[aM,R,eq_self,decide_true,simprocAttr])
  all_goals clear R
  all_goals simp
 ·generalize e9 p.sum r=au at *;generalize fF p.sum p.gh=R at *;generalize fk r=c at *;have e0:(au.2.2 != 0)=true:=by simp[he]
  simp only[wJ] at f32;have R:=y6 @Bool.not_true (y6 @hn (y6 @hsn (y6 @e0 (y6 @DV (y6 @ec (y6 @dL aH))))))
  repeat' ((first |(with_reducible refine .guard (fun hb =>?_) (fun hb =>?_) <;>try simp only[hb])|refine U.aL (by decide +kernel) rfl fun K hK =>?_|refine .flat _ (wW) rfl ?_|refine .flat _ (f29) rfl ?_|refine .flat _ (f30) rfl ?_|refine .flat _ (f31) rfl ?_|refine .flat _ (f32) rfl ?_|refine .flat _ (f33) rfl ?_|refine .flat _ (f34) rfl ?_|(refine .aI [0,1,2,3,4,5,6,7,8,9,10,11,12,13,14,15,16,17,18,19,20,94,96] hK ?_;clear hK K)|(with_reducible refine .done (hK _ ?_);clear hK K)|refine U.of rfl ?_|(with_reducible refine aB.aJ (fun h =>?_) (fun h =>?_) <;>try simp only[h])) <;>try simp only[aM,R,eq_self,decide_true,simprocAttr])
  all_goals clear R
  all_goals rfl
end Go.Proofs.YtoffnnjbplgnaaaGreatDoor
namespace Go.Proofs.YtoffnnjbplgnaaaGreatDoor
open Go Go.Abs Go.ChangeShapes Go.WideShapes Go.RowKit
open Go.Abs.Enc (enc)
theorem FD:jN Tryz.prog 52 oE fun a=>a.gh.length≤140737488351232:=⟨by kernel_rfl,by decide,fun h hw=>by
 obtain ⟨vs,hv,hr⟩:=vA [(3,0),(9,1)]
  [(1,fun v=>∃ a:Int,True∧v=enc a),(1,fun v=>∃ a:ak,a.l.length≤140737488351232∧v=enc a)]
  (by kernel_rfl) (by simp only[mr];exact ⟨trivial,nk.bd,trivial,xu.bd,trivial⟩) (by kernel_rfl) h hw
 obtain ⟨v0,vs0,e0,h0,hv0⟩:=jP hv;obtain ⟨a0,p0,f0⟩:∃ a:Int,True∧v0=enc a:=h0;obtain ⟨v1,vs1,e1,h1,hv1⟩:=jP hv0;obtain ⟨a1,p1,f1⟩:∃ a:ak,a.l.length≤140737488351232∧v1=enc a:=h1;have e2:=tC hv1;rw[e0,e1,e2,f0,f1] at hr;refine ⟨⟨a0,a1.l⟩,p1,?_⟩;exact hr⟩
end Go.Proofs.YtoffnnjbplgnaaaGreatDoor
