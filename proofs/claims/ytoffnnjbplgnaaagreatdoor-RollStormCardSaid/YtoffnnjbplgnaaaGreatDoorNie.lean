/-
  A part of the proof that the law RollStorm returns true for every input; five variables of Go's library start as the text lays them (the card ties them); conditions: none beyond the statement's own. (part 5 of 6)
-/
import Derived.ChangeArms
import Derived.Test.YtoffnnjbplgnaaaGreatDoorRows
import Derived.Test.YtoffnnjbplgnaaaGreatDoorCards
import Derived.Test.YtoffnnjbplgnaaaGreatDoorTie
import Derived.LaidMore
import Derived.MakeChecks
import Derived.Lib.LaidTab
import Derived.Lib.LaidU8
import Derived.HandedShaped
import Derived.Shelf.Vars
import Derived.Shelf.SlSortCmp.WholeK
import Derived.Shelf.SlSortCmp.NoneTotal
import Derived.Shelf.Small.Wraps
import Derived.WalkKit
import Derived.Lib.RowBridge
import Derived.Lib.SortBridge
import Derived.StillTailTactics
import Derived.Test.YtoffnnjbplgnaaaGreatDoorNid
set_option linter.unusedSimpArgs false
set_option linter.unusedVariables false
set_option maxHeartbeats 16000000
set_option maxRecDepth 100000
namespace Go.Proofs.YtoffnnjbplgnaaaGreatDoor
open Go Go.Abs
open Go.Abs.Enc (enc)
theorem Zb{out:List ai}{s:Int}{z:Nat}{x:List UInt8}{av:List (List UInt8)}(h:dv bh s x=none):eS (dv bh) dk out s z (x::av)=(out,z):=by rw[eS,h]
theorem Zc{out:List ai}{s:Int}{z:Nat}{x:List UInt8}{av:List (List UInt8)}{q:ai×Int}(h:dv bh s x=some q):eS (dv bh) dk out s z (x::av)=if dk out q.1=true then eS (dv bh) dk (out++[q.1]) q.2 (z+x.length) av else (out,z):=by rw[eS,h]
structure pH (t:List UInt8) (k:Nat) (out:List ai) (s:Int) (z:Nat):Prop where
 eq:eS (dv bh) dk [] 1 0 (du t)=eS (dv bh) dk out s z ((du t).drop k)
 sum:0≤s∧s<1000003
 ok:∀ r∈out,bh r=true
 len:out.length≤60
 size:z+(fJ k t).length=t.length
structure rr (t:List UInt8) (out:List ai) (z:Nat):Prop where
 eq:eS (dv bh) dk [] 1 0 (du t)=(out,z)
 len:out.length≤60
 size:z≤t.length
theorem YK{t:List UInt8}{k:Nat}(hk:k<(du t).length):∃ w v,dA 10 (fJ k t)=some (w,v)∧(du t)[k]=w++[10]∧fJ (k+1) t=v∧fJ k t=w++10::v:=by
 have hrd:=wZ (Nat.le_of_lt hk);cases h:dA 10 (fJ k t) with
 |none=>rw[vX h] at hrd;have:=congrArg List.length hrd;simp at this;omega
 |some p =>
  obtain ⟨w,v⟩:=p;refine ⟨w,v,rfl,?_,w0 h,(rU h).1⟩;rw[sG h,List.drop_eq_getElem_cons hk] at hrd;exact (List.cons.inj hrd).1.symm
theorem C9(t:List UInt8):pH t 0 [] 1 0:=⟨rfl,by omega,by simp,by simp,by simp[fJ]⟩
theorem Ya{t:List UInt8}{out:List ai}{s:Int}{z:Nat}(h:pH t (du t).length out s z):rr t out z :=
 ⟨by rw[h.eq,List.drop_length,eS],h.len,by have:=h.size;omega⟩
theorem Bj{t:List UInt8}{out:List ai}{z:Nat}(h:rr t out z):fV bh dk t=(out,t.take z):=by rw[fV,h.eq]
theorem WT{out:List ai}{r:ai}(h:dk out r=true):out.length<60:=by
 simp only[dk,Z7,decide_eq_true_eq] at h;exact h.1
theorem x8(t:List UInt8)(ht:t.length≤281474976710656):aS Tryz.prog 15 [enc (ar.of t)] (.tuple [enc (fV bh dk t).1,enc (ar.of (fV bh dk t).2)]):=by
 refine aS.bS Tryz.func15 Ij Jt KI (t8 rfl) (fun hwf W0 bL E1 =>?_);simp only[zk,DA,bH];clear hwf;have h69:=Gq t;have R:=y6 @qY (y6 @br aF)
 repeat' ((first |(with_reducible refine .guard (fun hb =>?_) (fun hb =>?_) <;>try simp only[hb])|refine U.aJ (by decide +kernel) rfl fun K hK =>?_|(refine .aG [0,2,3,4,5,6,7,8,9,10,12,13,28] hK ?_;clear hK K)|(with_reducible refine .done (hK _ ?_);clear hK K)|refine U.of rfl ?_|(with_reducible refine az.aI (fun h =>?_) (fun h =>?_) <;>try simp only[h])) <;>try simp only[aK,R,simprocAttr])
 all_goals clear R
 refine .bD false [] [] [enc (ar.of t)] _ rfl h69 ⟨fun m y hy=>by simp[aD] at hy,fun m m' h=>by simp[aC,aD] at h⟩ ⟨.inl ⟨(iQ _ _).symm,bu _ _,eQ _⟩,trivial⟩ ?_ ?_
 ·rintro r os' ⟨rfl,rfl⟩;refine ⟨fun m y hy =>?_,fun m m' _ _ h=>h,fun m hm=>by simp[aC,aD] at hm,fun m hm _ =>?_,⟨rfl,fun h=>by cases h⟩⟩
  ·simp only[aD] at hy;split at hy
   ·cases hy;exact ⟨bu _ _,rfl,fun h=>by cases h⟩
   ·cases hy
  ·simp only[aC,aD] at hm;split at hm
   ·rename_i e;subst e;exact ⟨rfl,by decide⟩
   ·simp at hm
 rintro r os' ⟨rfl,rfl⟩
 try simp only[df,zz1,zy5,aj.aT,iQ,bo,I.aT,I.db,zz8,zy3,bd,simprocAttr]
 refine .done (hK _ ?_);clear hK K;refine U.sub (bx.GR 4 80 50 8 8 [] _ rfl rfl rfl (B:=aw [(0,enc (ar.of t)),(4,.ptr 4 []),(5,.ptr 5 []),(6,.ptr 6 []),(12,.func 122 [.ptr 1 []])] [(4,.box (.own 80 0)),(80,.bF 50 8 []),(1,.box (enc (ar.of t))),(5,.box (.int .i64 1)),(6,.box (.int .i64 0))]) ?_) ?_
 ·simp only[fx];refine bx.cQ ?_ ?_ ?_ ?_ <;>simp[bV,b7,b6,bI,aC,bX,dR,I.only,I.cI,aj.only,bu]
 refine U.block (U.YT (osb0:=dJ t [] 1 0) (tsR:=[(4,.ptr 1000004 []),(5,.ptr 1000005 []),(6,.ptr 1000006 [])]) (ρ:=[(1999999,999999),(1000001,1),(1000004,4),(1000080,80),(1000005,5),(1000006,6)]) (g:=122) (caps0:=[.ptr 1 []]) (caps:=[.ptr 1000001 []]) (N:=(du t).length) (item:=oJ t)
  (sr t (pH t)) (su t (pH t)) (qi (rr t)) ⟨rfl,rfl⟩ (t8 rfl) (by simp only[bd,simprocAttr]) (by simp[I.aT,bo]) ?_ zY (Wo ht (C9 t)) (fun _=>rfl) rfl rfl rfl (fun o=>⟨?_,?_⟩) ?_ ?_ ?_ ?_ ?_ ?_ ?_)
 ·intro x hx;simp only[zx2] at hx;subst hx;exact ⟨rfl,rfl⟩
 ·intro n x hx;simp only[bR,dJ,aD] at hx
  repeat' split at hx
  all_goals first | (cases hx;done) | (subst_vars;simp only[v6] at hx;subst hx;simp[bR,dJ,aC,bo,aD,aj.aT,I.aT,I.db,iQ,aj.only,I.only,I.cI,bu,aj.eB])
 ·intro a b ha hb;simp only[bR,dJ,aC,aD] at ha hb
  repeat' split at ha
  all_goals first | (simp at ha;done) | skip
  all_goals (repeat' split at hb)
  all_goals first | (simp at hb;done) | (subst_vars;simp[bo])
 ·simp[mC,bX,I.aT,bo,I.only,dJ,aC,aD]
 ·rintro k os ⟨out,s,z,rfl,_⟩;exact nK ..
 ·rintro e os ⟨_,u,out,s,z,rfl,_⟩;exact nK ..
 ·exact ⟨[],1,0,rfl,C9 t⟩
 ·rintro k osb hk ⟨out,s,z,rfl,hP⟩ W1 D1 E1 Z6 o1 o2;obtain ⟨w,v,hcut,hL,hnext,hrest⟩:=YK hk;have jY:oJ t k=[enc (ar.of (w++[10]))]:=by
   rw[oJ,zy9,zy0 hk,Option.getD_some,hL]
  have hdrop:(du t).drop k=(w++[10])::(du t).drop (k+1):=by rw[List.drop_eq_getElem_cons hk,hL]
  have hsz:=hP.size;rw[hrest] at hsz;have hll:(w++[10]).length+v.length=(w++10::v).length:=by simp;omega
  generalize hx:w++[10]=line at jY hdrop hll;have hlen:z+line.length+v.length=t.length:=by omega
  have h70:=yh hP.sum (t:=line) (by omega);have hlt:=pn line;have hwz:IntKind.i64.wrap ((z:Int)+(line.length:Int))=((z+line.length:Nat):Int):=by rw[dX _ (by omega) (by omega)];rfl
  have hfo:kF out.length (some (.bF 50 8 (out.map enc)))=some (enc out):=oy 8 rfl rfl;have hpe:=hP.eq;rw[hdrop] at hpe;generalize hu:fJ k t=u at *;rw[jY];simp only[tg,bR,dJ];have R:=y6 @br aF
  repeat' ((first |(with_reducible refine .guard (fun hb =>?_) (fun hb =>?_) <;>try simp only[hb])|refine U.aJ (by decide +kernel) rfl fun K hK =>?_|(refine .aG [0,2,3,4,5,6,7,8,9,10,12,13,28] hK ?_;clear hK K)|(with_reducible refine .done (hK _ ?_);clear hK K)|refine U.of rfl ?_|(with_reducible refine az.aI (fun h =>?_) (fun h =>?_) <;>try simp only[h])) <;>try simp only[aK,R,simprocAttr])
  all_goals clear R
  refine ⟨by simp[],?_⟩;have stop:eS (dv bh) dk [] 1 0 (du t)=(out,z)→∀ ts z1 z2 z3,EI o2 (su t (pH t) k) (qi (rr t)) (.exit 0)
    (aw ts ([(8,z1),(8,z2),(1999999,.dm o2),(1999999,z3)]++dJ u out s z)):=fun h ts z1 z2 z3=>by
   refine ⟨dJ u out s z,?_,rfl,u,out,s,z,rfl,h,hP.len,by omega⟩;intro n x hx;simp only[bR,dJ,aD] at hx
   (repeat' split at hx) <;>first
    |(cases hx;done)
    |(subst_vars;simp only[v6] at hx;subst hx;simp[bR,dJ,aC,aw,aD,aj.only,I.only,bu,aj.eB,oZ])
  cases hq:dv bh s line with
  |none =>
   rw[ij,hq,kX] at h70;rw[Zb hq] at hpe;have R:=y6 @ff (y6 @fj (y6 @br aF))
   repeat' ((first |(with_reducible refine .guard (fun hb =>?_) (fun hb =>?_) <;>try simp only[hb])|refine U.aJ (by decide +kernel) rfl fun K hK =>?_|refine .lead _ (h70) ?_|(refine .aG [0,2,3,4,5,6,7,8,9,10,12,13,28] hK ?_;clear hK K)|(with_reducible refine .done (hK _ ?_);clear hK K)|refine U.of rfl ?_|(with_reducible refine az.aI (fun h =>?_) (fun h =>?_) <;>try simp only[h])) <;>try simp only[aK,R,simprocAttr])
   all_goals clear R
   exact stop hpe _ _ _ _
  |some q =>
   obtain ⟨r,n⟩:=q;obtain ⟨hok,_,hns⟩:=Eu bh hq;simp only at hok hns;rw[ij,hq,kX] at h70;rw[Zc hq] at hpe;simp only at hpe;have h71:=yi out r (by have:=hP.len;omega) (fun q hq=>oY (hP.ok q hq)) (oY hok);cases hn:dk out r
   ·rw[hn] at h71 hpe;rw[if_neg (by decide)] at hpe;have R:=y6 @hfo (y6 @ff (y6 @fj (y6 @br aF)))
    repeat' ((first |(with_reducible refine .guard (fun hb =>?_) (fun hb =>?_) <;>try simp only[hb])|refine U.aJ (by decide +kernel) rfl fun K hK =>?_|refine .lead _ (h70) ?_|refine .flat _ (h71) rfl ?_|(refine .aG [0,2,3,4,5,6,7,8,9,10,12,13,28] hK ?_;clear hK K)|(with_reducible refine .done (hK _ ?_);clear hK K)|refine U.of rfl ?_|(with_reducible refine az.aI (fun h =>?_) (fun h =>?_) <;>try simp only[h])) <;>try simp only[aK,R,simprocAttr])
    all_goals clear R
    exact stop hpe _ _ _ _
   ·have hol:=WT hn;rw[hn] at h71 hpe;rw[if_pos rfl] at hpe;have stOwn:∀ (A:ae) n b m k m' k' rest,eb A none n [] b (.own m k) rest (some (.own m' k'))=al rest (A.aQ n (.box (.own m k))) :=
     fun _ _ _ m k m' k' _=>by rw[eP (s:=none) (v:=.own m k) (old:=.own m' k') rfl rfl rfl,fx]
    have hbs:gu 8 (some [enc r])=some (enc [r]):=oh 8 r rfl;have hap:=fun (A:ae) d rest=>rH (A:=A) (d:=d) 50 8 72 1000080 (l:=out.length) (es:=out) (ys:=[r]) (rest:=rest) rfl rfl (by simp) (by simp[maxLen];omega) (by simp;omega);have R:=y6 @hfo (y6 @hbs (y6 @hap (y6 @stOwn (y6 @hlt (y6 @hwz (y6 @ff (y6 @fj (y6 @qY (y6 @br aF)))))))))
    repeat' ((first |(with_reducible refine .guard (fun hb =>?_) (fun hb =>?_) <;>try simp only[hb])|refine U.aJ (by decide +kernel) rfl fun K hK =>?_|refine .lead _ (h70) ?_|refine .flat _ (h71) rfl ?_|(refine .aG [0,2,3,4,5,6,7,8,9,10,12,13,28] hK ?_;clear hK K)|(with_reducible refine .done (hK _ ?_);clear hK K)|refine U.of rfl ?_|(with_reducible refine az.aI (fun h =>?_) (fun h =>?_) <;>try simp only[h])) <;>try simp only[aK,R,simprocAttr])
    all_goals clear R
    refine ⟨dJ u (out++[r]) n (z+line.length),?_,out++[r],n,z+line.length,by rw[hu],⟨hpe,?_,?_,?_,?_⟩⟩
    ·intro n x hx;simp only[bR,dJ,aD] at hx
     (repeat' split at hx) <;>first
      |(cases hx;done)
      |(subst_vars;simp only[v6] at hx;subst hx;simp[bR,dJ,aC,aw,aD,aj.only,I.only,bu,aj.eB,oZ,-List.map_append])
    ·rw[hns];exact ki hP.sum _
    ·intro q hq;rcases zy2.1 hq with h1 | h1
     ·exact hP.ok q h1
     ·rw[zx2.1 h1];exact hok
    ·simp;omega
    ·rw[hnext];exact hlen
 ·rintro os ⟨out,s,z,rfl,hP⟩;have hF:=Ya hP;have hfo:kF out.length (some (.bF 50 8 (out.map enc)))=some (enc out):=oy 8 rfl rfl;have hsh:=qU (ar.of t) (j:=z) (by rw[ar.dQ];exact hF.size);rw[ar.dQ] at hsh;rw[Bj hF];simp only[dJ,df,zz1,zy5,bo,aj.aT,I.aT,iQ,kQ,cT,lq,reduceIte,Nat.reduceEqDiff,zz8,zy3];have R:=y6 @hfo (y6 @hsh (y6 @br aF))
  repeat' ((first |(with_reducible refine .guard (fun hb =>?_) (fun hb =>?_) <;>try simp only[hb])|refine U.aJ (by decide +kernel) rfl fun K hK =>?_|(refine .aG [0,2,3,4,5,6,7,8,9,10,12,13,28] hK ?_;clear hK K)|(with_reducible refine .done (hK _ ?_);clear hK K)|refine U.of rfl ?_|(with_reducible refine az.aI (fun h =>?_) (fun h =>?_) <;>try simp only[h])) <;>try simp only[aK,R,simprocAttr])
  all_goals clear R
  all_goals rfl
 ·rintro e os ⟨rfl,u,out,s,z,rfl,hF⟩;have hfo:kF out.length (some (.bF 50 8 (out.map enc)))=some (enc out):=oy 8 rfl rfl;have hsh:=qU (ar.of t) (j:=z) (by rw[ar.dQ];exact hF.size);rw[ar.dQ] at hsh;rw[Bj hF];simp only[dJ,df,zz1,zy5,bo,aj.aT,I.aT,iQ,kQ,vg,cT,lq,reduceIte,Nat.reduceEqDiff,zz8,zy3];have R:=y6 @hfo (y6 @hsh (y6 @br aF))
  repeat' ((first |(with_reducible refine .guard (fun hb =>?_) (fun hb =>?_) <;>try simp only[hb])|refine U.aJ (by decide +kernel) rfl fun K hK =>?_|(refine .aG [0,2,3,4,5,6,7,8,9,10,12,13,28] hK ?_;clear hK K)|(with_reducible refine .done (hK _ ?_);clear hK K)|refine U.of rfl ?_|(with_reducible refine az.aI (fun h =>?_) (fun h =>?_) <;>try simp only[h])) <;>try simp only[aK,R,simprocAttr])
  all_goals clear R
  all_goals rfl
def bQ(a n:Int):Int:=(IntKind.i64.wrap (a.tmod n+n)).tmod n
theorem kZ(a n:Int)(hn:n≠0):aS Tryz.prog 28 [enc a,enc n] (enc (bQ a n)):=by
 refine aS.bS Tryz.func28 IA JH KW (t8 rfl) (fun hwf W0 bL E1 =>?_);simp only[zy,DP,bH,zz5];clear hwf;have R:=y6 @hn aF
 repeat' ((first |refine U.aJ (by decide +kernel) rfl fun K hK =>?_|(refine .aG [0,1,4] hK ?_;clear hK K)|(with_reducible refine .done (hK _ ?_);clear hK K)|refine U.of rfl ?_|(with_reducible refine az.aI (fun h =>?_) (fun h =>?_) <;>try simp only[h])) <;>try simp only[aK,R,simprocAttr])
 all_goals clear R
 all_goals rfl
theorem WH{a n:Int}(ha:-9223372036854775808≤a∧a≤9223372036854775807)(hn:0<n∧n≤4611686018427387904):bQ a n=a%n:=by
 have h1:-n<a.tmod n∧a.tmod n<n:=⟨Int.lt_tmod_of_pos a hn.1,Int.tmod_lt_of_pos a hn.1⟩
 have h2:(a.tmod n+n).tmod n=a%n:=by
  rw[Int.tmod_eq_emod_of_nonneg (by omega),Int.add_emod_right];have:=Int.tmod_add_mul_tdiv a n
  conv=>rhs;rw[←this]
  rw[Int.add_mul_emod_self_left]
 have h3:=Int.emod_nonneg a (show n≠0 by omega);have h4:=Int.emod_lt_of_pos a hn.1;rw[bQ,dX _ (by omega) (by omega),h2]
theorem yb(a b:List ai)(hl:a.length≤4000000000000):aS Tryz.prog 17 [enc a,enc b] (enc (decide (a=b))):=by
 refine aS.bS Tryz.func17 Ir Jy KN (t8 rfl) (fun hwf W0 bL E1 =>?_);simp only[zp,DG,bH,zz5];clear hwf;cases q:((a.length:Int)==(b.length:Int))
 ·have hne:decide (a=b)=false:=decide_eq_false fun e=>by rw[e] at q;simp at q
  rw[hne];by_cases h0:0<a.length
  ·have hlc:decide ((0:Int)<(a.length:Int))=true:=decide_eq_true (by omega);have R:=y6 @q aF
   repeat' ((first |(with_reducible refine .guard (fun hb =>?_) (fun hb =>?_) <;>try simp only[hb])|refine U.aJ (by decide +kernel) rfl fun K hK =>?_|(refine .aG [0,1,4,5,6,18] hK ?_;clear hK K)|(with_reducible refine .done (hK _ ?_);clear hK K)|refine U.of rfl ?_|(with_reducible refine az.aI (fun h =>?_) (fun h =>?_) <;>try simp only[h])) <;>try simp only[aK,R,simprocAttr])
   all_goals clear R
   refine U.loop (fun _:Unit=>aw [(0,enc a),(1,enc b),(5,.bool false),(6,.int .i64 0)] []) (fun _=>True) (fun _=>0) () trivial ?_ ?_
   ·refine bx.cQ ?_ ?_ ?_ ?_ <;>simp[bV,b7,b6,bI,bX,I.only,bu]
   intro _ _;have R:=y6 @q (y6 @hlc aF)
   repeat' ((first |(with_reducible refine .guard (fun hb =>?_) (fun hb =>?_) <;>try simp only[hb])|refine U.aJ (by decide +kernel) rfl fun K hK =>?_|(refine .aG [0,1,4,5,6,18] hK ?_;clear hK K)|(with_reducible refine .done (hK _ ?_);clear hK K)|refine U.of rfl ?_|(with_reducible refine az.aI (fun h =>?_) (fun h =>?_) <;>try simp only[h])) <;>try simp only[aK,R,simprocAttr])
   all_goals clear R
   all_goals rfl
  ·have hlc:decide ((0:Int)<(a.length:Int))=false:=decide_eq_false (by omega);have R:=y6 @q aF
   repeat' ((first |(with_reducible refine .guard (fun hb =>?_) (fun hb =>?_) <;>try simp only[hb])|refine U.aJ (by decide +kernel) rfl fun K hK =>?_|(refine .aG [0,1,4,5,6,18] hK ?_;clear hK K)|(with_reducible refine .done (hK _ ?_);clear hK K)|refine U.of rfl ?_|(with_reducible refine az.aI (fun h =>?_) (fun h =>?_) <;>try simp only[h])) <;>try simp only[aK,R,simprocAttr])
   all_goals clear R
   refine U.loop (fun _:Unit=>aw [(0,enc a),(1,enc b),(5,.bool false),(6,.int .i64 0)] []) (fun _=>True) (fun _=>0) () trivial ?_ ?_
   ·refine bx.cQ ?_ ?_ ?_ ?_ <;>simp[bV,b7,b6,bI,bX,I.only,bu]
   intro _ _;have R:=y6 @q (y6 @hlc aF)
   repeat' ((first |(with_reducible refine .guard (fun hb =>?_) (fun hb =>?_) <;>try simp only[hb])|refine U.aJ (by decide +kernel) rfl fun K hK =>?_|(refine .aG [0,1,4,5,6,18] hK ?_;clear hK K)|(with_reducible refine .done (hK _ ?_);clear hK K)|refine U.of rfl ?_|(with_reducible refine az.aI (fun h =>?_) (fun h =>?_) <;>try simp only[h])) <;>try simp only[aK,R,simprocAttr])
   all_goals clear R
   all_goals rfl
 have hlen:a.length=b.length:=by have:=eq_of_beq q;omega
 have R:=y6 @q aF
 repeat' ((first |(with_reducible refine .guard (fun hb =>?_) (fun hb =>?_) <;>try simp only[hb])|refine U.aJ (by decide +kernel) rfl fun K hK =>?_|(refine .aG [0,1,4,5,6,18] hK ?_;clear hK K)|(with_reducible refine .done (hK _ ?_);clear hK K)|refine U.of rfl ?_|(with_reducible refine az.aI (fun h =>?_) (fun h =>?_) <;>try simp only[h])) <;>try simp only[aK,R,simprocAttr])
 all_goals clear R
 refine U.loop (fun x:Nat×Bool=>aw [(0,enc a),(1,enc b),(5,.bool x.2),(6,.int .i64 x.1)] []) (fun x=>x.1≤a.length∧(x.2=true→a.take x.1=b.take x.1)∧(x.2=false→a≠b)) (fun x=>a.length-x.1) (0,true) ⟨zv0 _,by simp,by simp⟩ ?_ ?_
 ·refine bx.cQ ?_ ?_ ?_ ?_ <;>simp[bV,b7,b6,bI,bX,I.only,bu]
 rintro ⟨i,t⟩ ⟨hi,h1,h2⟩;simp only at hi h1 h2 ⊢;cases t
 ·have hne:decide (a=b)=false:=decide_eq_false (h2 rfl);rw[hne];by_cases h0:i<a.length
  ·have hlc:=fr h0;have R:=y6 @hlc aF
   repeat' ((first |(with_reducible refine .guard (fun hb =>?_) (fun hb =>?_) <;>try simp only[hb])|refine U.aJ (by decide +kernel) rfl fun K hK =>?_|(refine .aG [0,1,4,5,6,18] hK ?_;clear hK K)|(with_reducible refine .done (hK _ ?_);clear hK K)|refine U.of rfl ?_|(with_reducible refine az.aI (fun h =>?_) (fun h =>?_) <;>try simp only[h])) <;>try simp only[aK,R,simprocAttr])
   all_goals clear R
   all_goals rfl
  ·have hlc:=fM h0;have R:=y6 @hlc aF
   repeat' ((first |(with_reducible refine .guard (fun hb =>?_) (fun hb =>?_) <;>try simp only[hb])|refine U.aJ (by decide +kernel) rfl fun K hK =>?_|(refine .aG [0,1,4,5,6,18] hK ?_;clear hK K)|(with_reducible refine .done (hK _ ?_);clear hK K)|refine U.of rfl ?_|(with_reducible refine az.aI (fun h =>?_) (fun h =>?_) <;>try simp only[h])) <;>try simp only[aK,R,simprocAttr])
   all_goals clear R
   all_goals rfl
 by_cases hlt:i<a.length
 ·have hlc:=fr hlt;have he:=fun A=>fg (A:=A) 8 hlt rfl;have he2:=fun A=>fg (A:=A) (l:=b) (k:=i) 8 (by omega) rfl;have hw:=eU (i:=i) (by omega);have e1:=ja hlt;have e2:=ja (l:=b) (i:=i) (by omega);have hg:a=b→a[i]=b[i]'(by omega):=fun e=>by subst e;rfl
  have h1':=h1 rfl;generalize a[i]=r at *;generalize (b[i]'(by omega))=r' at *;have R:=y6 @hlc (y6 @he (y6 @he2 (y6 @hw aF)))
  repeat' ((first |(with_reducible refine .guard (fun hb =>?_) (fun hb =>?_) <;>try simp only[hb])|refine U.aJ (by decide +kernel) rfl fun K hK =>?_|(refine .aG [0,1,4,5,6,18] hK ?_;clear hK K)|(with_reducible refine .done (hK _ ?_);clear hK K)|refine U.of rfl ?_|(with_reducible refine az.aI (fun h =>?_) (fun h =>?_) <;>try simp only[h])) <;>try simp only[aK,R,simprocAttr])
  all_goals clear R
  refine ⟨(i+1,decide (r=r')),⟨by simp only;omega,fun h =>?_,fun h =>?_⟩,by simp only;omega,?_⟩
  ·simp only at h ⊢;rw[e1,e2,h1',of_decide_eq_true h]
  ·simp only at h;exact fun e=>of_decide_eq_false h (hg e)
  ·clear hg h1 h2 h1';refine bx.cQ ?_ ?_ ?_ ?_ <;>simp[bV,b7,b6,bI,bX,I.only,bu]
   all_goals rfl
 ·have hlc:=fM hlt;have heq:a=b:=by
   have:=h1 rfl
   rwa [zw4 (by omega),zw4 (by omega)] at this
  rw[decide_eq_true heq];have R:=y6 @hlc aF
  repeat' ((first |(with_reducible refine .guard (fun hb =>?_) (fun hb =>?_) <;>try simp only[hb])|refine U.aJ (by decide +kernel) rfl fun K hK =>?_|(refine .aG [0,1,4,5,6,18] hK ?_;clear hK K)|(with_reducible refine .done (hK _ ?_);clear hK K)|refine U.of rfl ?_|(with_reducible refine az.aI (fun h =>?_) (fun h =>?_) <;>try simp only[h])) <;>try simp only[aK,R,simprocAttr])
  all_goals clear R
  all_goals rfl
def dp.small(r:dp):Prop:=r.bz.length≤140737488351232∧r.cX.length≤140737488351232
def cF.small(r:cF):Prop:=r.cd.small∧r.copy.small
def dp.all(r:dp):List UInt8:=r.bz++r.cX
theorem dp.rD{r:dp}(h:r.small):r.all.length≤281474976710656:=by
 have:=h.1;have:=h.2;rw[dp.all,Z8];omega
theorem jS:I.agg [.ak ⟨#[]⟩,.ak ⟨#[]⟩]=enc (⟨[],[]⟩:dp):=rfl
theorem AK:I.agg [.agg [.ak ⟨#[]⟩,.ak ⟨#[]⟩],.agg [.ak ⟨#[]⟩,.ak ⟨#[]⟩]]=enc (⟨⟨[],[]⟩,⟨[],[]⟩⟩:cF):=rfl
theorem mS:I.agg [enc (⟨[],[]⟩:dp),enc (⟨[],[]⟩:dp)]=enc (⟨⟨[],[]⟩,⟨[],[]⟩⟩:cF):=rfl
theorem fk:(∀ A n b rest (q r:dp),eb A (some 2) n [] b (enc q) rest (some (enc r))=al rest (A.aQ n (.box (enc q))))∧(∀ A n b rest (q r:cF),eb A (some 4) n [] b (enc q) rest (some (enc r))=al rest (A.aQ n (.box (enc q)))) ∧
  (∀ A n rest (q r:dp) (s:cF),eb A (some 2) n [0] (enc s) (enc q) rest (some (enc r))=al rest (A.aQ n (.box (enc (⟨q,s.copy⟩:cF)))))∧(∀ A n rest (q r:dp) (s:cF),eb A (some 2) n [1] (enc s) (enc q) rest (some (enc r))=al rest (A.aQ n (.box (enc (⟨s.cd,q⟩:cF))))) :=
 ⟨fun A n b rest q r=>by rw[eP (eQ _) (by rw[gy];rfl) ((ed _).trans (ed _).symm),fx],
  fun A n b rest q r=>by rw[eP (eQ _) (by rw[gy];rfl) ((ed _).trans (ed _).symm),fx],
  fun A n rest q r s=>by rw[eP (eQ _) (by rw[gy];rfl) ((ed _).trans (ed _).symm)];rfl,
  fun A n rest q r s=>by rw[eP (eQ _) (by rw[gy];rfl) ((ed _).trans (ed _).symm)];rfl⟩
theorem lp:(∀ x:List UInt8,eT [.ak ⟨#[]⟩,.ak ⟨#[]⟩] [(0,enc (ar.of x))]=some [enc (ar.of x),enc (ar.of [])])∧(∀ x:List UInt8,I.agg [enc (ar.of x),enc (ar.of [])]=enc (⟨x,[]⟩:dp)) ∧
  (∀ p q:dp,eT [.agg [.ak ⟨#[]⟩,.ak ⟨#[]⟩],.agg [.ak ⟨#[]⟩,.ak ⟨#[]⟩]] [(0,enc p),(1,enc q)]=some [enc p,enc q])∧(∀ p q:dp,I.agg [enc p,enc q]=enc (⟨p,q⟩:cF)) ∧
  (∀ p q:dp,eT [enc (⟨[],[]⟩:dp),enc (⟨[],[]⟩:dp)] [(0,enc p),(1,enc q)]=some [enc p,enc q]) :=
 ⟨fun _=>rfl,fun _=>rfl,fun _ _=>rfl,fun _ _=>rfl,fun _ _=>rfl⟩
theorem pD(r:dp)(h:r.small):aS Tryz.prog 73 [enc r] (enc (ar.of r.all)):=by
 refine aS.bS Tryz.func73 IK JQ K6 (t8 rfl) (fun hwf W0 bL E1 =>?_);simp only[zH,DY,bH];clear hwf;have ha:=e8 r.bz r.cX (by have:=h.1;have:=h.2;omega);have R:=y6 @ha (y6 @br aF)
 repeat' ((first |refine U.aJ (by decide +kernel) rfl fun K hK =>?_|(refine .aG [0,1,2] hK ?_;clear hK K)|(with_reducible refine .done (hK _ ?_);clear hK K)|refine U.of rfl ?_|(with_reducible refine az.aI (fun h =>?_) (fun h =>?_) <;>try simp only[h])) <;>try simp only[aK,R,simprocAttr])
 all_goals clear R
 all_goals rfl
def lR(r:cF):cF:=⟨⟨r.cd.all,[]⟩,⟨r.cd.all,[]⟩⟩
theorem yd(r:cF)(h:r.small):aS Tryz.prog 20 [enc r] (enc (lR r)):=by
 refine aS.bS Tryz.func20 Iv JD KS (t8 rfl) (fun hwf W0 bL E1 =>?_);simp only[c20,DL,bH];clear hwf;have f:=pD r.cd h.1;have R:=y6 @lp (y6 @jS (y6 @mS (y6 @fk (y6 @br aF))))
 repeat' ((first |refine U.aJ (by decide +kernel) rfl fun K hK =>?_|refine .flat _ (f) rfl ?_|(refine .aG [0,1,2,3] hK ?_;clear hK K)|(with_reducible refine .done (hK _ ?_);clear hK K)|refine U.of rfl ?_|(with_reducible refine az.aI (fun h =>?_) (fun h =>?_) <;>try simp only[h])) <;>try simp only[aK,R,simprocAttr])
 all_goals clear R
 all_goals rfl
def mO(r:cF)(copy:Bool):cF:=if copy then ⟨r.cd,⟨[],[]⟩⟩ else ⟨⟨[],[]⟩,r.copy⟩
theorem yf(r:cF)(b:Bool):aS Tryz.prog 24 [enc r,enc b] (enc (mO r b)):=by
 refine aS.bS Tryz.func24 Iy JF KU (t8 rfl) (fun hwf W0 bL E1 =>?_);simp only[zw,DN,bH,zz5];clear hwf;cases b
 ·have R:=y6 @jS (y6 @mS (y6 @fk (y6 @br aF)))
  repeat' ((first |refine U.aJ (by decide +kernel) rfl fun K hK =>?_|(refine .aG [0,1,2,4,5] hK ?_;clear hK K)|(with_reducible refine .done (hK _ ?_);clear hK K)|refine U.of rfl ?_|(with_reducible refine az.aI (fun h =>?_) (fun h =>?_) <;>try simp only[h])) <;>try simp only[aK,R,simprocAttr])
  all_goals clear R
  all_goals rfl
 ·have R:=y6 @jS (y6 @mS (y6 @fk (y6 @br aF)))
  repeat' ((first |refine U.aJ (by decide +kernel) rfl fun K hK =>?_|(refine .aG [0,1,2,4,5] hK ?_;clear hK K)|(with_reducible refine .done (hK _ ?_);clear hK K)|refine U.of rfl ?_|(with_reducible refine az.aI (fun h =>?_) (fun h =>?_) <;>try simp only[h])) <;>try simp only[aK,R,simprocAttr])
  all_goals clear R
  all_goals rfl
def jJ(r:cF):cF×List ai:=(⟨⟨(mr bh dk r.cd.all r.copy.all).2,[]⟩,⟨(mr bh dk r.cd.all r.copy.all).2,[]⟩⟩,(mr bh dk r.cd.all r.copy.all).1)
theorem Fb(t:List UInt8):(fV bh dk t).2.length≤t.length:=by rw[fV];simp;omega
theorem nZ(r:cF)(h:r.small):aS Tryz.prog 18 [enc r] (.tuple [enc (jJ r).1,enc (jJ r).2]):=by
 refine aS.bS Tryz.func18 It JB KQ (t8 rfl) (fun hwf W0 bL E1 =>?_);simp only[zr,DJ,bH];clear hwf;have f1:=pD r.cd h.1;have f2:=pD r.copy h.2;have g1:=x8 r.cd.all (dp.rD h.1);have g2:=x8 r.copy.all (dp.rD h.2);have l1:=Fb r.cd.all;have l2:=Fb r.copy.all;have:=dp.rD h.1;have:=dp.rD h.2;have h74:=fun (x:List UInt8) (hx:x.length≤281474976710656)=>Gr (ar.of x) (by rw[ar.dQ];exact hx);simp only[jJ,mr];generalize fV bh dk r.cd.all=p at *;generalize fV bh dk r.copy.all=q at *;by_cases hlt:p.1.length<q.1.length
 ·have hc:decide ((q.1.length:Int)>(p.1.length:Int))=true:=decide_eq_true (by omega);have h74':=h74 q.2 (by omega);simp only[if_pos hlt];have R:=y6 @hc (y6 @lp (y6 @jS (y6 @mS (y6 @fk (y6 @br aF)))))
  repeat' ((first |refine U.aJ (by decide +kernel) rfl fun K hK =>?_|refine .flat _ (f1) rfl ?_|refine .lead _ (g1) ?_|refine .flat _ (f2) rfl ?_|refine .lead _ (g2) ?_|refine .flat _ (h74') rfl ?_|(refine .aG [0,1,2,3,4,5,6,7,8,27] hK ?_;clear hK K)|(with_reducible refine .done (hK _ ?_);clear hK K)|refine U.of rfl ?_|(with_reducible refine az.aI (fun h =>?_) (fun h =>?_) <;>try simp only[h])) <;>try simp only[aK,R,simprocAttr])
  all_goals clear R
  all_goals rfl
 ·have hc:decide ((q.1.length:Int)>(p.1.length:Int))=false:=decide_eq_false (by omega);have h74':=h74 p.2 (by omega);simp only[if_neg hlt];have R:=y6 @hc (y6 @lp (y6 @jS (y6 @mS (y6 @fk (y6 @br aF)))))
  repeat' ((first |refine U.aJ (by decide +kernel) rfl fun K hK =>?_|refine .flat _ (f1) rfl ?_|refine .lead _ (g1) ?_|refine .flat _ (f2) rfl ?_|refine .lead _ (g2) ?_|refine .flat _ (h74') rfl ?_|(refine .aG [0,1,2,3,4,5,6,7,8,27] hK ?_;clear hK K)|(with_reducible refine .done (hK _ ?_);clear hK K)|refine U.of rfl ?_|(with_reducible refine az.aI (fun h =>?_) (fun h =>?_) <;>try simp only[h])) <;>try simp only[aK,R,simprocAttr])
  all_goals clear R
  all_goals rfl
end Go.Proofs.YtoffnnjbplgnaaaGreatDoor
namespace Go.Abs
open Go Go.RowKit Go.ChangeShapes
open Enc (enc)
def yp(P:Program)(u:TypeId)(n:Nat)(S:I→Prop):Prop:=P.cellsOf u=n ∧
 ∀ {H:Type} {enc0:TypeId×Value→H} {w:World} {fuel:Nat} {cs:List Value} {x:DataW H×List MemPlace},DataW.trod enc0 P w 0 (fun _=>true) true fuel u cs=some x→(∀ k∈x.1.weights P u,k≤reachBytes)→∃ v,S v∧af w (jt w) cu v cs
theorem jL.bg{P:Program}{u:TypeId}{α:Type}[Enc α]{B:α→Prop}(h:jL P u α B):yp P u (Enc.sz α) fun v=>∃ a:α,B a∧v=enc a :=
 ⟨h.cells,fun hx hw=>by obtain ⟨a,hB,ha⟩:=h.mu hx hw;exact ⟨enc a,⟨a,hB,rfl⟩,ha⟩⟩
def qA(P:Program):Nat→List (TypeId×Nat)→List (Nat×(I→Prop))→Prop
 |_,[],[]=>True
 |o,(u,off)::l,(n,S)::Ss=>off=o∧yp P u n S∧qA P (o+n) l Ss
 |_,_,_=>False
theorem AZ{P:Program}{H:Type}{enc0:TypeId×Value→H}{w:World}{m:Nat}{cs:List Value} : ∀ (l:List (TypeId×Nat)) (Ss:List (Nat×(I→Prop))) (o:Nat),qA P o l Ss→cs.length=o+re Ss →
  (∀ (i:Nat) (u:TypeId) (off:Nat),l[i]?=some (u,off)→∃ y,DataW.trod enc0 P w 0 (fun _=>true) true m u ((cs.drop off).take (P.cellsOf u))=some y∧∀ k∈y.1.weights P u,k≤reachBytes)→∃ vs,oc Ss vs∧aA w (jt w) cu vs (cs.drop o)
 | [],[],o,_,hl,_=>⟨[],trivial,by simp only[aA];exact List.drop_eq_nil_of_le (by simp only[re] at hl;omega)⟩
 |(u,off)::l,(n,S)::Ss,o,h,hl,hf=>by
  obtain ⟨rfl,h2,h3⟩:=h;obtain ⟨y,hy,hyw⟩:=hf 0 u off rfl;obtain ⟨v,hv1,hv2⟩:=h2.2 hy hyw;obtain ⟨vs,k1,k2⟩:=AZ l Ss (off+n) h3 (by simp only[re] at hl;omega) fun i u' o' hi=>hf (i+1) u' o' hi;refine ⟨v::vs,⟨hv1,k1⟩,?_⟩;simp only[aA];rw[h2.1] at hv2;exact ⟨_,(cs.drop off).drop n,(zx1 n _).symm,hv2,by rw[List.drop_drop];exact k2⟩
 | [],_::_,_,h,_,_=>h.elim
 |_::_,[],_,h,_,_=>by simp[qA] at h
theorem XW{P:Program}{t:TypeId}{H:Type}{enc0:TypeId×Value→H}{w:World}{fuel:Nat}{cs:List Value}{x:DataW H×List MemPlace}(l:List (TypeId×Nat))(Ss:List (Nat×(I→Prop)))(ht:sw P t l=true)(hok:qA P 0 l Ss)(hc:P.cellsOf t=re Ss)(h:DataW.trod enc0 P w 0 (fun _=>true) true fuel t cs=some x)(hw:∀ k∈x.1.weights P t,k≤reachBytes) :
  ∃ vs,oc Ss vs∧af w (jt w) cu (.agg vs) cs:=by
 obtain ⟨hl,m,hf⟩:=Zu ht h hw;obtain ⟨vs,k1,k2⟩:=AZ l Ss 0 hok (by rw[hl,hc];omega) hf;exact ⟨vs,k1,by simpa only[af,List.drop_zero] using k2⟩
theorem wF{P:Program}{t:TypeId}{α:Type}[Enc α]{B:α→Prop}{H:Type}{enc0:TypeId×Value→H}{w:World}{dF:Nat}{v:Value}{d:DataW H}{p:List MemPlace}(ho:jL P t α B)(hA:Enc.gC α=false)(hst:(match P.underlying t with | some (.slice _) | some (.int _) | some .bool | some .string=>true | _=>false)=true)(ab:Value.okWide P w .any dF t v)
  (h:DataW.Trod enc0 P w 0 (fun _=>true) true t v d p) (hwt:∀ k∈d.weights P t,k≤reachBytes):∃ (a:α),B a∧∃ (cs:List Value),ba (enc a) v cs∧af w (jt w) cu (enc a) cs:=by
 obtain ⟨fuel,h⟩:=h;have hone:v.cells.toList=[v]:=by
  unfold Value.okWide at ab;split at hst
  ·rename_i e ht;rw[ht] at ab;simp only[Cell.okWide,ht] at ab;cases v <;>simp_all[Cell.ok,Value.cells]
  ·rename_i e ht;rw[ht] at ab;simp only[Cell.okWide,ht] at ab;cases v <;>simp_all[Cell.ok,Value.cells]
  ·rename_i ht;rw[ht] at ab;simp only[Cell.okWide,ht] at ab;cases v <;>simp_all[Cell.ok,Value.cells]
  ·rename_i ht;rw[ht] at ab;simp only[Cell.okWide,ht] at ab;cases v <;>simp_all[Cell.ok,Value.cells]
  ·cases hst
 rw[hone] at h;obtain ⟨a,hB,ha⟩:=ho.mu h hwt;exact ⟨a,hB,[v],by simp[ba,Enc.agg,hA],ha⟩
end Go.Abs
namespace Go.Proofs.YtoffnnjbplgnaaaGreatDoor
open Go Go.Abs Go.ChangeShapes Go.WideShapes Go.RowKit
open Go.Abs.Enc (enc)
theorem Tryz.own:ownKnob Tryz.prog.godebug=none:=by kernel_rfl
theorem Tryz.V1:laidOutB Tryz.prog=true:=by kernel_rfl
theorem CB:n9 Tryz.prog 3 Int:=XV (by kernel_rfl) (by kernel_rfl)
theorem uC:jL Tryz.prog 3 Int fun _=>True:=CB.CY
theorem HQ:Tryz.prog.bytesOf 3=8:=by kernel_rfl
theorem yJ:jL Tryz.prog 32 (List Int) fun l=>l.length*8≤reachBytes:=by
 have h:=CZ (P:=Tryz.prog) (t:=32) (e:=3) (by kernel_rfl) uC (by kernel_rfl);exact ⟨h.cells,h.o9,fun hx hw=>by
  obtain ⟨a,⟨-,h2⟩,h3⟩:=h.mu hx hw;rw[HQ] at h2;exact ⟨a,h2,h3⟩⟩
theorem Y2{w:World}{D:aH}{E:aN}{x y z:I}{a b c:Value}(hx:∃ cs,ba x a cs∧af w D E x cs)(hy:∃ cs,ba y b cs∧af w D E y cs)(hz:∃ cs,ba z c cs∧af w D E z cs):ao w D E [x,y,z] [a,b,c]:=by
 obtain ⟨c1,h1,h2⟩:=hx;obtain ⟨c2,h3,h4⟩:=hy;obtain ⟨c3,h5,h6⟩:=hz;simp only[ao];exact ⟨a,[b,c],c1,rfl,h1,h2,b,[c],c2,rfl,h3,h4,c,[],c3,rfl,h5,h6,rfl⟩
def jC : List (String × DataW Unit) := [("math/bits.deBruijn32tab", Rows.laid_math_bits_deBruijn32tab), ("math/bits.deBruijn64tab", Rows.laid_math_bits_deBruijn64tab), ("internal/strconv.uint64pow10", Rows.laid_internal_strconv_uint64pow10), ("strconv.ErrRange", Rows.laid_strconv_ErrRange), ("strconv.ErrSyntax", Rows.laid_strconv_ErrSyntax)]
def FW:List Int:=[1,10,100,1000,10000,100000,1000000,10000000,100000000,1000000000,10000000000,100000000000,1000000000000,10000000000000,100000000000000,1000000000000000,10000000000000000,100000000000000000,1000000000000000000,10000000000000000000]
theorem Uq : Tryz.prog.globalNamed "internal/strconv.uint64pow10" = some 3 := by kernel_rfl
theorem Zz:(Tryz.prog.globals[3]?).map (·.type)=some 256:=by kernel_rfl
theorem Up : Tryz.prog.globalNamed "internal/bytealg.MaxLen" = some 0 := by kernel_rfl
theorem El:((begin Tryz.prog (fun _ _=>0) default).world.heap[0]?).bind Obj.row?=some (#[.int .i64 0],3):=by kernel_rfl
theorem Us : Tryz.prog.globalNamed "strconv.ErrSyntax" = some 1 := by kernel_rfl
theorem Ur : Tryz.prog.globalNamed "strconv.ErrRange" = some 2 := by kernel_rfl
theorem FF:(Tryz.prog.globals[1]?).map (·.type)=some 199∧(Tryz.prog.globals[2]?).map (·.type)=some 199:=⟨by kernel_rfl,by kernel_rfl⟩
theorem BP:(match Tryz.prog.underlying 199 with | some (.interface _)=>true | _=>false)=true:=by kernel_rfl
theorem Wy {W : World} (hsh : W.ShapedOpen Tryz.prog) : ∃ v, W.var? Tryz.prog "internal/bytealg.MaxLen" = some v ∧ sA .int v := by
 obtain ⟨m,hm⟩:=cell_of_shapedOpen_int (k:=.i64) hsh (show 0<Tryz.prog.globals.size from of_decide_eq_true (by kernel_rfl)) El rfl (by kernel_rfl) (by kernel_rfl) (by kernel_rfl);obtain ⟨cs,hh,hs,_⟩:=hsh.1 0 _ _ (show 0<Tryz.prog.globals.size from of_decide_eq_true (by kernel_rfl)) El;refine ⟨cs,?_,m,?_⟩
 ·unfold World.var?;rw[Up];simp only[zw8];revert hh;cases hb:W.heap[0]? with
  |none=>intro hh;simp at hh
  |some o =>
   intro hh;cases o <;>simp[] at hh
   simp[hh]
 ·have h1:cs.size=1:=hs;have hcell:W.cell? ⟨0,0,none⟩=cs[0]?:=by
   unfold World.cell?;revert hh;cases hb:W.heap[0]? with
   |none=>intro hh;simp at hh
   |some o =>
    intro hh;cases o <;>simp[] at hh
    rw[←hh.1];rfl
  rw[hcell] at hm;apply Array.ext
  ·simp[h1]
  ·intro i h2 h3;obtain rfl:i=0:=by simp at h3;omega
   have:=(zy1.1 hm).2;simpa using this
theorem AT {W : World} (h : laidMet Tryz.prog jC W) {n : String} {text : List UInt8} {g : Nat} (hn : (n, DataW.iface "*errors.errorString" (.ptr (.agg [.lit (.string text)]))) ∈ jC) (hg : Tryz.prog.globalNamed n = some g) (ht : (Tryz.prog.globals[g]?).map (·.type) = some 199) :
  ∃ v,W.var? Tryz.prog n=some v∧sA .ov v:=by
 obtain ⟨g',t',cs,fuel,p,hg',ht',hvar,hd⟩:=Lib.laidMet.reads h hn;obtain rfl:=Option.some.inj (hg.symm.trans hg');obtain rfl:=Option.some.inj (ht.symm.trans ht');cases hi:Tryz.prog.underlying 199 with
 |none=>have:=BP;rw[hi] at this;cases this
 |some d =>
  cases d <;>(try (have:=BP;rw[hi] at this;cases this;done))
  obtain ⟨_,u,v,hcs,_,_⟩:=iface_of_trod hi hd;refine ⟨cs,hvar,u,v,?_⟩;apply Array.ext';simpa using hcs
theorem XG{W:World}(h:laidMetH Tryz.prog jC W)(hsh:W.ShapedOpen Tryz.prog):eJ Tryz.prog W (fun _=>False):=by
 rw[MakeChecks.laidMetH_plain _ _ _ (by kernel_rfl)] at h;intro q hq g hg;refine ⟨id,?_⟩;simp only[mZ,zy8,List.not_mem_nil,or_false] at hq;rcases hq with rfl | rfl | rfl | rfl
 ·obtain ⟨g', t', cs, fuel, p, hg', ht', hvar, hd⟩ := Lib.laidMet.reads h (n := "internal/strconv.uint64pow10") (d := Rows.laid_internal_strconv_uint64pow10) (by simp [jC])
  obtain rfl:=Option.some.inj (Uq.symm.trans hg');obtain rfl:=Option.some.inj (Zz.symm.trans ht');have hd':DataW.trod (fun _=>()) Tryz.prog W 0 (fun _=>true) false fuel 256 cs.toList=some (Lib.tabData .u64 FW,p):=hd;have hc:=Lib.cells_of_tab (n:=20) (e:=227) (VJ (by kernel_rfl)) (by kernel_rfl) (by kernel_rfl) (by kernel_rfl) hd';refine ⟨cs,hvar,?_⟩
  show cs=B4
  have:cs=(FW.map fun z=>Value.int .u64 z).toArray:=by rw[←hc]
  rw[this];rfl
 ·exact Wy hsh
 ·exact AT h (n := "strconv.ErrSyntax") (text := [105, 110, 118, 97, 108, 105, 100, 32, 115, 121, 110, 116, 97, 120]) (by simp [jC, Rows.laid_strconv_ErrSyntax]) Us FF.1
 ·exact AT h (n := "strconv.ErrRange") (text := [118, 97, 108, 117, 101, 32, 111, 117, 116, 32, 111, 102, 32, 114, 97, 110, 103, 101]) (by simp [jC, Rows.laid_strconv_ErrRange]) Ur FF.2
theorem YS{H:Type}{enc0:TypeId×Value→H}{a:Assume}{C:Checked}{os:Os}{f:FuncId}{fn:Func}{s:ChangeSpec}{conds:List PathCond}{apart jx handsOn again:Bool}{X:World→Array Value→Prop}
  (hX:∀ (w w':World) (args:Array Value),w.heap=w'.heap→X w args→X w' args)
  (own:ownKnob C.prog.godebug=none) (started:os.Started) (noInit:C.prog.inits.idxOf? f=none) (hfn:C.prog.funcs[f]?=some fn)
  (witness:∃ (w:World) (tape:Tape) (i:Input),w.os=os∧(w.forCall tape i).Shaped C.prog∧i.vars=[]∧Input.okWide C.prog (w.forCall tape i) .any w.heap.size f i ∧
   ((s.pre enc0 C.prog fn conds apart (w.forCall tape i).memory i.args∧X (w.forCall tape i).memory i.args)∧sizedMet enc0 C.prog fn (OpenSpec.ofChange s) apart (w.forCall tape i).memory i.args)∧a.holds C.prog (lone (Frame.enter C.prog f i.args .normal) [] (w.forCall tape i)))
  (contract:∀ (W:World) (dF:Nat) (args:Array Value) (ds gs:List (DataW H)) (before:List MemPlace),
   (∀ (j:Nat) t v,fn.params[j]?=some t→args[j]?=some v→Value.okWide C.prog W .any dF t v) →
   DataW.Whole enc0 C.prog fn.params.toList s.vars apart W args.toList ds gs before →
   (DataW.weightsEach C.prog (fn.params.toList++s.plain.varTypes C.prog) (ds++gs)).all (· ≤ reachBytes)=true→X W args→W.ShapedOpen C.prog →
   Calls C.prog f args W fun e W'=>∃ v,e=.returned v∧s.post enc0 C.prog fn apart jx handsOn again W args v W') :
  ReturnsInHanded a C os f .any (fun w args=>(s.pre enc0 C.prog fn conds apart w args∧X w args)∧sizedMet enc0 C.prog fn (OpenSpec.ofChange s) apart w args) (s.post enc0 C.prog fn apart jx handsOn again):=by
 refine returnsInHanded_of_calls own started noInit witness ?_;intro w tape i _ hsh _ hok hpre _;obtain ⟨_,_,_,fn',hfn',_,_,_,_,hval⟩:=hok;have e:fn'=fn:=Option.some.inj (hfn'.symm.trans hfn);subst e;obtain ⟨⟨⟨ds,gs,before,hw,_⟩,hx⟩,hz⟩:=hpre;have hw':=DataW.Whole.of_heap (w':=w.forCall tape i) (by rfl) hw;refine (contract (w.forCall tape i) w.heap.size i.args ds gs before hval hw' (hz.weights hw) (hX _ _ _ (by rfl) hx) hsh).mono fun e W' ⟨v,he,hp⟩ =>?_;subst he;exact ChangeSpec.post_blind hp
end Go.Proofs.YtoffnnjbplgnaaaGreatDoor
namespace Go.Proofs.YtoffnnjbplgnaaaGreatDoor
open Go Go.Abs
open Go.Abs.Enc (enc)
def cB:ai:=default
theorem ly:I.agg [.agg [.int .i64 0,.int .i64 0],.int .i64 0,.int .i64 0,.int .i64 0,.agg [.int .i64 0,.int .i64 0],.ak ⟨#[]⟩]=enc cB:=rfl
theorem Ft{A:ae}{l:List ai} : kg A 8 (enc l)=some (l.map enc):=kW A 8 l rfl
theorem Fu{A:ae}{n lo k:Nat}{xs:List ai}(ho:A.o n=some (.box (.agg (xs.map enc))))(hl:lo+k≤xs.length):kg A 8 (.view n [] 8 lo k)=some (((xs.drop lo).take k).map enc):=nJ ho hl
theorem gh{k:Nat}{a:aj}{m:Nat} : aC [(k,a)] m=true↔m=k:=by
 constructor
 ·intro h;simp only[aC,aD] at h;split at h
  ·assumption
  ·simp at h
 ·rintro rfl;simp[aC,aD]
theorem BM{A:ae}{k k':Nat}{c c':I}(h1:A.o k=some (.box c))(h2:∀ p,c.only p=true)(h1':A.o k'=some (.box c'))(h2':∀ p,c'.only p=true):∀ n x,aD [(k,.box c),(k',.box c')] n=some x→A.o n=some x∧x.only (aC [(k,.box c),(k',.box c')])=true∧x.eB=true:=fun n x h=>by
 simp only[aD] at h;split at h
 ·rename_i hn;subst hn;simp only[v6] at h;subst h;exact ⟨h1,h2 _,rfl⟩
 ·split at h
  ·rename_i hn;subst hn;simp only[v6] at h;subst h;exact ⟨h1',h2' _,rfl⟩
  ·cases h
theorem fF(p:Nat→Bool)(l:List ai):(I.agg (l.map enc)).only p=true:=by simp only[I.only];exact oZ p l
def eZ(k:Nat)(l:List ai)(m:Nat):List (Nat×aj):=[(k,.box (.agg ((l++List.replicate m cB).map enc)))]
def pV(l:List ai):b9:=fun r os'=>(l=[]∧(r=.nils 8∨r=.c0 8)∧os'=[])∨(l≠[]∧∃ m,r=.view 7 [] 8 0 l.length∧os'=eZ 7 l m)
theorem ug(l:List ai)(hl:l.length≤1000):eW Tryz.prog 93 [enc l] [] (pV l):=by
 refine eW.bS Tryz.func93 z8 Af Aq (t8 rfl) (t8 rfl) (fun m hm=>by simp[aC,aD] at hm) (fun hwf W0 bL E1 =>?_);simp only[uL,wQ,bH];refine .dV (by decide +kernel) fun K hK =>?_;simp only[vB,bd];refine .done (hK _ ?_);clear hK K;refine U.seq (U.seq ?_);by_cases hn:l=[]
 ·subst hn;refine .iC (by decide +kernel) fun K hK =>?_;simp only[qd,bd,Nat.reduceEqDiff,reduceIte];simp only[tU,List.isEmpty_nil,oT];refine .any rfl fun b _ =>?_
  try simp only[bd]
  generalize (b==0)=t;cases t
  ·refine .done (hK _ ?_);clear hK K;try simp only[cT]
   refine U.hJ ?_;simp only[az,bd,Nat.reduceEqDiff,reduceIte];refine ⟨fun h =>?_,fun h =>?_⟩
   ·cases h
   refine U.skip ?_;try simp only[cT]
   refine .dV (by decide +kernel) fun K hK =>?_;simp only[qe,bd]
   try simp only[gV,ly,bd,Nat.reduceEqDiff,reduceIte]
   refine .done (hK _ ?_);clear hK K;refine U.ret ?_;simp only[kb];exact ⟨[],[.c0 8],vI,⟨⟨.c0 8,rfl,.inl ⟨rfl,rfl,rfl⟩⟩,trivial⟩,.inl ⟨rfl,.inr rfl,rfl⟩⟩
  ·refine .done (hK _ ?_);clear hK K;refine U.hJ ?_;simp only[az,bd,Nat.reduceEqDiff,reduceIte];refine ⟨fun h =>?_,fun h =>?_⟩
   ·refine .dV (by decide +kernel) fun K hK =>?_;simp only[vC,bd];refine .done (hK _ ?_);clear hK K;refine U.ret ?_;simp only[cT,kb];exact ⟨[],[.nils 8],vI,⟨⟨.nils 8,rfl,.inl ⟨rfl,rfl,rfl⟩⟩,trivial⟩,.inl ⟨rfl,.inl rfl,rfl⟩⟩
   ·cases h
 ·have hu:jm (enc l)=false:=by rw[tU];simpa using hn
  refine .iC (by decide +kernel) fun K hK =>?_;simp only[qd,bd,Nat.reduceEqDiff,reduceIte]
  try simp only[hu,Cx _ l hn,bd]
  refine .done (hK _ ?_);clear hK K;try simp only[cT]
  refine U.hJ ?_;simp only[az,bd,Nat.reduceEqDiff,reduceIte];refine ⟨fun h =>?_,fun h =>?_⟩
  ·cases h
  refine U.skip ?_;try simp only[cT]
  refine .dV (by decide +kernel) fun K hK =>?_;simp only[qe,bd]
  try simp only[gV,ly,bd,Nat.reduceEqDiff,reduceIte]
  refine aZ.uy cB rfl hn rfl (by omega) (by simp only[maxLen];omega) fun m =>?_
  try simp only[bd,Nat.reduceEqDiff,reduceIte]
  refine .done (hK _ ?_);clear hK K;refine U.ret ?_;simp only[kb];exact ⟨eZ 7 l m,[.view 7 [] 8 0 l.length],oF rfl (fun p=>fF p _),⟨⟨_,rfl,.inl ⟨rfl,rfl,rfl⟩⟩,trivial⟩,.inr ⟨hn,m,rfl,rfl⟩⟩
def fN(l:List ai)(i:Nat)(g:ai):List ai:=l.take i++g::l.drop i
theorem VI{l:List ai}{i:Nat}(g:ai)(h:i≤l.length):(fN l i g).length=l.length+1:=by
 simp only[fN,Z8,zz4,zx7,zv1];omega
def BT(l:List ai)(i:Nat)(g:ai)(k:Nat):b9:=fun r os' =>
 (∃ q,r=.view 1000000 [] 8 0 (l.length+1)∧os'=eZ 1000000 (fN l i g) q)∨∃ d q,(d=25∨d=40)∧r=.view d [] 8 0 (l.length+1)∧os'=eZ d (fN l i g) q++eZ 1000000 l k
theorem Wq(l:List ai)(i q:Nat)(g:ai)(h:i<l.length)(xs:List ai)(hx:xs=l.take i++(List.replicate (l.length+1-i) cB++List.replicate q cB))(ys:List ai)(hy:ys=xs.take i++([g].take 1++xs.drop (i+1))) :
  ys.take (i+1)++((((l++List.replicate 0 cB).drop i).take (l.length-i)).take (l.length-i)++ys.drop (i+1+(l.length-i)))=fN l i g++List.replicate q cB:=by
 have e1:xs.take i=l.take i:=by rw[hx,List.take_append_of_le_length (by rw[zz4];omega),List.take_take,Nat.min_self]
 have e2:xs.drop (i+1)=List.replicate (l.length-i+q) cB:=by
  have hl:(l.take i).length=i:=by rw[zz4];omega
  rw[hx,List.replicate_append_replicate,List.drop_append,hl,List.drop_eq_nil_of_le (by rw[hl];omega),zy3,List.drop_replicate]
  congr 1;omega
 have e3:ys=(l.take i++[g])++List.replicate (l.length-i+q) cB:=by rw[hy,e1,e2];simp
 have hl2:(l.take i++[g]).length=i+1:=by rw[Z8,zz4];simp;omega
 have e4:ys.take (i+1)=l.take i++[g]:=by rw[e3,←hl2,List.take_left]
 have e5:ys.drop (i+1+(l.length-i))=List.replicate q cB:=by
  rw[e3,List.drop_append,hl2,List.drop_eq_nil_of_le (by rw[hl2];omega),zy3,List.drop_replicate]
  congr 1;omega
 have e6:(((l++List.replicate 0 cB).drop i).take (l.length-i)).take (l.length-i)=l.drop i:=by
  rw[List.replicate_zero,zx9,List.take_take,Nat.min_self,zw4 (by rw[zv1];omega)]
 rw[e4,e5,e6];simp[fN]
theorem Wp(l:List ai)(i k:Nat)(g:ai)(h:i<l.length)(hk:1≤k)(xs:List ai)(hx:xs=l++List.replicate k cB)(ys:List ai)(hy:ys=xs.take (i+1)++(((xs.drop i).take (l.length+1-i)).take (l.length-i)++xs.drop (i+1+(l.length-i)))) :
  ys.take i++([g].take 1++ys.drop (i+1))=fN l i g++List.replicate (k-1) cB:=by
 have e1:((xs.drop i).take (l.length+1-i)).take (l.length-i)=l.drop i:=by
  rw[List.take_take,Nat.min_eq_left (by omega),hx,List.drop_append_of_le_length (by omega),List.take_append_of_le_length (by rw[zv1];omega),zw4 (by rw[zv1];omega)]
 have e2:xs.drop (i+1+(l.length-i))=List.replicate (k-1) cB:=by
  rw[hx,List.drop_append,List.drop_eq_nil_of_le (by omega),zy3,List.drop_replicate]
  congr 1;omega
 have hl:(xs.take (i+1)).length=i+1:=by rw[zz4,hx,Z8];omega
 have e3:ys.take i=l.take i:=by
  rw[hy,List.take_append_of_le_length (by omega),List.take_take,Nat.min_eq_left (by omega),hx,List.take_append_of_le_length (by omega)]
 have e4:ys.drop (i+1)=l.drop i++List.replicate (k-1) cB:=by
  rw[hy,e1,e2];exact List.drop_left' hl
 rw[e3,e4];simp[fN]
theorem FY(l:List ai)(i:Nat)(g:ai)(k:Nat)(hi:i≤l.length)(hn:l≠[])(hlen:l.length≤1000) :
  eW Tryz.prog 101 [.view 1000000 [] 8 0 l.length,enc (i:Int),enc [g]] (eZ 1000000 l k) (BT l i g k):=by
 refine eW.bS Tryz.func101 uN uP uW (t8 rfl) (t8 rfl) (fun m hm=>by rw[gh.1 hm];exact zz2 _) (fun hwf W0 bL E1 =>?_);simp only[rM,th,bH,zz5,Nat.reduceAdd];simp only[eZ];have hl0:0<l.length:=List.length_pos_iff.2 hn;have htot:((l++List.replicate k cB).map (enc (α:=ai))).length=l.length+k:=by simp
 refine .dV (by decide +kernel) fun K hK =>?_;simp only[r5,bd];refine .done (hK _ ?_);clear hK K;obtain ⟨y,hy⟩:=Zj (n:=1000000) (p:=[]) (sz:=8) hi (show l.length≤l.length+k by omega);refine .dV (by decide +kernel) fun K hK =>?_;simp only[r6,bd,Nat.reduceEqDiff,reduceIte]
 try simp only[gV,htot,zw0,hy,bd,reduceIte]
 refine .done (hK _ ?_);clear hK K;refine .dV (by decide +kernel) fun K hK =>?_;simp only[r7,bd,Nat.reduceEqDiff,reduceIte]
 try simp only[typR,jn,j6,jg,bd,Nat.reduceEqDiff,reduceIte,Int.reduceBNe,Int.reduceBEq]
 refine .done (hK _ ?_);clear hK K;refine U.seq (U.seq ?_);refine .iC (by decide +kernel) fun K hK =>?_;simp only[r8,bd,Nat.reduceEqDiff,reduceIte]
 try simp only[typR,jn,j6,jg,bd,Nat.reduceEqDiff,reduceIte,Int.reduceBNe,Int.reduceBEq]
 refine .done (hK _ ?_);clear hK K;try simp only[cT]
 refine U.hJ ?_;simp only[az,bd,Nat.reduceEqDiff,reduceIte];refine ⟨fun h =>?_,fun h =>?_⟩
 ·first | cases h | simp at h
 refine U.skip ?_;try simp only[cT]
 refine .dV (by decide +kernel) fun K hK =>?_;simp only[r9,bd,Nat.reduceEqDiff,reduceIte]
 try simp only[gV,bd,Nat.reduceEqDiff,reduceIte]
 refine .done (hK _ ?_);clear hK K;refine U.seq (U.seq ?_);refine .iC (by decide +kernel) fun K hK =>?_;simp only[sa,bd,Nat.reduceEqDiff,reduceIte]
 try simp only[typR,jn,j6,jg,bd,Nat.reduceEqDiff,reduceIte,Int.reduceBNe,Int.reduceBEq]
 refine .done (hK _ ?_);clear hK K;try simp only[cT]
 have hA:∀ ts,(aw ts [(1000000,.box (.agg ((l++List.replicate k cB).map (enc (α:=ai)))))]).o 1000000=some (.box (.agg ((l++List.replicate k cB).map enc))):=fun _=>rfl;have hN:∀ ts (d:Nat),d≠1000000→(aw ts [(1000000,.box (.agg ((l++List.replicate k cB).map (enc (α:=ai)))))]).o d=none:=fun ts d hd=>by
  have:¬ d=1000000:=hd;simp[aw,aD,this]
 refine U.hJ ?_;simp only[az,bd,Nat.reduceEqDiff,reduceIte];refine ⟨fun h =>?_,fun h =>?_⟩
 ·have hil:i=l.length:=by
   have:(i:Int)=l.length:=by simpa using h
   omega
  subst hil;by_cases hk:k=0
  ·subst hk;refine .dV (by decide +kernel) fun K hK =>?_;simp only[qc,bd,Nat.reduceEqDiff,reduceIte]
   try simp only[ly]
   refine aZ.G4 (esz:=8) cB rfl (xs:=l++List.replicate 0 cB) (ys:=[g]) (by simp) (hA _) (by simp) (by simp) (hN _ 25 (by decide)) (by simp;omega) (by simp[maxLen];omega) fun q =>?_;have hc:(l++List.replicate 0 cB).take l.length++([g]++List.replicate q cB)=fN l l.length g++List.replicate q cB:=by simp[fN]
   rw[hc]
   try simp only[List.length_singleton,bd,Nat.reduceEqDiff,reduceIte]
   refine .done (hK _ ?_);clear hK K;refine U.ret ?_;simp only[cT,kb];exact ⟨eZ 25 (fN l l.length g) q++eZ 1000000 l 0,[.view 25 [] 8 0 (l.length+1)],BM rfl (fun p=>fF p _) rfl (fun p=>fF p _),⟨⟨_,rfl,.inl ⟨rfl,rfl,rfl⟩⟩,trivial⟩,.inr ⟨25,q,.inl rfl,rfl,rfl⟩⟩
  ·refine .dV (by decide +kernel) fun K hK =>?_;simp only[qc,bd,Nat.reduceEqDiff,reduceIte]
   try simp only[ly]
   rw[yE (esz:=8) _ rfl (xs:=l++List.replicate k cB) (ys:=[g]) (by simp) (hA _) (by simp;omega)];have hc:(l++List.replicate k cB).take l.length++([g]++(l++List.replicate k cB).drop (l.length+[g].length))=fN l l.length g++List.replicate (k-1) cB:=by
    simp[fN,List.drop_append]
   rw[hc]
   try simp only[List.length_singleton,bd,Nat.reduceEqDiff,reduceIte]
   refine .done (hK _ ?_);clear hK K;refine U.ret ?_;simp only[cT,kb];exact ⟨eZ 1000000 (fN l l.length g) (k-1),[.view 1000000 [] 8 0 (l.length+1)],oF rfl (fun p=>fF p _),⟨⟨_,rfl,.inl ⟨rfl,rfl,rfl⟩⟩,trivial⟩,.inl ⟨k-1,rfl,rfl⟩⟩
 have hlt:i<l.length:=by
  have:¬ (i:Int)=l.length:=by simpa using h
  omega
 refine U.skip ?_;try simp only[cT]
 refine U.seq (U.seq ?_);refine .iC (by decide +kernel) fun K hK =>?_;simp only[Bt,bd,Nat.reduceEqDiff,reduceIte]
 try simp only[W8,List.length_singleton,bd,Nat.reduceEqDiff,reduceIte]
 rw[Ja (xs:=l++List.replicate k cB) (hA _)]
 try simp only[bd,Nat.reduceEqDiff,reduceIte]
 rw[dX _ (by simp;omega) (by simp;omega)];refine .done (hK _ ?_);clear hK K;try simp only[cT]
 have hgt:decide ((((l++List.replicate k cB).length-0:Nat):Int)<(l.length:Int)+((1:Nat):Int))=decide (k=0):=by
  by_cases hk:k=0 <;>simp[hk] <;>omega
 simp only[hgt];by_cases hk:k=0
 ·subst hk;refine U.hJ ?_;simp only[az,bd,Nat.reduceEqDiff,reduceIte];refine ⟨fun h =>?_,fun h =>?_⟩
  ·have htot0:((l++List.replicate 0 cB).map (enc (α:=ai))).length=l.length:=by simp
   refine .dV (by decide +kernel) fun K hK =>?_;simp only[Bu,bd,Nat.reduceEqDiff,reduceIte]
   try simp only[gV,htot0,zw0,Fj (show i≤l.length by omega) hl0,ly,WW,bd,Nat.reduceEqDiff,reduceIte]
   rw[dX ((l.length:Int)+((1:Nat):Int)) (by omega) (by omega),dX ((l.length:Int)+((1:Nat):Int)-i) (by omega) (by omega)];have hm:(l.length:Int)+((1:Nat):Int)-i=((l.length+1-i:Nat):Int):=by omega
   rw[hm];refine aZ.Hb (esz:=8) cB rfl (xs:=l++List.replicate 0 cB) (hA _) (by simp;omega) (by omega) (by simp;omega) (hN _ 40 (by decide)) (by omega) (by simp only[maxLen];omega) fun q =>?_;obtain ⟨xs,hxs⟩:∃ xs,xs=l.take i++(List.replicate (l.length+1-i) cB++List.replicate q cB):=⟨_,rfl⟩
   have hxs':(l++List.replicate 0 cB).take i++(List.replicate (l.length+1-i) cB++List.replicate q cB)=xs:=by rw[hxs,List.take_append_of_le_length (by omega)]
   have hxl:xs.length=l.length+1+q:=by rw[hxs];simp;omega
   have hle:i+(l.length+1-i)=l.length+1:=by omega
   rw[hxs',hle]
   try simp only[bd,Nat.reduceEqDiff,reduceIte]
   refine .done (hK _ ?_);clear hK K;have hxm:(xs.map (enc (α:=ai))).length=l.length+1+q:=by rw[Z9];exact hxl
   have hA2:∀ ts,(aw ts [(40,.box (.agg (xs.map (enc (α:=ai))))),(1000000,.box (.agg ((l++List.replicate 0 cB).map (enc (α:=ai)))))]).o 40=some (.box (.agg (xs.map enc))):=fun _=>rfl;refine .dV (by decide +kernel) fun K hK =>?_;simp only[Bk,bd,Nat.reduceEqDiff,reduceIte]
   try simp only[gV,hxm,zw0,mB (show i≤l.length+1 by omega) (show l.length+1≤l.length+1+q by omega) (show i<l.length+1+q by omega),mj,bd,Nat.reduceEqDiff,reduceIte]
   rw[Ft,oq (xs:=xs) (c:=1) (hA2 _) (by omega) (by simp;omega)];obtain ⟨ys,hys⟩:∃ ys,ys=xs.take i++([g].take 1++xs.drop (i+1)):=⟨_,rfl⟩
   have hyl:ys.length=l.length+1+q:=by rw[hys];simp;omega
   rw[←hys]
   try simp only[bd]
   refine .done (hK _ ?_);clear hK K;have hym:(ys.map (enc (α:=ai))).length=l.length+1+q:=by rw[Z9];exact hyl
   have hA3:∀ ts z,(aw ts [(40,.box (.agg (ys.map (enc (α:=ai))))),(40,z),(1000000,.box (.agg ((l++List.replicate 0 cB).map (enc (α:=ai)))))]).o 40=some (.box (.agg (ys.map enc))):=fun _ _=>rfl;have hA4:∀ ts z,(aw ts [(40,.box (.agg (ys.map (enc (α:=ai))))),(40,z),(1000000,.box (.agg ((l++List.replicate 0 cB).map (enc (α:=ai)))))]).o 1000000=some (.box (.agg ((l++List.replicate 0 cB).map enc))):=fun _ _=>rfl;refine .dV (by decide +kernel) fun K hK =>?_;simp only[Bl,bd,Nat.reduceEqDiff,reduceIte];rw[dX ((i:Int)+((1:Nat):Int)) (by omega) (by omega)];have hi1:(i:Int)+((1:Nat):Int)=((i+1:Nat):Int):=by omega
   try simp only[gV,hym,htot0,hi1,zw0,zz7,mB (show i+1≤l.length+1 by omega) (show l.length+1≤l.length+1+q by omega) (show i+1<l.length+1+q by omega),mB (show i≤l.length by omega) (zz2 l.length) hlt,mj,bd,Nat.reduceEqDiff,reduceIte]
   have hd1:l.length+1-(i+1)=l.length-i:=by omega
   rw[hd1,Fu (xs:=l++List.replicate 0 cB) (hA4 _ _) (by simp;omega),oq (xs:=ys) (c:=l.length-i) (hA3 _ _) (by omega) (by simp)];rw[Wq l i q g hlt xs hxs ys hys]
   try simp only[bd]
   refine .done (hK _ ?_);clear hK K;refine .dV (by decide +kernel) fun K hK =>?_;simp only[Bm,bd,Nat.reduceEqDiff,reduceIte];refine .done (hK _ ?_);clear hK K;refine U.ret ?_;simp only[cT,kb];exact ⟨eZ 40 (fN l i g) q++eZ 1000000 l 0,[.view 40 [] 8 0 (l.length+1)],BM rfl (fun p=>fF p _) rfl (fun p=>fF p _),⟨⟨_,rfl,.inl ⟨rfl,rfl,rfl⟩⟩,trivial⟩,.inr ⟨40,q,.inr rfl,rfl,rfl⟩⟩
  ·simp at h
 ·refine U.hJ ?_;simp only[az,bd,Nat.reduceEqDiff,reduceIte];refine ⟨fun h =>?_,fun h =>?_⟩
  ·simp at h;omega
  refine U.skip ?_;try simp only[cT]
  have hk1:1≤k:=by omega
  have hn1:(l.length:Int)+((1:Nat):Int)=((l.length+1:Nat):Int):=by omega
  refine .dV (by decide +kernel) fun K hK =>?_;simp only[Bn,bd,Nat.reduceEqDiff,reduceIte];rw[dX ((l.length:Int)+((1:Nat):Int)) (by omega) (by omega)]
  try simp only[gV,htot,hn1,zw0,Fj (show l.length+1≤l.length+k by omega) (show 0<l.length+k by omega),bd,Nat.reduceEqDiff,reduceIte]
  refine .done (hK _ ?_);clear hK K;have hi1:(i:Int)+((1:Nat):Int)=((i+1:Nat):Int):=by omega
  have hd1:l.length+1-(i+1)=l.length-i:=by omega
  refine U.seq (U.seq ?_);refine .iC (by decide +kernel) fun K hK =>?_;simp only[Bo,bd,Nat.reduceEqDiff,reduceIte];rw[dX ((i:Int)+((1:Nat):Int)) (by omega) (by omega)]
  try simp only[gV,htot,hi1,hd1,zw0,mB (show i+1≤l.length+1 by omega) (show l.length+1≤l.length+k by omega) (show i+1<l.length+k by omega),XD,bd,Nat.reduceEqDiff,reduceIte]
  refine .ext (.bool false) rfl (ZV (tS:=23) (tR:=4) (e:=50) Tryz.func143 (by kernel_rfl) (by kernel_rfl) (by kernel_rfl) (by kernel_rfl) (by kernel_rfl) (by kernel_rfl) (hA _) rfl ?_ (by decide) (Bf (by intro h;have:=congrArg List.length h;rw[Z8,List.length_replicate,zw2] at this;omega) rfl)) ?_
  ·show I.sizes ((l++List.replicate k cB).map enc)≠0
   rw[I.gF (sz:=8) _ (fun e he=>by obtain ⟨x,_,rfl⟩:=zx4.1 he;rw[jT];rfl)];rw[htot];omega
  try simp only[bd,Nat.reduceEqDiff,reduceIte]
  refine .done (hK _ ?_);clear hK K;try simp only[cT]
  refine U.hJ ?_;simp only[az,bd,Nat.reduceEqDiff,reduceIte];refine ⟨fun h =>?_,fun h =>?_⟩
  case neg.refine_2.refine_2.refine_2=>cases h
  have hd2:l.length+1-i=l.length+1-i:=rfl;obtain ⟨xs,hxs⟩:∃ xs,xs=l++List.replicate k cB:=⟨_,rfl⟩
  have hxl:xs.length=l.length+k:=by rw[hxs];simp
  have hxm:(xs.map (enc (α:=ai))).length=l.length+k:=by rw[Z9];exact hxl
  rw[←hxs];have hB:∀ ts,(aw ts [(1000000,.box (.agg (xs.map (enc (α:=ai)))))]).o 1000000=some (.box (.agg (xs.map enc))):=fun _=>rfl;refine .dV (by decide +kernel) fun K hK =>?_;simp only[Bp,bd,Nat.reduceEqDiff,reduceIte];rw[dX ((i:Int)+((1:Nat):Int)) (by omega) (by omega)]
  try simp only[gV,hxm,hi1,hd1,zw0,zz7,mB (show i+1≤l.length+1 by omega) (show l.length+1≤l.length+k by omega) (show i+1<l.length+k by omega),mB (show i≤l.length+1 by omega) (show l.length+1≤l.length+k by omega) (show i<l.length+k by omega),mj,bd,Nat.reduceEqDiff,reduceIte]
  rw[Fu (xs:=xs) (hB _) (by omega),oq (xs:=xs) (c:=l.length-i) (hB _) (by omega) (by simp;omega)];obtain ⟨ys,hys⟩:∃ ys,ys=xs.take (i+1)++(((xs.drop i).take (l.length+1-i)).take (l.length-i)++xs.drop (i+1+(l.length-i))):=⟨_,rfl⟩
  have hyl:ys.length=l.length+k:=by rw[hys];simp;omega
  have hym:(ys.map (enc (α:=ai))).length=l.length+k:=by rw[Z9];exact hyl
  rw[←hys]
  try simp only[bd]
  refine .done (hK _ ?_);clear hK K;have hC:∀ ts z,(aw ts [(1000000,.box (.agg (ys.map (enc (α:=ai))))),(1000000,z)]).o 1000000=some (.box (.agg (ys.map enc))):=fun _ _=>rfl;refine .dV (by decide +kernel) fun K hK =>?_;simp only[Bq,bd,Nat.reduceEqDiff,reduceIte]
  try simp only[gV,hym,zw0,mB (show i≤l.length+1 by omega) (show l.length+1≤l.length+k by omega) (show i<l.length+k by omega),mj,bd,Nat.reduceEqDiff,reduceIte]
  rw[Ft,oq (xs:=ys) (c:=1) (hC _ _) (by omega) (by simp;omega)];rw[Wp l i k g hlt hk1 xs hxs ys hys]
  try simp only[bd]
  refine .done (hK _ ?_);clear hK K;refine .dV (by decide +kernel) fun K hK =>?_;simp only[Br,bd,Nat.reduceEqDiff,reduceIte];refine .done (hK _ ?_);clear hK K;refine U.ret ?_;simp only[cT,kb];exact ⟨eZ 1000000 (fN l i g) (k-1),[.view 1000000 [] 8 0 (l.length+1)],oF rfl (fun p=>fF p _),⟨⟨_,rfl,.inl ⟨rfl,rfl,rfl⟩⟩,trivial⟩,.inl ⟨k-1,rfl,rfl⟩⟩
def eL(a b:Int):Int:=if a<b then -1 else if a>b then 1 else 0
def gK(a b:Item):Int:=if eL a.aO b.aO≠0 then eL a.aO b.aO else eL a.no b.no
def fo(a b:Item):Bool:=decide (a.aO<b.aO∨(a.aO=b.aO∧a.no<b.no))
theorem Ak(a b:Int):(a<b∧eL a b=-1)∨(a=b∧eL a b=0)∨(b<a∧eL a b=1):=by
 simp only[eL]
 (repeat' split) <;>omega
theorem Al(a b:Item):(fo a b=true∧gK a b=-1)∨(a=b∧gK a b=0)∨(fo b a=true∧gK a b=1):=by
 obtain ⟨m,n⟩:=a;obtain ⟨m',n'⟩:=b;simp only[gK,fo,decide_eq_true_eq,Item.mk.injEq];rcases Ak m m' with ⟨h,e⟩ | ⟨h,e⟩ | ⟨h,e⟩ <;>rw[e]
 ·simp;omega
 ·rcases Ak n n' with ⟨h2,e2⟩ | ⟨h2,e2⟩ | ⟨h2,e2⟩ <;>rw[e2] <;>simp <;>omega
 ·simp;omega
theorem pR(a:Item):fo a a=false:=by simp only[fo,decide_eq_false_iff_not];omega
theorem uD{a b c:Item}(h:fo a b=true)(k:fo b c=true):fo a c=true:=by
 simp only[fo,decide_eq_true_eq] at *;omega
theorem Am(a b:Item):decide (gK a b<0)=fo a b:=by
 rcases Al a b with ⟨h,e⟩ | ⟨rfl,e⟩ | ⟨h,e⟩
 ·rw[e,h];rfl
 ·rw[e,pR];rfl
 ·rw[e];cases k:fo a b
  ·rfl
  ·have:=uD k h;rw[pR] at this;cases this
theorem Kl(a b:Item):(gK a b==0)=decide (a=b):=by
 rcases Al a b with ⟨h,e⟩ | ⟨rfl,e⟩ | ⟨h,e⟩
 ·rw[e,decide_eq_false (fun k=>by rw[k,pR] at h;cases h)];rfl
 ·rw[e];simp
 ·rw[e,decide_eq_false (fun k=>by rw[k,pR] at h;cases h)];rfl
theorem yc(n:Int):aS Tryz.prog 175 [enc n] (enc false):=by
 refine aS.bS Tryz.func175 Is JA KP (t8 rfl) (fun hwf W0 bL E1 =>?_);simp only[c175,DI,bH];clear hwf;have q:(n != n)=false:=by simp
 have R:=y6 @q aF
 repeat' ((first |refine U.aJ (by decide +kernel) rfl fun K hK =>?_|(refine .aG [0,2] hK ?_;clear hK K)|(with_reducible refine .done (hK _ ?_);clear hK K)|refine U.of rfl ?_|(with_reducible refine az.aI (fun h =>?_) (fun h =>?_) <;>try simp only[h])) <;>try simp only[aK,R,simprocAttr])
 all_goals clear R
 all_goals rfl
theorem ya(a b:Int):aS Tryz.prog 161 [enc a,enc b] (enc (eL a b)):=by
 refine aS.bS Tryz.func161 Iq Jx KM (t8 rfl) (fun hwf W0 bL E1 =>?_);simp only[zo,DF,bH,zz5];clear hwf;have f1:=yc a;have f2:=yc b;simp only[eL];cases q1:decide (a<b)
 ·rw[if_neg (of_decide_eq_false q1)];cases q2:decide (a>b)
  ·rw[if_neg (of_decide_eq_false q2)];have R:=y6 @q1 (y6 @q2 aF)
   repeat' ((first |refine U.aJ (by decide +kernel) rfl fun K hK =>?_|refine .flat _ (f1) rfl ?_|refine .flat _ (f2) rfl ?_|(refine .aG [0,1,4,5,6,11,12,13,16,19] hK ?_;clear hK K)|(with_reducible refine .done (hK _ ?_);clear hK K)|refine U.of rfl ?_|(with_reducible refine az.aI (fun h =>?_) (fun h =>?_) <;>try simp only[h])) <;>try simp only[aK,R,simprocAttr])
   all_goals clear R
   all_goals rfl
  ·rw[if_pos (of_decide_eq_true q2)];have R:=y6 @q1 (y6 @q2 aF)
   repeat' ((first |refine U.aJ (by decide +kernel) rfl fun K hK =>?_|refine .flat _ (f1) rfl ?_|refine .flat _ (f2) rfl ?_|(refine .aG [0,1,4,5,6,11,12,13,16,19] hK ?_;clear hK K)|(with_reducible refine .done (hK _ ?_);clear hK K)|refine U.of rfl ?_|(with_reducible refine az.aI (fun h =>?_) (fun h =>?_) <;>try simp only[h])) <;>try simp only[aK,R,simprocAttr])
   all_goals clear R
   all_goals rfl
 ·rw[if_pos (of_decide_eq_true q1)];have R:=y6 @q1 aF
  repeat' ((first |refine U.aJ (by decide +kernel) rfl fun K hK =>?_|refine .flat _ (f1) rfl ?_|refine .flat _ (f2) rfl ?_|(refine .aG [0,1,4,5,6,11,12,13,16,19] hK ?_;clear hK K)|(with_reducible refine .done (hK _ ?_);clear hK K)|refine U.of rfl ?_|(with_reducible refine az.aI (fun h =>?_) (fun h =>?_) <;>try simp only[h])) <;>try simp only[aK,R,simprocAttr])
  all_goals clear R
  all_goals rfl
theorem Gi(a b:Int):aS Tryz.prog 160 [enc [a,b]] (enc (if a≠0 then a else b)):=by
 refine aS.bS Tryz.func160 Ip Jw KL (t8 rfl) (fun hwf W0 bL E1 =>?_);simp only[zn,DE,bH];clear hwf;have h0:∀ A,ji A 1 ((0:Nat):Int) (enc [a,b])=some (.ref (enc a)):=fun A=>fg (A:=A) (l:=[a,b]) (k:=0) 1 (by simp) rfl;have h1:∀ A,ji A 1 ((1:Nat):Int) (enc [a,b])=some (.ref (enc b)):=fun A=>fg (A:=A) (l:=[a,b]) (k:=1) 1 (by simp) rfl;have hl:([a,b]:List Int).length=2:=rfl;obtain ⟨l,hll⟩:∃ l,l=[a,b]:=⟨_,rfl⟩
 rw[←hll] at h0 h1 hl ⊢;have R:=aF
 repeat' ((first |refine U.aJ (by decide +kernel) rfl fun K hK =>?_|(refine .aG [0,2,3,5,6,7,8,9,14] hK ?_;clear hK K)|(with_reducible refine .done (hK _ ?_);clear hK K)|refine U.of rfl ?_|(with_reducible refine az.aI (fun h =>?_) (fun h =>?_) <;>try simp only[h])) <;>try simp only[aK,R,simprocAttr])
 all_goals clear R
 refine U.loop (fun i:Nat=>aw [(0,enc l),(3,.int .i64 0),(6,enc l),(7,.int .i64 (l.length:Int)),(8,.int .i64 (i:Int))] []) (fun i=>i≤2∧(0<i→a=0)∧(1<i→b=0)) (fun i=>2-i) 0 ⟨by omega,by omega,by omega⟩ ?_ ?_
 ·refine bx.cQ ?_ ?_ ?_ ?_ <;>simp[bV,b7,b6,bI,bX,I.only,bu]
  all_goals rfl
 rintro i ⟨hi,k0,k1⟩;have hw:=eU (i:=i) (by omega);by_cases e0:i=0
 ·have hc:=fr (show i<l.length by omega);have he:∀ A,ji A 1 (i:Int) (enc l)=some (.ref (enc a)):=fun A=>by rw[e0];exact h0 A
  cases q:(a != 0)
  ·have R:=y6 @hc (y6 @he (y6 @q (y6 @hw aF)))
   repeat' ((first |refine U.aJ (by decide +kernel) rfl fun K hK =>?_|(refine .aG [0,2,3,5,6,7,8,9,14] hK ?_;clear hK K)|(with_reducible refine .done (hK _ ?_);clear hK K)|refine U.of rfl ?_|(with_reducible refine az.aI (fun h =>?_) (fun h =>?_) <;>try simp only[h])) <;>try simp only[aK,R,simprocAttr])
   all_goals clear R
   refine ⟨i+1,⟨by omega,fun _=>by simpa using q,by omega⟩,by omega,?_⟩;refine bx.cQ ?_ ?_ ?_ ?_ <;>simp[bV,b7,b6,bI,bX,I.only,bu]
   all_goals rfl
  ·have ha:a≠0:=by simpa using q
   rw[if_pos ha];have R:=y6 @hc (y6 @he (y6 @q (y6 @hw aF)))
   repeat' ((first |refine U.aJ (by decide +kernel) rfl fun K hK =>?_|(refine .aG [0,2,3,5,6,7,8,9,14] hK ?_;clear hK K)|(with_reducible refine .done (hK _ ?_);clear hK K)|refine U.of rfl ?_|(with_reducible refine az.aI (fun h =>?_) (fun h =>?_) <;>try simp only[h])) <;>try simp only[aK,R,simprocAttr])
   all_goals clear R
   all_goals rfl
 have ha:¬ a≠0:=fun h=>h (k0 (by omega));by_cases e1:i=1
 ·have hc:=fr (show i<l.length by omega);have he:∀ A,ji A 1 (i:Int) (enc l)=some (.ref (enc b)):=fun A=>by rw[e1];exact h1 A
  cases q:(b != 0)
  ·have R:=y6 @hc (y6 @he (y6 @q (y6 @hw aF)))
   repeat' ((first |refine U.aJ (by decide +kernel) rfl fun K hK =>?_|(refine .aG [0,2,3,5,6,7,8,9,14] hK ?_;clear hK K)|(with_reducible refine .done (hK _ ?_);clear hK K)|refine U.of rfl ?_|(with_reducible refine az.aI (fun h =>?_) (fun h =>?_) <;>try simp only[h])) <;>try simp only[aK,R,simprocAttr])
   all_goals clear R
   refine ⟨i+1,⟨by omega,fun _=>k0 (by omega),fun _=>by simpa using q⟩,by omega,?_⟩;refine bx.cQ ?_ ?_ ?_ ?_ <;>simp[bV,b7,b6,bI,bX,I.only,bu]
   all_goals rfl
  ·rw[if_neg ha];have R:=y6 @hc (y6 @he (y6 @q (y6 @hw aF)))
   repeat' ((first |refine U.aJ (by decide +kernel) rfl fun K hK =>?_|(refine .aG [0,2,3,5,6,7,8,9,14] hK ?_;clear hK K)|(with_reducible refine .done (hK _ ?_);clear hK K)|refine U.of rfl ?_|(with_reducible refine az.aI (fun h =>?_) (fun h =>?_) <;>try simp only[h])) <;>try simp only[aK,R,simprocAttr])
   all_goals clear R
   all_goals rfl
 have hc:=fM (show ¬ i<l.length by omega);rw[if_neg ha,k1 (by omega)];have R:=y6 @hc aF
 repeat' ((first |refine U.aJ (by decide +kernel) rfl fun K hK =>?_|(refine .aG [0,2,3,5,6,7,8,9,14] hK ?_;clear hK K)|(with_reducible refine .done (hK _ ?_);clear hK K)|refine U.of rfl ?_|(with_reducible refine az.aI (fun h =>?_) (fun h =>?_) <;>try simp only[h])) <;>try simp only[aK,R,simprocAttr])
 all_goals clear R
 all_goals rfl
theorem Gd(a b:Item):aS Tryz.prog 140 [enc a,enc b] (enc (gK a b)):=by
 refine aS.bS Tryz.func140 Ih Js KH (t8 rfl) (fun hwf W0 bL E1 =>?_);simp only[zj,Dz,bH,zz5];clear hwf;have f1:=ya a.aO b.aO;have f2:=ya a.no b.no;have f3:=Gi (eL a.aO b.aO) (eL a.no b.no);have hbs:gu 1 (some [.int .i64 (eL a.aO b.aO),.int .i64 (eL a.no b.no)])=some (enc [eL a.aO b.aO,eL a.no b.no]):=uJ (ys:=[eL a.aO b.aO,eL a.no b.no]) 1 rfl;have R:=y6 @hbs aF
 repeat' ((first |refine U.aJ (by decide +kernel) rfl fun K hK =>?_|refine .flat _ (f1) rfl ?_|refine .flat _ (f2) rfl ?_|refine .flat _ (f3) rfl ?_|(refine .aG [0,1,2,3,4] hK ?_;clear hK K)|(with_reducible refine .done (hK _ ?_);clear hK K)|refine U.of rfl ?_|(with_reducible refine az.aI (fun h =>?_) (fun h =>?_) <;>try simp only[h])) <;>try simp only[aK,R,simprocAttr])
 all_goals clear R
 all_goals rfl
theorem xZ(x:ai)(a:Item):aS Tryz.prog 139 [enc x,enc a] (enc (gK x.bp a)):=by
 refine aS.bS Tryz.func139 If Jq KF (t8 rfl) (fun hwf W0 bL E1 =>?_);simp only[zh,Dw,bH,zz5];clear hwf;have R:=aF
 repeat' ((first |refine U.aJ (by decide +kernel) rfl fun K hK =>?_|refine .flat _ (Gd x.bp a) rfl ?_|(refine .aG [0,1,2,3,4] hK ?_;clear hK K)|(with_reducible refine .done (hK _ ?_);clear hK K)|refine U.of rfl ?_|(with_reducible refine az.aI (fun h =>?_) (fun h =>?_) <;>try simp only[h])) <;>try simp only[aK,R,simprocAttr])
 all_goals clear R
 all_goals rfl
theorem ZQ(x y:Nat)(h:x+y<9223372036854775807):IntKind.i64.wrap ((x:Int)+(y:Int))=((x+y:Nat):Int):=by rw[dX _ (by omega) (by omega)];omega
theorem ZR{n:Nat}(h:n≤9223372036854775807):IntKind.i64.wrap (n:Int)=(n:Int):=dX _ (by omega) (by omega)
theorem wb(x:Nat):Int.fdiv (x:Int) (2^min (Int.toNat 1) IntKind.u64.bits)=((x / 2:Nat):Int):=by
 have:min (Int.toNat 1) IntKind.u64.bits=1:=rfl;rw[this]
 show Int.fdiv (x:Int) 2=_
 rw[Int.fdiv_eq_ediv_of_nonneg _ (by decide)];rfl
theorem Cs(x:Nat):Int.fdiv (x:Int) (2^min 1 IntKind.u64.bits)=((x / 2:Nat):Int):=wb x
theorem Wz{x:Nat}(h:x<9223372036854775807):IntKind.u64.wrap (x:Int)=(x:Int):=by
 simp only[IntKind.wrap,IntKind.bits,IntKind.signed];simp;omega
theorem Cr:((0:Int)≤1)=True:=by simp
abbrev mM(l:List ai):Prop:=l.Pairwise fun a b=>dq a b=true
def fu(l:List ai)(a:Item):Nat:=l.findIdx fun x => !fo x.bp a
def jy(l:List ai)(a:Item):Bool:=l.any fun x=>decide (x.bp=a)
theorem X4(l:List ai)(a:Item):fu l a≤l.length:=List.findIdx_le_length
theorem xv{l:List ai}(h:mM l){i j:Nat}(hij:i<j)(hj:j<l.length):fo (l[i]'(by omega)).bp l[j].bp=true:=List.pairwise_iff_getElem.1 h i j (by omega) hj hij
theorem wL{l:List ai}{a:Item}{i:Nat}(hi:i≤l.length)(h1:∀ k (h:k<l.length),k<i→fo l[k].bp a=true)(h2:∀ h:i<l.length,fo l[i].bp a=false):fu l a=i:=by
 simp only[fu];by_cases hlt:i<l.length
 ·refine (List.findIdx_eq hlt).2 ⟨by rw[h2 hlt];rfl,fun j hj =>?_⟩;rw[h1 j (by omega) hj];rfl
 ·have e:i=l.length:=by omega
  rw[e];refine List.findIdx_eq_length.2 fun x hx =>?_;obtain ⟨k,hk,rfl⟩:=List.getElem_of_mem hx;rw[h1 k hk (by omega)];rfl
theorem BK{l:List ai}(hs:mM l)(a:Item):jy l a=true↔∃ h:fu l a<l.length,(l[fu l a]).bp=a:=by
 constructor
 ·intro h;simp only[jy,List.any_eq_true,decide_eq_true_eq] at h;obtain ⟨x,hx,rfl⟩:=h;obtain ⟨k,hk,rfl⟩:=List.getElem_of_mem hx;have h1:fu l l[k].bp=k:=wL (by omega) (fun j hj hjk=>xv hs hjk hk) (fun _=>pR _);exact ⟨by omega,by simp only[h1]⟩
 ·rintro ⟨h1,h2⟩;simp only[jy,List.any_eq_true,decide_eq_true_eq];exact ⟨_,List.getElem_mem h1,h2⟩
theorem Gb(l:List ai)(a:Item)(hs:mM l)(hl:l.length≤1000):aS Tryz.prog 138 [enc l,enc a,.func 139 []] (.tuple [enc (fu l a:Int),enc (jy l a)]):=by
 refine aS.bS Tryz.func138 Ie Jp KE (t8 rfl) (fun hwf W0 bL E1 =>?_);simp only[zg,Dv,bH,zz5,Nat.reduceAdd];clear hwf;have R:=aF
 repeat' ((first |(with_reducible refine .guard (fun hb =>?_) (fun hb =>?_) <;>try simp only[hb])|refine U.aJ (by decide +kernel) rfl fun K hK =>?_|(refine .aG [0,1,2,4,6,7,8,9,10,11,17,31] hK ?_;clear hK K)|(with_reducible refine .done (hK _ ?_);clear hK K)|refine U.of rfl ?_|(with_reducible refine az.aI (fun h =>?_) (fun h =>?_) <;>try simp only[h])) <;>try simp only[aK,R,simprocAttr])
 all_goals clear R
 refine U.loop (fun s:Nat×Nat=>aw [(0,enc l),(2,.func 139 []),(4,.ptr 4 []),(8,.int .i64 l.length),(9,.int .i64 s.1),(10,.int .i64 s.2)] [(4,.box (enc a))]) (fun s=>s.1≤s.2∧s.2≤l.length∧(∀ k (h:k<l.length),k<s.1→fo l[k].bp a=true)∧∀ k (h:k<l.length),s.2≤k→fo l[k].bp a=false) (fun s=>s.2-s.1) (0,l.length) ⟨zv0 _,zz2 _,fun k _ hk=>by omega,fun k h1 h2=>by simp only at h2;omega⟩ ?_ ?_
 ·refine bx.cQ ?_ ?_ ?_ ?_ <;>simp[bV,b7,b6,bI,aC,bX,dR,I.only,I.cI,aj.only,bu]
  all_goals rfl
 rintro ⟨i,j⟩ ⟨h1,h2,h3,h4⟩;simp only at h1 h2 h3 h4 ⊢;by_cases hlt:i<j
 ·have hc:=fr hlt;have w1:=ZQ i j (by omega);have w2:=Wz (x:=i+j) (by omega);obtain ⟨h,hh⟩:∃ h,h=(i+j) / 2:=⟨_,rfl⟩
  have w5:=ZR (n:=h) (by omega);have hhl:h<l.length:=by omega
  have he:=fun A=>fg (A:=A) 8 hhl rfl;have hn:=Am l[h].bp a;have hw:=eU (i:=h) (by omega);have f139:=xZ l[h] a;rcases hb:fo l[h].bp a
  ·rw[hb] at hn;have hlo:∀ k (h':k<l.length),h≤k→fo l[k].bp a=false:=fun k hkl hk=>by
    cases hbk:fo l[k].bp a with
    |false=>rfl
    |true =>
     by_cases e:k=h
     ·subst e;rw[hb] at hbk;cases hbk
     ·have:=uD (xv hs (show h<k by omega) hkl) hbk;rw[this] at hb;cases hb
   clear hb;generalize l[h]=r at *;have R:=y6 @hc (y6 @w1 (y6 @w2 (y6 @w5 (y6 @he (y6 @hn (y6 @hw (y6 @Cs (y6 @wb (y6 @Cr (y6 @kz aF))))))))))
   repeat' ((first |(with_reducible refine .guard (fun hb =>?_) (fun hb =>?_) <;>try simp only[hb])|refine U.aJ (by decide +kernel) rfl fun K hK =>?_|refine .flat _ (f139) rfl ?_|(refine .aG [0,1,2,4,6,7,8,9,10,11,17,31] hK ?_;clear hK K)|(with_reducible refine .done (hK _ ?_);clear hK K)|refine U.of rfl ?_|(with_reducible refine az.aI (fun h =>?_) (fun h =>?_) <;>try simp only[h])) <;>try simp only[aK,R,←hh,zz8,simprocAttr])
   all_goals clear R
   refine ⟨(i,h),⟨by simp only;omega,by simp only;omega,h3,hlo⟩,by simp only;omega,?_⟩;clear hlo;refine bx.cQ ?_ ?_ ?_ ?_ <;>simp[bV,b7,b6,bI,aC,bX,dR,I.only,I.cI,aj.only,bu]
   all_goals rfl
  ·rw[hb] at hn;have hhi:∀ k (h':k<l.length),k<h+1→fo l[k].bp a=true:=fun k hkl hk=>by
    by_cases e:k=h
    ·subst e;exact hb
    ·cases hbk:fo l[k].bp a with
     |true=>rfl
     |false =>
      have:=uD (xv hs (show k<h by omega) hhl) hb;rw[this] at hbk;cases hbk
   clear hb;generalize l[h]=r at *;have R:=y6 @hc (y6 @w1 (y6 @w2 (y6 @w5 (y6 @he (y6 @hn (y6 @hw (y6 @Cs (y6 @wb (y6 @Cr (y6 @kz aF))))))))))
   repeat' ((first |(with_reducible refine .guard (fun hb =>?_) (fun hb =>?_) <;>try simp only[hb])|refine U.aJ (by decide +kernel) rfl fun K hK =>?_|refine .flat _ (f139) rfl ?_|(refine .aG [0,1,2,4,6,7,8,9,10,11,17,31] hK ?_;clear hK K)|(with_reducible refine .done (hK _ ?_);clear hK K)|refine U.of rfl ?_|(with_reducible refine az.aI (fun h =>?_) (fun h =>?_) <;>try simp only[h])) <;>try simp only[aK,R,←hh,zz8,simprocAttr])
   all_goals clear R
   refine ⟨(h+1,j),⟨by simp only;omega,h2,hhi,h4⟩,by simp only;omega,?_⟩;clear hhi;refine bx.cQ ?_ ?_ ?_ ?_ <;>simp[bV,b7,b6,bI,aC,bX,dR,I.only,I.cI,aj.only,bu]
   all_goals rfl
 ·have hij:i=j:=by omega
  subst hij;have hc:=fM hlt;have hp:fu l a=i:=wL h2 h3 fun h=>h4 i h (zz2 _);have hh:=BK hs a;rw[hp];by_cases hil:i<l.length
  ·have hc2:=fr hil;have he:=fun A=>fg (A:=A) 8 hil rfl;have hz:=Kl l[i].bp a;have hhz:jy l a=decide (l[i].bp=a):=by
    rw[Bool.eq_iff_iff,hh,decide_eq_true_eq];constructor
    ·rintro ⟨_,e⟩;simp only[hp] at e;exact e
    ·intro e;exact ⟨by omega,by simp only[hp];exact e⟩
   have f139:=xZ l[i] a;rw[hhz];clear hhz h3 h4;generalize l[i]=r at *;have R:=y6 @hc (y6 @hc2 (y6 @he (y6 @hz (y6 @kz aF))))
   repeat' ((first |(with_reducible refine .guard (fun hb =>?_) (fun hb =>?_) <;>try simp only[hb])|refine U.aJ (by decide +kernel) rfl fun K hK =>?_|refine .flat _ (f139) rfl ?_|(refine .aG [0,1,2,4,6,7,8,9,10,11,17,31] hK ?_;clear hK K)|(with_reducible refine .done (hK _ ?_);clear hK K)|refine U.of rfl ?_|(with_reducible refine az.aI (fun h =>?_) (fun h =>?_) <;>try simp only[h])) <;>try simp only[aK,R,zz8,simprocAttr])
   all_goals clear R
   all_goals rfl
  ·have hc2:=fM hil;have hhz:jy l a=false:=by
    cases q:jy l a
    ·rfl
    ·obtain ⟨h,_⟩:=hh.1 q;omega
   rw[hhz];have R:=y6 @hc (y6 @hc2 aF)
   repeat' ((first |(with_reducible refine .guard (fun hb =>?_) (fun hb =>?_) <;>try simp only[hb])|refine U.aJ (by decide +kernel) rfl fun K hK =>?_|(refine .aG [0,1,2,4,6,7,8,9,10,11,17,31] hK ?_;clear hK K)|(with_reducible refine .done (hK _ ?_);clear hK K)|refine U.of rfl ?_|(with_reducible refine az.aI (fun h =>?_) (fun h =>?_) <;>try simp only[h])) <;>try simp only[aK,R,simprocAttr])
   all_goals clear R
   all_goals rfl
theorem Gy(l:List ai)(a:Item)(hs:mM l)(hl:l.length≤1000):aS Tryz.prog 94 [enc (⟨l⟩:jb),enc a] (.tuple [enc (fu l a:Int),enc (jy l a)]):=by
 have hF:=Gb l a hs hl;refine aS.bS Tryz.func94 I2 J6 Lm (t8 rfl) (fun hwf W0 bL E1 =>?_);simp only[zU,Ej,bH,zz5];clear hwf;have R:=aF
 repeat' ((first |refine U.aJ (by decide +kernel) rfl fun K hK =>?_|refine .lead _ (hF) ?_|(refine .aG [0,1,2,3,4,5] hK ?_;clear hK K)|(with_reducible refine .done (hK _ ?_);clear hK K)|refine U.of rfl ?_|(with_reducible refine az.aI (fun h =>?_) (fun h =>?_) <;>try simp only[h])) <;>try simp only[aK,R,simprocAttr])
 all_goals clear R
 all_goals rfl
def lD(x:ai):List ai→Nat→Int
 | [],_=>-1
 |r::l,i=>if x=r then (i:Int) else lD x l (i+1)
theorem BQ(x:ai):∀ (l:List ai) (i:Nat),decide (lD x l i≥0)=decide (x∈l)
 | [],i=>by simp[lD]
 |r::l,i=>by
  rw[lD];by_cases h:x=r
  ·rw[if_pos h];subst h;simp
  ·rw[if_neg h,BQ x l (i+1)];simp[h]
theorem Gh(l:List ai)(x:ai)(hl:l.length≤4000000000000):aS Tryz.prog 159 [enc l,enc x] (enc (lD x l 0)):=by
 refine aS.bS Tryz.func159 Io Jv KK (t8 rfl) (fun hwf W0 bL E1 =>?_);simp only[zm,DC,bH,zz5];clear hwf;have R:=aF
 repeat' ((first |refine U.aJ (by decide +kernel) rfl fun K hK =>?_|(refine .aG [0,1,3,4,5,7,8,9,16] hK ?_;clear hK K)|(with_reducible refine .done (hK _ ?_);clear hK K)|refine U.of rfl ?_|(with_reducible refine az.aI (fun h =>?_) (fun h =>?_) <;>try simp only[h])) <;>try simp only[aK,R,simprocAttr])
 all_goals clear R
 refine U.loop (fun i:Nat=>aw [(0,enc l),(3,.ptr 3 []),(7,.int .i64 l.length),(8,.int .i64 i)] [(3,.box (enc x))]) (fun i=>i≤l.length∧lD x l 0=lD x (l.drop i) i) (fun i=>l.length-i) 0 ⟨zv0 _,by simp⟩ ?_ ?_
 ·refine bx.cQ ?_ ?_ ?_ ?_ <;>simp[bV,b7,b6,bI,aC,bX,dR,I.only,aj.only,bu]
  all_goals rfl
 rintro i ⟨hi,heq⟩;rw[heq];by_cases hlt:i<l.length
 ·have hlc:=fr hlt;have he:=fun A=>fg (A:=A) 8 hlt rfl;have hw:=eU (i:=i) (by omega);have hd:=List.drop_eq_getElem_cons hlt;rw[hd,lD] at heq ⊢;generalize l[i]=r at *;by_cases q:x=r
  ·rw[if_pos q];have q1:decide (x=r)=true:=decide_eq_true q;have R:=y6 @hlc (y6 @he (y6 @hw (y6 @q1 aF)))
   repeat' ((first |refine U.aJ (by decide +kernel) rfl fun K hK =>?_|(refine .aG [0,1,3,4,5,7,8,9,16] hK ?_;clear hK K)|(with_reducible refine .done (hK _ ?_);clear hK K)|refine U.of rfl ?_|(with_reducible refine az.aI (fun h =>?_) (fun h =>?_) <;>try simp only[h])) <;>try simp only[aK,R,simprocAttr])
   all_goals clear R
   all_goals rfl
  ·rw[if_neg q] at heq ⊢;have q1:decide (x=r)=false:=decide_eq_false q;have R:=y6 @hlc (y6 @he (y6 @hw (y6 @q1 aF)))
   repeat' ((first |refine U.aJ (by decide +kernel) rfl fun K hK =>?_|(refine .aG [0,1,3,4,5,7,8,9,16] hK ?_;clear hK K)|(with_reducible refine .done (hK _ ?_);clear hK K)|refine U.of rfl ?_|(with_reducible refine az.aI (fun h =>?_) (fun h =>?_) <;>try simp only[h])) <;>try simp only[aK,R,simprocAttr])
   all_goals clear R
   refine ⟨i+1,⟨by omega,rfl⟩,by omega,?_⟩;clear hd heq;refine bx.cQ ?_ ?_ ?_ ?_ <;>simp[bV,b7,b6,bI,aC,bX,dR,I.only,aj.only,bu]
   all_goals rfl
 ·have hlc:=fM hlt;rw[List.drop_eq_nil_of_le (by omega),lD];have R:=y6 @hlc aF
  repeat' ((first |refine U.aJ (by decide +kernel) rfl fun K hK =>?_|(refine .aG [0,1,3,4,5,7,8,9,16] hK ?_;clear hK K)|(with_reducible refine .done (hK _ ?_);clear hK K)|refine U.of rfl ?_|(with_reducible refine az.aI (fun h =>?_) (fun h =>?_) <;>try simp only[h])) <;>try simp only[aK,R,simprocAttr])
  all_goals clear R
  all_goals rfl
theorem F9(l:List ai)(x:ai)(hl:l.length≤4000000000000):aS Tryz.prog 136 [enc l,enc x] (enc (decide (x∈l))):=by
 refine aS.bS Tryz.func136 Ib Jn KC (t8 rfl) (fun hwf W0 bL E1 =>?_);simp only[ze,Dt,bH,zz5];clear hwf;have f:=Gh l x hl;have h:=BQ x l 0;have R:=y6 @h aF
 repeat' ((first |refine U.aJ (by decide +kernel) rfl fun K hK =>?_|refine .flat _ (f) rfl ?_|(refine .aG [0,1,3,4] hK ?_;clear hK K)|(with_reducible refine .done (hK _ ?_);clear hK K)|refine U.of rfl ?_|(with_reducible refine az.aI (fun h =>?_) (fun h =>?_) <;>try simp only[h])) <;>try simp only[aK,R,simprocAttr])
 all_goals clear R
 all_goals rfl
def gQ(l:List ai):Item:=match l.getLast? with
 |none=>⟨-1,0⟩
 |some a=>a.bp
theorem Zx(l:List ai)(r:ai):iL l r=(decide (r.bp=⟨(gQ l).aO,(gQ l).no+1⟩)||(!decide (r.aO≤(gQ l).aO) && !(r.no != 0))):=by
 have e:∀ p:Item,decide ((r.aO=p.aO∧r.no=p.no+1)∨(p.aO<r.aO∧r.no=0))=(decide (r.bp=⟨p.aO,p.no+1⟩)||(!decide (r.aO≤p.aO) && !(r.no != 0))):=fun p=>by
  rw[Bool.eq_iff_iff];simp[ai.bp]
 rcases h:l.getLast? with _ | a
 ·have h1:iL l r=decide ((r.aO=-1∧r.no=1)∨(-1<r.aO∧r.no=0)):=by rw[iL,h]
  have h2:gQ l=⟨-1,0⟩:=by rw[gQ,h]
  rw[h1,h2];exact e ⟨-1,0⟩
 ·have h1:iL l r=decide ((r.aO=a.aO∧r.no=a.no+1)∨(a.aO<r.aO∧r.no=0)):=by rw[iL,h]
  have h2:gQ l=a.bp:=by rw[gQ,h]
  rw[h1,h2];exact e a.bp
def kp(l:List ai):Bool:=e9 (fun out r=>bh r&&iL out r) [] l&&decide (l.length≤60)
theorem GU{aV:List ai→ai→Bool}{l:List ai}{i:Nat}(h:i<l.length):e9 aV (l.take i) (l.drop i)=(aV (l.take i) l[i]&&e9 aV (l.take (i+1)) (l.drop (i+1))):=by
 rw[List.drop_eq_getElem_cons h,e9,←ja h]
theorem AJ:I.agg [enc (⟨0,0⟩:Item),.int .i64 0,.int .i64 0,.int .i64 0,enc (⟨0,0⟩:Item),.ak ⟨#[]⟩]=enc (default:ai):=rfl
theorem Fy:(∀ A n b rest (q r:Item),eb A (some 2) n [] b (enc q) rest (some (enc r))=al rest (A.aQ n (.box (enc q))))∧eT [.int .i64 0,.int .i64 0] [(0,.int .i64 (-1))]=some [.int .i64 (-1),.int .i64 0]∧I.agg [.int .i64 (-1),.int .i64 0]=enc (⟨-1,0⟩:Item) ∧
  (∀ (x:Item),(I.agg [.int .i64 x.aO,.int .i64 (x.no+1)])=enc (⟨x.aO,x.no+1⟩:Item)) :=
 ⟨fun A n b rest q r=>by rw[eP (eQ _) (by rw[gy];rfl) ((ed _).trans (ed _).symm),fx],rfl,rfl,fun _=>rfl⟩
theorem X7{l:List ai}{i:Nat}(h:i<l.length):gQ (l.take (i+1))=l[i].bp:=by
 rw[gQ,ja h,List.getLast?_concat]
theorem X8{l:List ai}(h:∀ r∈l,bh r=true):-1≤(gQ l).aO∧(gQ l).aO≤5∧0≤(gQ l).no∧(gQ l).no≤9999:=by
 rw[gQ];cases e:l.getLast? with
 |none=>simp
 |some a =>
  have:=ni (nj (h a (List.mem_of_getLast? e)));simp only[ai.bp];omega
theorem Gx(l:List ai)(hl:l.length≤4000000000000):aS Tryz.prog 92 [enc (⟨l⟩:jb)] (enc (kp l)):=by
 refine aS.bS Tryz.func92 I1 J5 Ll (t8 rfl) (fun hwf W0 bL E1 =>?_);simp only[zT,Ei,bH];clear hwf;have R:=aF
 repeat' ((first |(with_reducible refine .guard (fun hb =>?_) (fun hb =>?_) <;>try simp only[hb])|refine U.aJ (by decide +kernel) rfl fun K hK =>?_|(refine .aG [0,1,2,3,4,5,7,8,9,10,16,19,49] hK ?_;clear hK K)|(with_reducible refine .done (hK _ ?_);clear hK K)|refine U.of rfl ?_|(with_reducible refine az.aI (fun h =>?_) (fun h =>?_) <;>try simp only[h])) <;>try simp only[aK,R,simprocAttr])
 all_goals clear R
 refine U.loop (fun i:Nat=>aw [(1,.ptr 1 []),(7,enc l),(8,.int .i64 l.length),(9,.int .i64 i)] [(1,.box (enc (⟨l⟩:jb)))]) (fun i=>i≤l.length∧(∀ r∈l.take i,bh r=true)∧kp l=(e9 (fun out r=>bh r&&iL out r) (l.take i) (l.drop i)&&decide (l.length≤60))) (fun i=>l.length-i) 0 ⟨zv0 _,by simp,rfl⟩ ?_ ?_
 ·refine bx.cQ ?_ ?_ ?_ ?_ <;>simp[bV,b7,b6,bI,aC,bX,dR,I.only,aj.only,bu]
  all_goals rfl
 rintro i ⟨hi,hk,heq⟩;rw[heq];by_cases hlt:i<l.length
 ·have hlc:=fr hlt;have he:=fun A=>fg (A:=A) 8 hlt rfl;have hw:=eU (i:=i) (by omega);have hnx:=CL hlt hk;have hpi:=X8 hk;have hst:=Zx (l.take i) l[i];rw[GU hlt] at heq ⊢;have hpz:i=0→gQ (l.take i)=⟨-1,0⟩:=fun e=>by subst e;rfl
  have hps:∀ h:0<i,gQ (l.take i)=(l[i-1]'(by omega)).bp:=fun h=>by
   have:=X7 (l:=l) (i:=i-1) (by omega)
   rwa [show i-1+1=i by omega] at this
  generalize l[i]=r at *;have f80:=pE r;cases q1:bh r
  ·rw[q1] at f80;have R:=y6 @hlc (y6 @he (y6 @hw (y6 @ff (y6 @fj aF))))
   repeat' ((first |(with_reducible refine .guard (fun hb =>?_) (fun hb =>?_) <;>try simp only[hb])|refine U.aJ (by decide +kernel) rfl fun K hK =>?_|refine .flat _ (f80) rfl ?_|(refine .aG [0,1,2,3,4,5,7,8,9,10,16,19,49] hK ?_;clear hK K)|(with_reducible refine .done (hK _ ?_);clear hK K)|refine U.of rfl ?_|(with_reducible refine az.aI (fun h =>?_) (fun h =>?_) <;>try simp only[h])) <;>try simp only[aK,R,simprocAttr])
   all_goals clear R
   all_goals rfl
  rw[q1] at f80;generalize gQ (l.take i)=p at *;have hww:IntKind.i64.wrap (p.no+1)=p.no+1:=dX _ (by omega) (by omega);rw[hst] at heq ⊢;by_cases hz:0<i
  ·have hgt:decide ((i:Int)>0)=true:=decide_eq_true (by omega);have hpe:=fun A=>fg (A:=A) (l:=l) (k:=i-1) 8 (by omega) rfl;have hw1:IntKind.i64.wrap ((i:Int)-1)=((i-1:Nat):Int):=by rw[dX _ (by omega) (by omega)];omega
   have hpm:=(hps hz).symm;clear hps hpz hst;generalize l[i-1]=q at *;cases c1:decide (r.bp=⟨p.aO,p.no+1⟩) <;>cases c2:decide (r.aO≤p.aO) <;>cases c3:(r.no != 0)
   all_goals
    rw[c1,c2,c3] at heq;have R:=y6 @hlc (y6 @he (y6 @hw (y6 @hgt (y6 @hpm (y6 @hpe (y6 @hw1 (y6 @hww (y6 @c1 (y6 @c2 (y6 @c3 (y6 @AJ (y6 @ff (y6 @pY (y6 @fj (y6 @Fy (y6 @og aF))))))))))))))))
    repeat' ((first |(with_reducible refine .guard (fun hb =>?_) (fun hb =>?_) <;>try simp only[hb])|refine U.aJ (by decide +kernel) rfl fun K hK =>?_|refine .flat _ (f80) rfl ?_|(refine .aG [0,1,2,3,4,5,7,8,9,10,16,19,49] hK ?_;clear hK K)|(with_reducible refine .done (hK _ ?_);clear hK K)|refine U.of rfl ?_|(with_reducible refine az.aI (fun h =>?_) (fun h =>?_) <;>try simp only[h])) <;>try simp only[aK,R,simprocAttr])
    all_goals clear R
    all_goals first
     |rfl
     |(refine ⟨i+1,⟨by omega,hnx q1,by rfl⟩,by omega,?_⟩;clear heq hnx;(refine bx.cQ ?_ ?_ ?_ ?_ <;>simp[bV,b7,b6,bI,aC,bX,dR,I.only,aj.only,bu]);all_goals rfl)
  ·have hgt:decide ((i:Int)>0)=false:=decide_eq_false (by omega);have hpm:=(hpz (by omega)).symm;clear hps hpz hst;cases c1:decide (r.bp=⟨p.aO,p.no+1⟩) <;>cases c2:decide (r.aO≤p.aO) <;>cases c3:(r.no != 0)
   all_goals
    rw[c1,c2,c3] at heq;have R:=y6 @hlc (y6 @he (y6 @hw (y6 @hgt (y6 @hpm (y6 @hww (y6 @c1 (y6 @c2 (y6 @c3 (y6 @AJ (y6 @ff (y6 @pY (y6 @fj (y6 @Fy (y6 @og aF))))))))))))))
    repeat' ((first |(with_reducible refine .guard (fun hb =>?_) (fun hb =>?_) <;>try simp only[hb])|refine U.aJ (by decide +kernel) rfl fun K hK =>?_|refine .flat _ (f80) rfl ?_|(refine .aG [0,1,2,3,4,5,7,8,9,10,16,19,49] hK ?_;clear hK K)|(with_reducible refine .done (hK _ ?_);clear hK K)|refine U.of rfl ?_|(with_reducible refine az.aI (fun h =>?_) (fun h =>?_) <;>try simp only[h])) <;>try simp only[aK,R,simprocAttr])
    all_goals clear R
    all_goals first
     |rfl
     |(refine ⟨i+1,⟨by omega,hnx q1,by rfl⟩,by omega,?_⟩;clear heq hnx;(refine bx.cQ ?_ ?_ ?_ ?_ <;>simp[bV,b7,b6,bI,aC,bX,dR,I.only,aj.only,bu]);all_goals rfl)
 ·have hlc:=fM hlt;rw[List.drop_eq_nil_of_le (by omega),e9];have hle:decide ((l.length:Int)≤60)=decide (l.length≤60):=by rw[decide_eq_decide];omega
  have R:=y6 @hlc (y6 @hle aF)
  repeat' ((first |(with_reducible refine .guard (fun hb =>?_) (fun hb =>?_) <;>try simp only[hb])|refine U.aJ (by decide +kernel) rfl fun K hK =>?_|(refine .aG [0,1,2,3,4,5,7,8,9,10,16,19,49] hK ?_;clear hK K)|(with_reducible refine .done (hK _ ?_);clear hK K)|refine U.of rfl ?_|(with_reducible refine az.aI (fun h =>?_) (fun h =>?_) <;>try simp only[h])) <;>try simp only[aK,R,simprocAttr])
  all_goals clear R
  all_goals rfl
theorem xF(l:List ai)(m:Nat):(l++List.replicate m cB).take l.length=l:=List.take_left
theorem uh(l:List ai)(hl:l.length≤1000):aS Tryz.prog 93 [enc l] (enc l):=by
 refine aS.bS Tryz.func93 z8 Af Aq (t8 rfl) (fun hwf W0 bL E1 =>?_);simp only[uL,wQ,bH];refine .dV (by decide +kernel) fun K hK =>?_;simp only[vB,bd,simprocAttr];refine .done (hK _ ?_);clear hK K;refine U.seq (U.seq ?_);by_cases hn:l=[]
 ·subst hn;refine .iC (by decide +kernel) fun K hK =>?_;simp only[qd,bd,simprocAttr];simp only[tU,List.isEmpty_nil,oT];refine .any rfl fun b _ =>?_
  try simp only[bd,simprocAttr]
  generalize (b==0)=t;cases t
  ·refine .done (hK _ ?_);clear hK K;try simp only[cT]
   refine U.hJ ?_;simp only[az,bd,simprocAttr];refine ⟨fun h =>?_,fun h =>?_⟩
   ·cases h
   refine U.skip ?_;try simp only[cT,simprocAttr]
   refine .dV (by decide +kernel) fun K hK =>?_;simp only[qe,bd,simprocAttr]
   try simp only[gV,ly,bd,simprocAttr]
   refine .done (hK _ ?_);clear hK K;refine U.ret ?_;simp only[bd,simprocAttr]
   all_goals rfl
  ·refine .done (hK _ ?_);clear hK K;refine U.hJ ?_;simp only[az,bd,simprocAttr];refine ⟨fun h =>?_,fun h =>?_⟩
   ·refine .dV (by decide +kernel) fun K hK =>?_;simp only[vC,bd,simprocAttr];refine .done (hK _ ?_);clear hK K;refine U.ret ?_;simp only[cT,bd,simprocAttr]
    all_goals rfl
   ·cases h
 ·have hu:jm (enc l)=false:=by rw[tU];simpa using hn
  refine .iC (by decide +kernel) fun K hK =>?_;simp only[qd,bd,simprocAttr]
  try simp only[hu,Cx _ l hn,bd,simprocAttr]
  refine .done (hK _ ?_);clear hK K;try simp only[cT]
  refine U.hJ ?_;simp only[az,bd,simprocAttr];refine ⟨fun h =>?_,fun h =>?_⟩
  ·cases h
  refine U.skip ?_;try simp only[cT,simprocAttr]
  refine .dV (by decide +kernel) fun K hK =>?_;simp only[qe,bd,simprocAttr]
  try simp only[gV,ly,bd,simprocAttr]
  refine aZ.uy cB rfl hn rfl (by omega) (by simp only[maxLen];omega) fun m =>?_
  try simp only[bd,simprocAttr]
  refine .done (hK _ ?_);clear hK K;refine U.ret ?_;simp only[bd,simprocAttr]
  try simp only[oA (α:=ai) (sz:=8) rfl,xF,bd,simprocAttr]
def BS(g:ai):b9:=fun r os'=>∃ q,r=.view 25 [] 8 0 1∧os'=eZ 25 [g] q
theorem Fe(A:ae):iJ A 8 (some (.int .i64 0)) none none (.c0 8)=some (.slice 8 [])∧iJ A 8 (some (.int .i64 0)) none none (.nils 8)=some (.slice 8 []):=by
 constructor <;>simp[iJ,il,gJ]
theorem FZ(x:I)(hx:x=.nils 8∨x=.c0 8)(g:ai):eW Tryz.prog 101 [x,enc (0:Int),enc [g]] [] (BS g):=by
 rcases hx with rfl | rfl
 ·refine eW.bS Tryz.func101 uN uP uW (t8 rfl) (t8 rfl) (fun m hm=>by simp[aC,aD] at hm) (fun hwf W0 bL E1 =>?_);simp only[rM,th,bH,zz5,Nat.reduceAdd];refine .dV (by decide +kernel) fun K hK =>?_;simp only[r5,bd];refine .done (hK _ ?_);clear hK K;refine .dV (by decide +kernel) fun K hK =>?_;simp only[r6,bd,Nat.reduceEqDiff,reduceIte]
  try simp only[zw0,(Fe _).2,bd]
  refine .done (hK _ ?_);clear hK K;refine .dV (by decide +kernel) fun K hK =>?_;simp only[r7,bd,Nat.reduceEqDiff,reduceIte]
  try simp only[typR,jn,j6,jg,bd,Nat.reduceEqDiff,reduceIte,Int.reduceBNe,Int.reduceBEq]
  refine .done (hK _ ?_);clear hK K;refine U.seq (U.seq ?_);refine .iC (by decide +kernel) fun K hK =>?_;simp only[r8,bd,Nat.reduceEqDiff,reduceIte]
  try simp only[typR,jn,j6,jg,bd,Nat.reduceEqDiff,reduceIte,Int.reduceBNe,Int.reduceBEq]
  refine .done (hK _ ?_);clear hK K;try simp only[cT]
  refine U.hJ ?_;simp only[az,bd,Nat.reduceEqDiff,reduceIte];refine ⟨fun h =>?_,fun h =>?_⟩
  ·first | cases h | simp at h
  refine U.skip ?_;try simp only[cT]
  refine .dV (by decide +kernel) fun K hK =>?_;simp only[r9,bd,Nat.reduceEqDiff,reduceIte]
  try simp only[typR,jn,j6,jg,bd,Nat.reduceEqDiff,reduceIte,Int.reduceBNe,Int.reduceBEq]
  refine .done (hK _ ?_);clear hK K;refine U.seq (U.seq ?_);refine .iC (by decide +kernel) fun K hK =>?_;simp only[sa,bd,Nat.reduceEqDiff,reduceIte,Int.reduceBEq]
  try simp only[typR,jn,j6,jg,bd,Nat.reduceEqDiff,reduceIte,Int.reduceBNe,Int.reduceBEq]
  refine .done (hK _ ?_);clear hK K;try simp only[cT]
  refine U.hJ ?_;simp only[az,bd,Nat.reduceEqDiff,reduceIte];refine ⟨fun h =>?_,fun h =>?_⟩
  case refine_2.refine_2=>first | cases h | simp at h
  refine .dV (by decide +kernel) fun K hK =>?_;simp only[qc,bd,Nat.reduceEqDiff,reduceIte]
  try simp only[ly]
  refine aZ.G5 (esz:=8) cB (l:=[g]) rfl (by simp) rfl (by simp) (by simp[maxLen]) fun q =>?_
  try simp only[bd,Nat.reduceEqDiff,reduceIte]
  refine .done (hK _ ?_);clear hK K;refine U.ret ?_;simp only[cT,kb];exact ⟨eZ 25 [g] q,[.view 25 [] 8 0 1],oF rfl (fun p=>fF p _),⟨⟨_,rfl,.inl ⟨rfl,rfl,rfl⟩⟩,trivial⟩,q,rfl,rfl⟩
 ·refine eW.bS Tryz.func101 uN uP uW (t8 rfl) (t8 rfl) (fun m hm=>by simp[aC,aD] at hm) (fun hwf W0 bL E1 =>?_);simp only[rM,th,bH,zz5,Nat.reduceAdd];refine .dV (by decide +kernel) fun K hK =>?_;simp only[r5,bd];refine .done (hK _ ?_);clear hK K;refine .dV (by decide +kernel) fun K hK =>?_;simp only[r6,bd,Nat.reduceEqDiff,reduceIte]
  try simp only[zw0,(Fe _).1,bd]
  refine .done (hK _ ?_);clear hK K;refine .dV (by decide +kernel) fun K hK =>?_;simp only[r7,bd,Nat.reduceEqDiff,reduceIte]
  try simp only[typR,jn,j6,jg,bd,Nat.reduceEqDiff,reduceIte,Int.reduceBNe,Int.reduceBEq]
  refine .done (hK _ ?_);clear hK K;refine U.seq (U.seq ?_);refine .iC (by decide +kernel) fun K hK =>?_;simp only[r8,bd,Nat.reduceEqDiff,reduceIte]
  try simp only[typR,jn,j6,jg,bd,Nat.reduceEqDiff,reduceIte,Int.reduceBNe,Int.reduceBEq]
  refine .done (hK _ ?_);clear hK K;try simp only[cT]
  refine U.hJ ?_;simp only[az,bd,Nat.reduceEqDiff,reduceIte];refine ⟨fun h =>?_,fun h =>?_⟩
  ·first | cases h | simp at h
  refine U.skip ?_;try simp only[cT]
  refine .dV (by decide +kernel) fun K hK =>?_;simp only[r9,bd,Nat.reduceEqDiff,reduceIte]
  try simp only[typR,jn,j6,jg,bd,Nat.reduceEqDiff,reduceIte,Int.reduceBNe,Int.reduceBEq]
  refine .done (hK _ ?_);clear hK K;refine U.seq (U.seq ?_);refine .iC (by decide +kernel) fun K hK =>?_;simp only[sa,bd,Nat.reduceEqDiff,reduceIte,Int.reduceBEq]
  try simp only[typR,jn,j6,jg,bd,Nat.reduceEqDiff,reduceIte,Int.reduceBNe,Int.reduceBEq]
  refine .done (hK _ ?_);clear hK K;try simp only[cT]
  refine U.hJ ?_;simp only[az,bd,Nat.reduceEqDiff,reduceIte];refine ⟨fun h =>?_,fun h =>?_⟩
  case refine_2.refine_2=>first | cases h | simp at h
  refine .dV (by decide +kernel) fun K hK =>?_;simp only[qc,bd,Nat.reduceEqDiff,reduceIte]
  try simp only[ly]
  refine aZ.uy (esz:=8) cB (l:=[g]) rfl (by simp) rfl (by simp) (by simp[maxLen]) fun q =>?_
  try simp only[bd,Nat.reduceEqDiff,reduceIte]
  refine .done (hK _ ?_);clear hK K;refine U.ret ?_;simp only[cT,kb];exact ⟨eZ 25 [g] q,[.view 25 [] 8 0 1],oF rfl (fun p=>fF p _),⟨⟨_,rfl,.inl ⟨rfl,rfl,rfl⟩⟩,trivial⟩,q,rfl,rfl⟩
theorem dL.mn{aE:Bool}{ρ:List (Nat×Nat)}{k:Nat}{x:aj}{os0:List (Nat×aj)}{r c:I}(h1:∀ p,c.only p=true)(h2:aE=true→c.de=true)(h3:r.only (aC [(k,.box c)])=true)(h4:aE=true→r.de=true):dL aE ρ [(k,x)] os0 r [(k,.box c)]:=by
 refine ⟨fun m x h =>?_,fun m m' h h' _ =>?_,fun m h =>?_,fun m h h' =>?_,h3,h4⟩
 ·simp only[aD] at h;split at h
  ·simp only[v6] at h;subst h;exact ⟨h1 _,rfl,h2⟩
  ·cases h
 ·rw[gh.1 h,gh.1 h']
 ·rw[gh.1 h];exact gh.2 rfl
 ·rw[gh.1 h] at h';have:aC [(k,x)] k=true:=gh.2 rfl;rw[this] at h';cases h'
theorem dL.py{aE:Bool}{ρ:List (Nat×Nat)}{k k' d d':Nat}{x:aj}{os0:List (Nat×aj)}{r c c':I}(hk:bo ρ k=d)(hk':bo ρ k'=d')(hd:d≠d')(hne:k≠k')(h1:∀ p,c.only p=true)(h2:aE=true→c.de=true)(h1':∀ p,c'.only p=true)(h2':aE=true→c'.de=true)
  (h3:r.only (aC [(k,.box c),(k',.box c')])=true) (h4:aE=true→r.de=true) (h5:aD os0 d=none) (h6:d<1000000):dL aE ρ [(k',x)] os0 r [(k,.box c),(k',.box c')]:=by
 have py:∀ m,aC [(k,aj.box c),(k',aj.box c')] m=true→m=k∨m=k':=fun m h=>by
  simp only[aC,aD] at h;split at h
  ·rename_i e;exact .inl e
  ·split at h
   ·rename_i e;exact .inr e
   ·cases h
 refine ⟨fun m y h =>?_,fun m m' h h' e =>?_,fun m h =>?_,fun m h h' =>?_,h3,h4⟩
 ·simp only[aD] at h;split at h
  ·simp only[v6] at h;subst h;exact ⟨h1 _,rfl,h2⟩
  ·split at h
   ·simp only[v6] at h;subst h;exact ⟨h1' _,rfl,h2'⟩
   ·cases h
 ·rcases py m h with rfl | rfl <;>rcases py m' h' with rfl | rfl
  ·rfl
  ·rw[hk,hk'] at e;exact absurd e hd
  ·rw[hk,hk'] at e;exact absurd e.symm hd
  ·rfl
 ·rw[gh.1 h];simp[aC,aD,Ne.symm hne]
 ·rcases py m h with rfl | rfl
  ·rw[hk];exact ⟨h5,h6⟩
  ·have:aC [(m,x)] m=true:=gh.2 rfl;rw[this] at h';cases h'
def iM(l:List ai)(r:ai):List ai×Int :=
 if kp l=false then ([],81) else if bh r=false then ([],80)
 else if jy l r.bp=true then (if l.getD (fu l r.bp) default=r then (l,0) else ([],82))
 else if (cG l r.aO:Int)<r.no then ([],83) else if l.length=60 then ([],2) else (fN l (fu l r.bp) r,0)
theorem pK{aV:List ai→ai→Bool} : ∀ {l out:List ai},e9 (fun out r=>bh r&&aV out r) out l=true↔(∀ r∈l,bh r=true)∧e9 aV out l=true
 | [],_=>by simp[e9]
 |r::l,out=>by
  simp only[e9,Z7,pK (l:=l),zy8,forall_eq_or_imp];constructor
  ·rintro ⟨⟨h1,h2⟩,h3,h4⟩;exact ⟨⟨h1,h3⟩,h2,h4⟩
  ·rintro ⟨⟨h1,h3⟩,h2,h4⟩;exact ⟨⟨h1,h2⟩,h3,h4⟩
structure GB (l:List ai):Prop where
 ok:∀ r∈l,bh r=true
 Fw:mM l
 len:l.length≤60
 step:e9 iL [] l=true
theorem wB{r:ai}(h:bh r=true):0≤r.aO∧0≤r.no:=by have:=ni (nj h);omega
theorem HM{l:List ai}(h:kp l=true):GB l:=by
 simp only[kp,Z7,decide_eq_true_eq] at h;obtain ⟨h1,h2⟩:=h;obtain ⟨h3,h4⟩:=pK.1 h1;refine ⟨h3,?_,h2,h4⟩;have:=yT l [] trivial (fun r hr=>wB (h3 r hr)) h4 List.Pairwise.nil;simpa using this
theorem im:(∀ A n b rest,eb A (some 1) n [] b (.agg [.nils 8]) rest (some (.agg [.nils 8]))=al rest (A.aQ n (.box (.agg [.nils 8])))) ∧
  (∀ A n b rest m p lo k,eb A (some 1) n [] b (.agg [.view m p 8 lo k]) rest (some (.agg [.nils 8]))=al rest (A.aQ n (.box (.agg [.view m p 8 lo k])))) ∧
  (∀ A n b rest (l:List ai),eb A (some 1) n [] b (.agg [enc l]) rest (some (.agg [.nils 8]))=al rest (A.aQ n (.box (.agg [enc l])))) ∧
  (∀ l:List ai,eT [.nils 8] [(0,enc l)]=some [enc l])∧(∀ m p lo k,eT [.nils 8] [(0,.view m p 8 lo k)]=some [.view m p 8 lo k])∧(∀ l:List ai,bN (some 1) (.agg [enc l])=true)∧bN (some 1) (.agg [.nils 8])=true∧(∀ m p lo k,bN (some 1) (.agg [.view m p 8 lo k])=true) :=
 ⟨fun A n b rest=>by rw[eP (s:=some 1) (v:=.agg [.nils 8]) (old:=.agg [.nils 8]) rfl rfl rfl,fx],fun A n b rest m p lo k=>by rw[eP (s:=some 1) (v:=.agg [.view m p 8 lo k]) (old:=.agg [.nils 8]) rfl rfl rfl,fx],
  fun A n b rest l=>by rw[eP (s:=some 1) (v:=.agg [enc l]) (old:=.agg [.nils 8]) rfl rfl rfl,fx],fun _=>rfl,fun _ _ _ _=>rfl,fun _=>rfl,rfl,fun _ _ _ _=>rfl⟩
theorem Gp(l:List ai)(r:ai)(hl:l.length≤4000000000000):aS Tryz.prog 44 [enc (⟨l⟩:jb),enc r] (.tuple [enc (⟨(iM l r).1⟩:jb),enc (iM l r).2]):=by
 refine aS.bS Tryz.func44 IG JN K2 (t8 rfl) (fun hwf W0 bL E1 =>?_);simp only[zE,DV,bH,zz5];clear hwf;have f92:=Gx l hl;simp only[iM];cases q1:kp l
 ·rw[q1] at f92;simp only[if_true];have R:=y6 @im aF
  repeat' ((first |(with_reducible refine .guard (fun hb =>?_) (fun hb =>?_) <;>try simp only[hb])|refine U.aJ (by decide +kernel) rfl fun K hK =>?_|refine .flat _ (f92) rfl ?_|(refine .aG [0,1,2,3,4,5,6,7,8,13,25,40,43,56] hK ?_;clear hK K)|(with_reducible refine .done (hK _ ?_);clear hK K)|refine U.of rfl ?_|(with_reducible refine az.aI (fun h =>?_) (fun h =>?_) <;>try simp only[h])) <;>try simp only[aK,R,simprocAttr])
  all_goals clear R
  all_goals rfl
 rw[q1] at f92;have hb:=HM q1;have f80:=pE r;simp only[Bool.true_eq_false,if_false];cases q2:bh r
 ·rw[q2] at f80;simp only[if_true];have R:=y6 @im aF
  repeat' ((first |(with_reducible refine .guard (fun hb =>?_) (fun hb =>?_) <;>try simp only[hb])|refine U.aJ (by decide +kernel) rfl fun K hK =>?_|refine .flat _ (f92) rfl ?_|refine .flat _ (f80) rfl ?_|(refine .aG [0,1,2,3,4,5,6,7,8,13,25,40,43,56] hK ?_;clear hK K)|(with_reducible refine .done (hK _ ?_);clear hK K)|refine U.of rfl ?_|(with_reducible refine az.aI (fun h =>?_) (fun h =>?_) <;>try simp only[h])) <;>try simp only[aK,R,simprocAttr])
  all_goals clear R
  all_goals rfl
 rw[q2] at f80;simp only[Bool.true_eq_false,if_false];have hlen:=hb.len;have f94:=Gy l r.bp hb.Fw (by omega);have hpl:=X4 l r.bp;have hcl:=uh l (by omega);cases q3:jy l r.bp
 rotate_left
 ·rw[q3] at f94;obtain ⟨hp,hat⟩:=(BK hb.Fw r.bp).1 q3;simp only[if_true];have hg:l.getD (fu l r.bp) default=l[fu l r.bp]:=by simp[zy9,hp]
  rw[hg];have he:=fun A=>fg (A:=A) 8 hp rfl;generalize l[fu l r.bp]=x at *;generalize fu l r.bp=p at *;by_cases q4:x=r
  ·have q4':decide (x=r)=true:=decide_eq_true q4;rw[if_pos q4];have R:=y6 @he (y6 @q4' (y6 @im aF))
   repeat' ((first |(with_reducible refine .guard (fun hb =>?_) (fun hb =>?_) <;>try simp only[hb])|refine U.aJ (by decide +kernel) rfl fun K hK =>?_|refine .flat _ (f92) rfl ?_|refine .flat _ (f80) rfl ?_|refine .lead _ (f94) ?_|refine .lead _ (hcl) ?_|(refine .aG [0,1,2,3,4,5,6,7,8,13,25,40,43,56] hK ?_;clear hK K)|(with_reducible refine .done (hK _ ?_);clear hK K)|refine U.of rfl ?_|(with_reducible refine az.aI (fun h =>?_) (fun h =>?_) <;>try simp only[h])) <;>try simp only[aK,R,simprocAttr])
   all_goals clear R
   all_goals rfl
  ·have q4':decide (x=r)=false:=decide_eq_false q4;rw[if_neg q4];have R:=y6 @he (y6 @q4' (y6 @im aF))
   repeat' ((first |(with_reducible refine .guard (fun hb =>?_) (fun hb =>?_) <;>try simp only[hb])|refine U.aJ (by decide +kernel) rfl fun K hK =>?_|refine .flat _ (f92) rfl ?_|refine .flat _ (f80) rfl ?_|refine .lead _ (f94) ?_|refine .lead _ (hcl) ?_|(refine .aG [0,1,2,3,4,5,6,7,8,13,25,40,43,56] hK ?_;clear hK K)|(with_reducible refine .done (hK _ ?_);clear hK K)|refine U.of rfl ?_|(with_reducible refine az.aI (fun h =>?_) (fun h =>?_) <;>try simp only[h])) <;>try simp only[aK,R,simprocAttr])
   all_goals clear R
   all_goals rfl
 rw[q3] at f94;simp only[zz3,if_false];have hin:me l:=fun x hx=>oY (hb.ok x hx);have f100:=xT l hl hin;have hix:=vP l (oY q2);by_cases q5:(cG l r.aO:Int)<r.no
 ·have q5':decide ((cG l r.aO:Int)<r.no)=true:=decide_eq_true q5;rw[if_pos q5];have R:=y6 @hix (y6 @q5' (y6 @nL (y6 @im aF)))
  repeat' ((first |(with_reducible refine .guard (fun hb =>?_) (fun hb =>?_) <;>try simp only[hb])|refine U.aJ (by decide +kernel) rfl fun K hK =>?_|refine .flat _ (f92) rfl ?_|refine .flat _ (f80) rfl ?_|refine .lead _ (f94) ?_|refine .lead _ (f100) ?_|(refine .aG [0,1,2,3,4,5,6,7,8,13,25,40,43,56] hK ?_;clear hK K)|(with_reducible refine .done (hK _ ?_);clear hK K)|refine U.of rfl ?_|(with_reducible refine az.aI (fun h =>?_) (fun h =>?_) <;>try simp only[h])) <;>try simp only[aK,R,simprocAttr])
  all_goals clear R
  all_goals rfl
 have q5':decide ((cG l r.aO:Int)<r.no)=false:=decide_eq_false q5;rw[if_neg q5];by_cases q6:l.length=60
 ·have q6':((l.length:Int)==60)=true:=by rw[beq_iff_eq];omega
  rw[if_pos q6];have R:=y6 @hix (y6 @q5' (y6 @q6' (y6 @nL (y6 @im aF))))
  repeat' ((first |(with_reducible refine .guard (fun hb =>?_) (fun hb =>?_) <;>try simp only[hb])|refine U.aJ (by decide +kernel) rfl fun K hK =>?_|refine .flat _ (f92) rfl ?_|refine .flat _ (f80) rfl ?_|refine .lead _ (f94) ?_|refine .lead _ (f100) ?_|(refine .aG [0,1,2,3,4,5,6,7,8,13,25,40,43,56] hK ?_;clear hK K)|(with_reducible refine .done (hK _ ?_);clear hK K)|refine U.of rfl ?_|(with_reducible refine az.aI (fun h =>?_) (fun h =>?_) <;>try simp only[h])) <;>try simp only[aK,R,simprocAttr])
  all_goals clear R
  all_goals rfl
 have q6':((l.length:Int)==60)=false:=by rw[beq_eq_false_iff_ne];omega
 rw[if_neg q6];have hbs:gu 8 (some [enc r])=some (enc [r]):=oh 8 r rfl;have R:=y6 @hix (y6 @q5' (y6 @q6' (y6 @hbs (y6 @nL (y6 @im aF)))))
 repeat' ((first |(with_reducible refine .guard (fun hb =>?_) (fun hb =>?_) <;>try simp only[hb])|(refine U.lJ (gs:=vu) [101] [(2,[2]),(3,[3]),(4,[4]),(62,[2])] [0,1,3,4,5,2,6,7,8,9] (by decide +kernel) (dP.of (by simp[jz,bX,vZ,I.only])) fun K hK =>?_;simp only[j9,vu,List.getD_cons_zero,List.getD_cons_succ,R,simprocAttr])|refine U.aJ (by decide +kernel) rfl fun K hK =>?_|refine .flat _ (f92) rfl ?_|refine .flat _ (f80) rfl ?_|refine .lead _ (f94) ?_|refine .lead _ (f100) ?_|(refine .aG [0,1,2,3,4,5,6,7,8,13,25,40,43,56] hK ?_;clear hK K)|(with_reducible refine .done (hK _ ?_);clear hK K)|refine U.of rfl ?_|(with_reducible refine az.aI (fun h =>?_) (fun h =>?_) <;>try simp only[h])) <;>try simp only[aK,R,simprocAttr])
 all_goals clear R
 obtain ⟨av,hL⟩:∃ av,av=fN l (fu l r.bp) r:=⟨_,rfl⟩
 have hLn:l.length+1=av.length:=by rw[hL,VI r hpl]
 have hfin:∀ q,jU 8 0 (l.length+1) (some ((av++List.replicate q cB).map enc))=some (enc av):=fun q=>by
  rw[oA (α:=ai) (sz:=8) rfl,hLn,xF]
 refine .bD [(7,64)] [enc l] (pV l) (ug l (by omega)) eX.nil ⟨.inl ⟨(iQ _ _).symm,bu _ _,eQ _⟩,trivial⟩ ?_ ?_
 ·rintro x os' (⟨_,h | h,rfl⟩ | ⟨_,k,rfl,rfl⟩)
  ·subst h;exact dL.nil (fun _=>rfl) (fun h=>by cases h)
  ·subst h;exact dL.nil (fun _=>rfl) (fun h=>by cases h)
  ·exact dL.sV (fun p=>fF p _) (fun h=>by cases h) rfl (fun h=>by cases h) rfl (by decide)
 rintro x os' (⟨hn,h,rfl⟩ | ⟨hn,k,rfl,rfl⟩)
 ·have hren:x.aT (bo [(7,64)])=x∧x.cC=true∧∀ q,x.only q=true:=by rcases h with rfl | rfl <;>exact ⟨by simp only[I.aT],rfl,fun _=>rfl⟩
  have hren2:x.aT (bo [(25,68)])=x:=by rcases h with rfl | rfl <;>simp only[I.aT]
  have hpos:fu l r.bp=0:=by rw[hn];rfl
  rw[hren.1,hpos]
  try simp only[kP,zy3,aF,bd,simprocAttr]
  refine .bD [(25,68)] [x,enc (0:Int),enc [r]] (BS r) (FZ x h r) eX.nil ⟨.inl ⟨hren2.symm,hren.2.2 _,hren.2.1⟩,.inl ⟨rfl,rfl,rfl⟩,.inl ⟨(iQ _ _).symm,bu _ _,eQ _⟩,trivial⟩ ?_ ?_
  ·rintro x os' ⟨k,rfl,rfl⟩;exact dL.sV (fun p=>fF p _) (fun h=>by cases h) rfl (fun h=>by cases h) rfl (by decide)
  ·rintro x os' ⟨k,rfl,rfl⟩;have hLg:[r]=av:=by rw[hL,hpos,hn];rfl
   have hf1:=hfin k;rw[hn] at hf1;simp only[zw2,zz5] at hf1;rw[hLg]
   try simp only[eZ,kP,kQ,zz8,zy3,im,bd,simprocAttr]
   refine .done (hK _ ?_);clear hK K;refine U.ret ?_;simp only[bd,simprocAttr]
   try simp only[hf1,im,bd,simprocAttr]
   rw[←hL];rfl
 ·try simp only[eZ,kP,kQ,zz8,zy3,aF,bd,simprocAttr]
  refine .wu false [(1000000,64),(25,68),(40,69)] (eZ 1000000 l k) [.view 1000000 [] 8 0 l.length,enc (fu l r.bp:Int),enc [r]] (BT l (fu l r.bp) r k) rfl (FY l (fu l r.bp) r k hpl hn (by omega)) ⟨?_,?_⟩ ⟨.inl ⟨?_,?_,rfl⟩,.inl ⟨rfl,rfl,rfl⟩,.inl ⟨(iQ _ _).symm,bu _ _,eQ _⟩,trivial⟩ ?_ ?_
  ·intro n x h;simp only[eZ,aD] at h;split at h
   ·rename_i hn';subst hn';simp only[v6] at h;subst h;exact ⟨by simp only[kP,kQ,bd,simprocAttr],fF _ _,rfl⟩
   ·cases h
  ·intro a b ha hb _;rw[Go.Abs.gh.1 ha,Go.Abs.gh.1 hb]
  ·try simp only[kP,simprocAttr]
  ·exact Go.Abs.gh.2 rfl
  ·rintro x os' (⟨q,rfl,rfl⟩ | ⟨d,q,rfl | rfl,rfl,rfl⟩)
   ·exact dL.mn (fun p=>fF p _) (fun h=>by cases h) rfl (fun h=>by cases h)
   ·exact dL.py rfl rfl (by decide) (by decide) (fun p=>fF p _) (fun h=>by cases h) (fun p=>fF p _) (fun h=>by cases h) rfl (fun h=>by cases h) rfl (by decide)
   ·exact dL.py rfl rfl (by decide) (by decide) (fun p=>fF p _) (fun h=>by cases h) (fun p=>fF p _) (fun h=>by cases h) rfl (fun h=>by cases h) rfl (by decide)
  ·rintro x os' (⟨q,rfl,rfl⟩ | ⟨d,q,rfl | rfl,rfl,rfl⟩)
   all_goals
    rw[←hL];have hf1:=hfin q
    try simp only[eZ,kP,kQ,zz8,zy3,im,bd,simprocAttr]
    refine .done (hK _ ?_);clear hK K;refine U.ret ?_;simp only[bd,simprocAttr]
    try simp only[hf1,im,bd,simprocAttr]
    rw[←hL];rfl
end Go.Proofs.YtoffnnjbplgnaaaGreatDoor
namespace Go.Proofs.YtoffnnjbplgnaaaGreatDoor
open Go Go.Abs Go.Shelf Go.RowKit Go.Sort Go.Proofs
open Go.Abs.Enc (enc)
def Wc:Go.Shelf.Ren:=⟨fun | 122=>161 | 215=>175 | n=>n,fun | 3=>3 | 4=>4 | n=>n,fun | n=>n⟩
theorem Wb:Go.Proofs.Lays.n122 Tryz.prog Wc := {
 mixed:=by kernel_rfl
 f122:=Tryz.func161.trans (congrArg some (by kernel_rfl))
 f215:=Tryz.func175.trans (congrArg some (by kernel_rfl))
 t3:=Tryz.underlying3
 a3:=Tryz.isAgg3
 z3:=Tryz.sizeOf3
 v3:=Tryz.zeroValue3
 t4:=Tryz.underlying4
 a4:=Tryz.isAgg4
 z4:=Tryz.sizeOf4
 v4:=Tryz.zeroValue4 }
def vS:Go.Shelf.Ren:=⟨fun | 6=>141 | 15=>163 | 14=>162 | 28=>184 | 29=>185 | 20=>176 | 21=>177 | 22=>178 | 23=>179 | 24=>180 | 25=>181 | 26=>182 | 27=>183 | 46=>199 | 47=>200 | 48=>201 | 49=>202 | 50=>203 | 57=>213 | n=>n,fun | 22=>23 | 24=>50 | 25=>188 | 3=>3 | 39=>208 | 0=>0 | 53=>225 | 55=>227 | 4=>4 | 46=>219 | 45=>218 | 50=>144 | 5=>5 | 9=>9 | 66=>243 | 70=>247 | 76=>258 | 77=>259 | n=>n,fun | n=>n⟩
theorem Cb:Go.Proofs.SlLaysF0.n6 Tryz.prog vS := {
 mixed:=by kernel_rfl
 f6 := ⟨ "slices.SortFunc[[]pinfold/api.Record,pinfold/api.Record]", by decide, Tryz.func141.trans (congrArg some (by kernel_rfl))⟩
 f14 := ⟨ "slices.pdqsortCmpFunc[pinfold/api.Record]", by decide, Tryz.func162.trans (congrArg some (by kernel_rfl))⟩
 f15:=Tryz.func163.trans (congrArg some (by kernel_rfl))
 f20 := ⟨ "slices.insertionSortCmpFunc[pinfold/api.Record]", by decide, Tryz.func176.trans (congrArg some (by kernel_rfl))⟩
 f21 := ⟨ "slices.heapSortCmpFunc[pinfold/api.Record]", by decide, Tryz.func177.trans (congrArg some (by kernel_rfl))⟩
 f22 := ⟨ "slices.breakPatternsCmpFunc[pinfold/api.Record]", by decide, Tryz.func178.trans (congrArg some (by kernel_rfl))⟩
 f23 := ⟨ "slices.choosePivotCmpFunc[pinfold/api.Record]", by decide, Tryz.func179.trans (congrArg some (by kernel_rfl))⟩
 f24 := ⟨ "slices.reverseRangeCmpFunc[pinfold/api.Record]", by decide, Tryz.func180.trans (congrArg some (by kernel_rfl))⟩
 f25 := ⟨ "slices.partialInsertionSortCmpFunc[pinfold/api.Record]", by decide, Tryz.func181.trans (congrArg some (by kernel_rfl))⟩
 f26 := ⟨ "slices.partitionEqualCmpFunc[pinfold/api.Record]", by decide, Tryz.func182.trans (congrArg some (by kernel_rfl))⟩
 f27 := ⟨ "slices.partitionCmpFunc[pinfold/api.Record]", by decide, Tryz.func183.trans (congrArg some (by kernel_rfl))⟩
 f28:=Tryz.func184.trans (congrArg some (by kernel_rfl))
 f29:=Tryz.func185.trans (congrArg some (by kernel_rfl))
 f46 := ⟨ "slices.siftDownCmpFunc[pinfold/api.Record]", by decide, Tryz.func199.trans (congrArg some (by kernel_rfl))⟩
 f47:=Tryz.func200.trans (congrArg some (by kernel_rfl))
 f48:=Tryz.func201.trans (congrArg some (by kernel_rfl))
 f49 := ⟨ "slices.medianAdjacentCmpFunc[pinfold/api.Record]", by decide, Tryz.func202.trans (congrArg some (by kernel_rfl))⟩
 f50 := ⟨ "slices.medianCmpFunc[pinfold/api.Record]", by decide, Tryz.func203.trans (congrArg some (by kernel_rfl))⟩
 f57 := ⟨ "slices.order2CmpFunc[pinfold/api.Record]", by decide, Tryz.func213.trans (congrArg some (by kernel_rfl))⟩
 t0:=Tryz.underlying0
 a0:=Tryz.isAgg0
 z0:=Tryz.sizeOf0
 v0:=Tryz.zeroValue0
 t3:=Tryz.underlying3
 a3:=Tryz.isAgg3
 z3:=Tryz.sizeOf3
 v3:=Tryz.zeroValue3
 t4:=Tryz.underlying4
 a4:=Tryz.isAgg4
 z4:=Tryz.sizeOf4
 v4:=Tryz.zeroValue4
 t5:=Tryz.underlying5
 a5:=Tryz.isAgg5
 z5:=Tryz.sizeOf5
 v5:=Tryz.zeroValue5
 t9:=Tryz.underlying9
 a9:=Tryz.isAgg9
 z9:=Tryz.sizeOf9
 v9:=Tryz.zeroValue9
 t22:=Tryz.underlying23
 a22:=Tryz.isAgg23
 z22:=Tryz.sizeOf23
 v22:=Tryz.zeroValue23
 t25:=Tryz.underlying188
 a25:=Tryz.isAgg188
 z25:=Tryz.sizeOf188
 v25:=Tryz.zeroValue188
 t39:=Tryz.underlying208
 a39:=Tryz.isAgg208
 z39:=Tryz.sizeOf208
 v39:=Tryz.zeroValue208
 t45:=Tryz.underlying218
 a45:=Tryz.isAgg218
 z45:=Tryz.sizeOf218
 v45:=Tryz.zeroValue218
 t46:=Tryz.underlying219
 a46:=Tryz.isAgg219
 z46:=Tryz.sizeOf219
 v46:=Tryz.zeroValue219
 t50:=Tryz.underlying144
 a50:=Tryz.isAgg144
 z50:=Tryz.sizeOf144
 v50:=Tryz.zeroValue144
 t53:=Tryz.underlying225
 a53:=Tryz.isAgg225
 z53:=Tryz.sizeOf225
 v53:=Tryz.zeroValue225
 t55:=Tryz.underlying227
 a55:=Tryz.isAgg227
 z55:=Tryz.sizeOf227
 v55:=Tryz.zeroValue227
 t66:=Tryz.underlying243
 a66:=Tryz.isAgg243
 z66:=Tryz.sizeOf243
 v66:=Tryz.zeroValue243
 t70:=Tryz.underlying247
 a70:=Tryz.isAgg247
 z70:=Tryz.sizeOf247
 v70:=Tryz.zeroValue247
 t76:=Tryz.underlying258
 a76:=Tryz.isAgg258
 z76:=Tryz.sizeOf258
 v76:=Tryz.zeroValue258
 t77:=Tryz.underlying259
 a77:=Tryz.isAgg259
 z77:=Tryz.sizeOf259
 v77:=Tryz.zeroValue259 }
theorem Kk(a b:Int):Lib.compareInt a b=eL a b:=by
 unfold Lib.compareInt eL
 (repeat' split) <;>first | rfl | omega
theorem Kn(a b:Int)(W:World):Calls Tryz.prog 161 #[.int .i64 a,.int .i64 b] W fun e w'=>e=.returned (.int .i64 (eL a b))∧w'=W:=by
 have h:=Any.cmp_Compare_int Wb a b W;rw[Kk] at h;exact h
theorem XX(a b:Int)(W:World)(aB:Nat)(hb:W.heap[aB]?=some (.cells #[.int .i64 a,.int .i64 b] 3)):Calls Tryz.prog 160 #[.slice (some ⟨aB,0,none⟩) 2 2] W fun e w'=>e=.returned (.int .i64 (if a≠0 then a else b))∧w'=W:=by
 go_enter Tryz.func160,Tryz.ntmps160
 go_wp2
 go_loopw [8] (fun i wr=>∃ j:Nat,j≤2∧i=.int .i64 j∧wr=W∧(0<j→a=0)∧(1<j→b=0)) (fun i _=>2-(RowKit.intOf i).toNat)
 case atStart =>
  exact ⟨0,by omega,rfl,rfl,by omega,by omega⟩
 case round =>
  obtain ⟨j,hj,rfl,rfl,h0,h1⟩:=hrel;have c0:wr.cell? ⟨aB,0,none⟩=some (.int .i64 a):=by simp[World.cell?,hb]
  have c1:wr.cell? ⟨aB,1,none⟩=some (.int .i64 b):=by simp[World.cell?,hb]
  have hj3:j=0∨j=1∨j=2:=by omega
  rcases hj3 with rfl | rfl | rfl
  ·by_cases ha:a=0
   ·subst ha
    go_wp2
    refine ⟨⟨1,?_⟩,?_⟩ <;>simp[RowKit.intOf]
   ·go_wp2
    go_ret
    exact ⟨rfl,rfl⟩
  ·have ha:a=0:=h0 (by omega);by_cases hb0:b=0
   ·subst hb0
    go_wp2
    refine ⟨⟨2,?_⟩,?_⟩ <;>simp[RowKit.intOf,ha]
   ·go_wp2
    go_ret
    exact ⟨by first | rfl | simp[ha],rfl⟩
  ·have ha:a=0:=h0 (by omega);have hb0:b=0:=h1 (by omega)
   go_wp2
   go_ret
   exact ⟨by first | rfl | simp[ha,hb0],rfl⟩
theorem Gf:aS Tryz.prog 141 [enc ([]:List ai),.func 142 []] (.tuple []):=by
 refine ⟨by kernel_rfl,fun w D vs _ hD ab =>?_⟩;simp only[ao] at ab;obtain ⟨u,rest,cs',rfl,hp,hr',hv2⟩:=ab;obtain ⟨a,cap,h1,_⟩:=hr';have h2:cs'=[u]:=hp;rw[h1] at h2;obtain rfl:u=.slice a 0 cap:=by simpa using h2.symm
 obtain ⟨f,rest2,cs2,rfl,hp2,hr2,rfl⟩:=hv2;simp only[af] at hr2;obtain ⟨vs2,e2,e3⟩:=hr2;have h3:cs2=[f]:=hp2;rw[e2] at h3;simp only[ao] at e3;subst e3;obtain rfl:f=.func (.func 142) #[] #[]:=by
  have:=h3.symm;simp only[zy7,and_true] at this;rw[this];rfl
 refine (AnyF.slices_SortFunc_none (P:=Tryz.prog) (ρ:=vS) { Cb with } a cap (.func (.func 142) #[] #[]) w).mono ?_;rintro e w' ⟨rfl,rfl⟩;exact ⟨.tuple #[],D,rfl,⟨[],rfl,rfl⟩,⟨rfl,rfl,rfl,zz2 _,fun _ _=>rfl⟩,hD,fun _ _ h _=>h⟩
theorem yn:aS Tryz.prog 95 [enc ([]:List ai)] (enc (⟨[]⟩:jb)):=by
 refine aS.bS Tryz.func95 Aa Ag Ar (t8 rfl) (fun hwf W0 bL E1 =>?_);simp only[uM,wR,bH];clear hwf;have h1:=uh [] (by simp);have R:=y6 @im (y6 @kz aF)
 repeat' ((first |refine U.aJ (by decide +kernel) rfl fun K hK =>?_|refine .lead _ (h1) ?_|refine .flat _ (Gf) rfl ?_|(refine .aG [0,2,3] hK ?_;clear hK K)|(with_reducible refine .done (hK _ ?_);clear hK K)|refine U.of rfl ?_|(with_reducible refine az.aI (fun h =>?_) (fun h =>?_) <;>try simp only[h])) <;>try simp only[aK,R,simprocAttr])
 all_goals clear R
 all_goals rfl
end Go.Proofs.YtoffnnjbplgnaaaGreatDoor
namespace Go.Proofs.YtoffnnjbplgnaaaGreatDoor
open Go Go.Abs
open Go.Abs.Enc (enc)
theorem xR{l:List ai}(h:dC [] l=true):l.length≤60:=by
 have:=cY.len (by simp) ((nV l []).1 h);simpa using this
theorem tX{l:List ai}(h:dC [] l=true):∀ r∈l,bh r=true:=cY.ok ((nV l []).1 h)
def jX(r:cF)(l:List ai):Bool:=dC [] l&&decide (r.cd.all=bK 1 l)&&(List.range (l.length+1)).any fun i=>decide (r.copy.all=bK 1 (l.take i))
theorem GY{p:Nat→Bool}{n i:Nat}(hi:i<n)(h:∀ k,k<i→p k=false)(hp:p i=true):(List.range n).any p=true:=List.any_eq_true.2 ⟨i,by simpa using hi,hp⟩
theorem GX{p:Nat→Bool}{n:Nat}(h:∀ k,k<n→p k=false):(List.range n).any p=false:=by
 rw[List.any_eq_false];intro k hk;rw[h k (by simpa using hk)];decide
theorem ym(r:cF)(h:r.small)(l:List ai)(hl:l.length≤4000000000000):aS Tryz.prog 87 [enc r,enc l] (enc (jX r l)):=by
 refine aS.bS Tryz.func87 IY J2 Li (t8 rfl) (fun hwf W0 bL E1 =>?_);simp only[zQ,Ee,bH,zz5];clear hwf;have f98:=GA l (by omega);have f1:=pD r.cd h.1;have f2:=pD r.copy h.2;simp only[jX];cases q1:dC [] l
 ·rw[q1] at f98;have R:=y6 @br aF
  repeat' ((first |(with_reducible refine .guard (fun hb =>?_) (fun hb =>?_) <;>try simp only[hb])|refine U.aJ (by decide +kernel) rfl fun K hK =>?_|refine .flat _ (f98) rfl ?_|(refine .aG [0,1,2,4,5,16,19,20,21,30] hK ?_;clear hK K)|(with_reducible refine .done (hK _ ?_);clear hK K)|refine U.of rfl ?_|(with_reducible refine az.aI (fun h =>?_) (fun h =>?_) <;>try simp only[h])) <;>try simp only[aK,R,simprocAttr])
  all_goals clear R
  all_goals rfl
 rw[q1] at f98;have hok:=tX q1;have hln:=xR q1;have f135:=xY l (by omega) hok;have hpre:=fun i=>xY (l.take i) (by rw[zz4];omega) fun x hx=>hok x (zw5 hx);cases q2:decide (r.cd.all=bK 1 l)
 ·have R:=y6 @q2 (y6 @ik (y6 @br aF))
  repeat' ((first |(with_reducible refine .guard (fun hb =>?_) (fun hb =>?_) <;>try simp only[hb])|refine U.aJ (by decide +kernel) rfl fun K hK =>?_|refine .flat _ (f98) rfl ?_|refine .flat _ (f1) rfl ?_|refine .flat _ (f135) rfl ?_|(refine .aG [0,1,2,4,5,16,19,20,21,30] hK ?_;clear hK K)|(with_reducible refine .done (hK _ ?_);clear hK K)|refine U.of rfl ?_|(with_reducible refine az.aI (fun h =>?_) (fun h =>?_) <;>try simp only[h])) <;>try simp only[aK,R,simprocAttr])
  all_goals clear R
  all_goals rfl
 have hw0:=eU (i:=l.length) (by omega);have R:=y6 @q2 (y6 @hw0 (y6 @ik (y6 @br aF)))
 repeat' ((first |(with_reducible refine .guard (fun hb =>?_) (fun hb =>?_) <;>try simp only[hb])|refine U.aJ (by decide +kernel) rfl fun K hK =>?_|refine .flat _ (f98) rfl ?_|refine .flat _ (f1) rfl ?_|refine .flat _ (f135) rfl ?_|(refine .aG [0,1,2,4,5,16,19,20,21,30] hK ?_;clear hK K)|(with_reducible refine .done (hK _ ?_);clear hK K)|refine U.of rfl ?_|(with_reducible refine az.aI (fun h =>?_) (fun h =>?_) <;>try simp only[h])) <;>try simp only[aK,R,simprocAttr])
 all_goals clear R
 refine U.loop (fun i:Nat=>aw [(1,enc l),(2,.ptr 2 []),(19,.int .i64 ((l.length+1:Nat):Int)),(20,.int .i64 i)] [(2,.box (enc r))]) (fun i=>i≤l.length+1∧∀ k,k<i→decide (r.copy.all=bK 1 (l.take k))=false) (fun i=>l.length+1-i) 0 ⟨zv0 _,fun k hk=>by omega⟩ ?_ ?_
 ·refine bx.cQ ?_ ?_ ?_ ?_ <;>simp[bV,b7,b6,bI,aC,bX,dR,I.only,aj.only,bu]
  all_goals rfl
 rintro i ⟨hi,hk⟩;by_cases hlt:i<l.length+1
 ·have hlc:=fr hlt;have hw:=eU (i:=i) (by omega);have hsl:=fun A=>Fh (l:=l) (k:=i) A (esz:=8) rfl (by omega);have f135':=hpre i;cases q3:decide (r.copy.all=bK 1 (l.take i))
  ·have R:=y6 @hlc (y6 @hw (y6 @hsl (y6 @q3 (y6 @lP (y6 @br aF)))))
   repeat' ((first |(with_reducible refine .guard (fun hb =>?_) (fun hb =>?_) <;>try simp only[hb])|refine U.aJ (by decide +kernel) rfl fun K hK =>?_|refine .flat _ (f2) rfl ?_|refine .flat _ (f135') rfl ?_|(refine .aG [0,1,2,4,5,16,19,20,21,30] hK ?_;clear hK K)|(with_reducible refine .done (hK _ ?_);clear hK K)|refine U.of rfl ?_|(with_reducible refine az.aI (fun h =>?_) (fun h =>?_) <;>try simp only[h])) <;>try simp only[aK,R,zw0,simprocAttr])
   all_goals clear R
   refine ⟨i+1,⟨by omega,fun k hk2 =>?_⟩,by omega,?_⟩
   ·by_cases e:k=i
    ·rw[e];exact q3
    ·exact hk k (by omega)
   ·clear hk;refine bx.cQ ?_ ?_ ?_ ?_ <;>simp[bV,b7,b6,bI,aC,bX,dR,I.only,aj.only,bu]
    all_goals rfl
  ·rw[GY hlt hk q3];have R:=y6 @hlc (y6 @hw (y6 @hsl (y6 @q3 (y6 @lP (y6 @br aF)))))
   repeat' ((first |(with_reducible refine .guard (fun hb =>?_) (fun hb =>?_) <;>try simp only[hb])|refine U.aJ (by decide +kernel) rfl fun K hK =>?_|refine .flat _ (f2) rfl ?_|refine .flat _ (f135') rfl ?_|(refine .aG [0,1,2,4,5,16,19,20,21,30] hK ?_;clear hK K)|(with_reducible refine .done (hK _ ?_);clear hK K)|refine U.of rfl ?_|(with_reducible refine az.aI (fun h =>?_) (fun h =>?_) <;>try simp only[h])) <;>try simp only[aK,R,zw0,simprocAttr])
   all_goals clear R
   all_goals rfl
 ·have hlc:=fM hlt;rw[GX fun k hk2=>hk k (by omega)];have R:=y6 @hlc aF
  repeat' ((first |(with_reducible refine .guard (fun hb =>?_) (fun hb =>?_) <;>try simp only[hb])|refine U.aJ (by decide +kernel) rfl fun K hK =>?_|(refine .aG [0,1,2,4,5,16,19,20,21,30] hK ?_;clear hK K)|(with_reducible refine .done (hK _ ?_);clear hK K)|refine U.of rfl ?_|(with_reducible refine az.aI (fun h =>?_) (fun h =>?_) <;>try simp only[h])) <;>try simp only[aK,R,simprocAttr])
  all_goals clear R
  all_goals rfl
theorem uf(r:cF)(h:r.small)(l:List ai)(hl:l.length≤4000000000000):aS Tryz.prog 37 [enc r,enc l] (enc (if jX r l then (0:Int) else 84)):=by
 refine aS.bS Tryz.func37 IF JM K1 (t8 rfl) (fun hwf W0 bL E1 =>?_);simp only[c37,DU,bH,zz5];clear hwf;have f:=ym r h l hl;cases q:jX r l
 ·rw[q] at f;have R:=aF
  repeat' ((first |refine U.aJ (by decide +kernel) rfl fun K hK =>?_|refine .flat _ (f) rfl ?_|(refine .aG [0,1,2,4,8] hK ?_;clear hK K)|(with_reducible refine .done (hK _ ?_);clear hK K)|refine U.of rfl ?_|(with_reducible refine az.aI (fun h =>?_) (fun h =>?_) <;>try simp only[h])) <;>try simp only[aK,R,simprocAttr])
  all_goals clear R
  all_goals rfl
 ·rw[q] at f;have R:=aF
  repeat' ((first |refine U.aJ (by decide +kernel) rfl fun K hK =>?_|refine .flat _ (f) rfl ?_|(refine .aG [0,1,2,4,8] hK ?_;clear hK K)|(with_reducible refine .done (hK _ ?_);clear hK K)|refine U.of rfl ?_|(with_reducible refine az.aI (fun h =>?_) (fun h =>?_) <;>try simp only[h])) <;>try simp only[aK,R,simprocAttr])
  all_goals clear R
  all_goals rfl
section
variable {α:Type} [Enc α] {P:Program} {hs:List FuncId} {Y:Value→List I→List (Nat×aj)→b9→Prop} {K:ae→Prop} {rest:List au} {d e esz bytes:Nat}
def mI(esz:Nat)(v:I)(os:List (Nat×aj))(l:List α)(S:List Nat):Prop:=(l=[]∧(v=.c0 esz∨v=.nils esz))∨∃ n q,n∈S∧v=.view n [] esz 0 l.length∧aD os n=some (.box (.agg ((l++q).map enc)))
theorem yC{A:ae}{w:I}(hw:w=.c0 esz∨w=.nils esz)(z:I){l:List α}(hsz:Enc.sz α=esz)(hl:l≠[])(hf:A.o d=none)(hb:l.length*bytes≤140737488355328)(hml:l.length≤maxLen) :
  ∃ p:Nat→Prop,eY A (some d) e esz bytes z (enc l) rest w=.any p fun m=>al rest ((A.aQ d (.box (.agg (l.map enc++List.replicate m z)))).aP (some d) (.view d [] esz 0 l.length)):=by
 have hne:l.map (enc (α:=α))≠[]:=by simpa using hl
 have h1:c7 A esz w=some []:=by rcases hw with rfl | rfl <;>rfl
 refine ⟨fun m=>l.length+m≤maxLen,?_⟩;rcases hw with rfl | rfl <;>simp only[eY,h1,kW A esz l hsz,ep,if_neg hne,fb,hf,zw2,zz5,Z9,if_pos (y6 hb hml),zy3]
theorem G8{A:ae}(z:I)(hsz:Enc.sz α=esz){n l:Nat}{xs ys:List α}(hy:ys≠[])(ho:A.o n=some (.box (.agg (xs.map enc))))(hl:l≤xs.length)(hr:xs.length<l+ys.length)(hf:A.o d=none)(hb:(l+ys.length)*bytes≤140737488355328)(hml:l+ys.length≤maxLen) :
  ∃ p:Nat→Prop,eY A (some d) e esz bytes z (enc ys) rest (.view n [] esz 0 l)=.any p fun m=>al rest ((A.aQ d (.box (.agg ((xs.take l).map enc++(ys.map enc++List.replicate m z))))).aP (some d) (.view d [] esz 0 (l+ys.length))):=by
 have h1:=nJ (A:=A) (esz:=esz) (lo:=0) (k:=l) ho (by omega);have h2:(I.agg (xs.map (enc (α:=α)))).at []=some (.agg (xs.map enc)):=rfl;have h4:(xs.take l).length=l:=by rw[zz4];omega
 refine ⟨fun m=>l+ys.length+m≤maxLen,?_⟩;simp only[eY,h1,List.drop_zero,kW A esz ys hsz,ep];rw[if_neg (by simpa using hy)];simp only[ho,h2,Z9,zz5];rw[if_neg (by omega)];simp only[fb,hf,Z9,h4];rw[if_pos ⟨hb,hml⟩]
theorem VA(z:α){ts:List (Nat×I)}{os:List (Nat×aj)}{v:I}{l ys:List α}{S:List Nat}(hsz:Enc.sz α=esz)(hg:mI esz v os l S)(hf:aD os d=none)(hb:(l.length+ys.length)*bytes≤140737488355328)(hml:l.length+ys.length≤maxLen) :
  (∃ v' os',eY (aw ts os) (some d) e esz bytes (enc z) (enc ys) rest v=al rest (aw ((d,v')::ts) os')∧mI esz v' os' (l++ys) (d::S)∧∀ m,m∉d::S→aD os' m=aD os m) ∨
  (∃ p,∃ v':Nat→I,∃ os':Nat→List (Nat×aj),eY (aw ts os) (some d) e esz bytes (enc z) (enc ys) rest v=.any p (fun m=>al rest (aw ((d,v' m)::ts) (os' m)))∧∀ k,mI esz (v' k) (os' k) (l++ys) (d::S)∧∀ m,m∉d::S→aD (os' k) m=aD os m):=by
 by_cases hy:ys=[]
 ·subst hy;rw[zx9];rcases hg with ⟨rfl,ab⟩ | ⟨n,q,hn,rfl,ho⟩
  ·rcases ab with rfl | rfl
   ·exact .inl ⟨.c0 esz,os,yD _ hsz,.inl ⟨rfl,.inl rfl⟩,fun _ _=>rfl⟩
   ·refine .inl ⟨.nils esz,os,?_,.inl ⟨rfl,.inr rfl⟩,fun _ _=>rfl⟩;have h1:c7 (aw ts os) esz (.nils esz)=some []:=rfl;simp only[eY,h1,kW _ esz ([]:List α) hsz,ep,zy5,if_true];rfl
  ·refine .inl ⟨_,os,?_,.inr ⟨n,q,List.mem_cons_of_mem _ hn,rfl,ho⟩,fun _ _=>rfl⟩;have h1:=nJ (A:=aw ts os) (esz:=esz) (lo:=0) (k:=l.length) ho (by simp);simp only[eY,h1,kW _ esz ([]:List α) hsz,ep,zy5,if_true];rfl
 ·rcases hg with ⟨rfl,ab⟩ | ⟨n,q,hn,rfl,ho⟩
  ·obtain ⟨p,h1⟩:=yC (A:=aw ts os) (rest:=rest) (e:=e) ab (enc z) hsz hy hf (by simpa using hb) (by simpa using hml);refine .inr ⟨p,fun m=>.view d [] esz 0 ys.length,fun m=>(d,.box (.agg (ys.map enc++List.replicate m (enc z))))::os,h1,fun k=>⟨.inr ⟨d,List.replicate k z,List.mem_cons_self,by simp,?_⟩,fun m hm =>?_⟩⟩
   ·simp[aD]
   ·rw[dR,if_neg (fun h=>by rw[h] at hm;exact hm List.mem_cons_self)]
  ·by_cases hr:l.length+ys.length≤(l++q).length
   ·have h1:=yE (A:=aw ts os) (rest:=rest) (d:=some d) (e:=e) (bytes:=bytes) (esz:=esz) (enc z) hsz hy ho hr;have e1:(l++q).take l.length++(ys++(l++q).drop (l.length+ys.length))=(l++ys)++q.drop ys.length:=by simp[List.drop_append]
    rw[e1] at h1;refine .inl ⟨_,(n,.box (.agg (((l++ys)++q.drop ys.length).map enc)))::os,h1,.inr ⟨n,q.drop ys.length,List.mem_cons_of_mem _ hn,by simp,by simp[aD]⟩,fun m hm =>?_⟩;rw[dR,if_neg (fun h=>by rw[h] at hm;exact hm (List.mem_cons_of_mem _ hn))]
   ·obtain ⟨p,h1⟩:=G8 (A:=aw ts os) (rest:=rest) (d:=d) (e:=e) (bytes:=bytes) (esz:=esz) (enc z) hsz hy ho (by simp) (by omega) hf hb hml;refine .inr ⟨p,fun m=>.view d [] esz 0 (l.length+ys.length),fun m=>(d,.box (.agg (((l++q).take l.length).map enc++(ys.map enc++List.replicate m (enc z)))))::os,h1,fun k=>⟨.inr ⟨d,List.replicate k z,List.mem_cons_self,by simp,?_⟩,fun m hm =>?_⟩⟩
    ·simp[aD]
    ·rw[dR,if_neg (fun h=>by rw[h] at hm;exact hm List.mem_cons_self)]
theorem bM.Vx(z:α){ts:List (Nat×I)}{os:List (Nat×aj)}{v:I}{l ys:List α}{S:List Nat}(hsz:Enc.sz α=esz)(hg:mI esz v os l S)(hf:aD os d=none)(hb:(l.length+ys.length)*bytes≤140737488355328)(hml:l.length+ys.length≤maxLen)
  (h:∀ v' os',mI esz v' os' (l++ys) (d::S)→(∀ m,m∉d::S→aD os' m=aD os m)→bM P Y hs K (al rest (aw ((d,v')::ts) os'))):bM P Y hs K (eY (aw ts os) (some d) e esz bytes (enc z) (enc ys) rest v):=by
 rcases VA (rest:=rest) (e:=e) z hsz hg hf hb hml (ts:=ts) with ⟨v',os',h1,h2,h3⟩ | ⟨p,v',os',h1,h2⟩
 ·rw[h1];exact h v' os' h2 h3
 ·rw[h1];exact .any fun m _=>h _ _ (h2 m).1 (h2 m).2
theorem Vz{v:I}{os:List (Nat×aj)}{l:List α}{S:List Nat}{A:ae}(hsz:Enc.sz α=esz)(h:mI esz v os l S)(hA:∀ m∈S,A.o m=aD os m):bf true A v=some (enc l):=by
 rcases h with ⟨rfl,rfl | rfl⟩ | ⟨n,q,hn,rfl,ho⟩
 ·simp only[bf,gM,zy5,hsz]
 ·simp only[bf,gM,zy5,hsz]
 ·have h1:bf true A (.view n [] esz 0 l.length)=jU esz 0 l.length (some ((l++q).map enc)):=by
   rw[r2,hA n hn,ho];rfl
  rw[h1,oA hsz,List.take_left]
end
theorem Vy{l:List ai}{x:I}{os' os0:List (Nat×aj)}{d:Nat}(h:pV l x os'):mI 8 (x.aT (bo [(7,d)])) (df [(7,d)] os'++os0) l [d]:=by
 rcases h with ⟨hn,rfl | rfl,rfl⟩ | ⟨hn,k,rfl,rfl⟩
 ·exact .inl ⟨hn,.inr rfl⟩
 ·exact .inl ⟨hn,.inl rfl⟩
 ·refine .inr ⟨d,List.replicate k cB,by simp,?_,?_⟩
  ·simp[I.aT,bo]
  ·simp only[eZ,kQ,zz1,zz8,aD,df,bo,if_true,aj.aT,I.aT]
def iV:cF:=⟨⟨[],[]⟩,⟨[],[]⟩⟩
theorem kC:I.agg [.agg [.ak ⟨#[]⟩,.ak ⟨#[]⟩],.agg [.ak ⟨#[]⟩,.ak ⟨#[]⟩]]=enc iV:=rfl
def nT(r:cF)(l s:List ai)(x:ai):cF×List ai×Int :=
 if x∈l then (r,l,0) else if (iM s x).2≠0 then (iV,[],(iM s x).2) else (⟨⟨r.cd.bz,r.cd.cX++cR (dx 1 l) x⟩,r.copy⟩,l++[x],0)
theorem GM{s:List ai}{x:ai}(h:(iM s x).2=0):bh x=true:=by
 simp only[iM] at h;cases q:bh x
 ·rw[q] at h
  (repeat' split at h) <;>simp_all
 ·rfl
theorem FA:(∀ A n b rest (q:jb),eb A (some 1) n [] b (enc q) rest (some (.agg [.nils 8]))=al rest (A.aQ n (.box (enc q)))) ∧
  (∀ A n rest (r:cF) (x y:List UInt8),eb A none n [0,1] (enc r) (enc (ar.of x)) rest (some (enc (ar.of y)))=al rest (A.aQ n (.box (enc (⟨⟨r.cd.bz,x⟩,r.copy⟩:cF))))) :=
 ⟨fun A n b rest q=>by rw[eP (s:=some 1) (v:=enc q) (old:=.agg [.nils 8]) (eQ _) rfl rfl,fx],
  fun A n rest r x y=>by rw[eP (s:=none) (v:=enc (ar.of x)) (old:=enc (ar.of y)) (eQ _) rfl rfl];rfl⟩
theorem Gw(r:cF)(h:r.small)(l s:List ai)(hl:l.length≤60)(hok:∀ x∈l,bh x=true)(hsl:s.length≤60)(h95:aS Tryz.prog 95 [enc l] (enc (⟨s⟩:jb)))(x:ai) :
  aS Tryz.prog 88 [enc r,enc l,enc x] (.tuple [enc (nT r l s x).1,enc (nT r l s x).2.1,enc (nT r l s x).2.2]):=by
 refine aS.bS Tryz.func88 IZ J3 Lj (t8 rfl) (fun hwf W0 bL E1 =>?_);simp only[zR,Ef,bH,zz5,Nat.reduceAdd];clear hwf;have f136:=F9 l x (by omega);have f93:=uh l (by omega);have f44:=Gp s x (by omega);simp only[nT];cases q1:decide (x∈l)
 rotate_left
 ·rw[q1] at f136;rw[if_pos (of_decide_eq_true q1)];have R:=y6 @kC (y6 @fk (y6 @br aF))
  repeat' ((first |refine U.aJ (by decide +kernel) rfl fun K hK =>?_|refine .flat _ (f136) rfl ?_|refine .lead _ (f93) ?_|(refine U.lJ (gs:=vy) [] [(3,[3]),(6,[6])] [0,1,2,3,4,5] (by decide +kernel) (dP.of (by simp[jz,bX,vZ,I.only,bu])) fun K hK =>?_;simp only[j9,vy,List.getD_cons_zero,List.getD_cons_succ,R,simprocAttr])|(refine .aG [0,1,2,3,5,6,7,8,10,11,15,27] hK ?_;clear hK K)|(with_reducible refine .done (hK _ ?_);clear hK K)|refine U.of rfl ?_|(with_reducible refine az.aI (fun h =>?_) (fun h =>?_) <;>try simp only[h])) <;>try simp only[aK,R,simprocAttr])
  all_goals clear R
  all_goals rfl
 rw[q1] at f136;rw[if_neg (of_decide_eq_false q1)];by_cases q2:(iM s x).2=0
 rotate_left
 ·have q2':((iM s x).2 != 0)=true:=by simpa using q2
  rw[if_pos q2];generalize iM s x=p at *;have R:=y6 @kC (y6 @q2' (y6 @FA (y6 @im (y6 @fk (y6 @br aF)))))
  repeat' ((first |refine U.aJ (by decide +kernel) rfl fun K hK =>?_|refine .flat _ (f136) rfl ?_|refine .lead _ (h95) ?_|refine .lead _ (f44) ?_|(refine .aG [0,1,2,3,5,6,7,8,10,11,15,27] hK ?_;clear hK K)|(with_reducible refine .done (hK _ ?_);clear hK K)|refine U.of rfl ?_|(with_reducible refine az.aI (fun h =>?_) (fun h =>?_) <;>try simp only[h])) <;>try simp only[aK,R,simprocAttr])
  all_goals clear R
  all_goals rfl
 have q2':((iM s x).2 != 0)=false:=by simp[q2]
 rw[if_neg (by simp[q2])];have hx:=GM q2;have f137:=Ga l (by omega) hok;have hin:=rf l;have f81:=pF (dx 1 l) hin x hx;have hll:=sF hin hx;have hadd:=e8 r.cd.cX (cR (dx 1 l) x) (by have:=h.1.2;omega);generalize iM s x=p at *;have hbs:gu 8 (some [enc x])=some (enc [x]):=oh 8 x rfl;have R:=y6 @kC (y6 @q2' (y6 @hadd (y6 @FA (y6 @im (y6 @fk (y6 @br aF))))))
 repeat' ((first |refine U.aJ (by decide +kernel) rfl fun K hK =>?_|refine .flat _ (f136) rfl ?_|refine .lead _ (h95) ?_|refine .lead _ (f44) ?_|refine .flat _ (f137) rfl ?_|refine .lead _ (f81) ?_|(refine .aG [0,1,2,3,5,6,7,8,10,11,15,27] hK ?_;clear hK K)|(with_reducible refine .done (hK _ ?_);clear hK K)|refine U.of rfl ?_|(with_reducible refine az.aI (fun h =>?_) (fun h =>?_) <;>try simp only[h])) <;>try simp only[aK,R,simprocAttr])
 all_goals clear R
 obtain ⟨r',hr'⟩:∃ r':cF,r'=⟨⟨r.cd.bz,r.cd.cX++cR (dx 1 l) x⟩,r.copy⟩:=⟨_,rfl⟩
 rw[←hr'];refine U.sub (bx.oD [3] 3 (x:=.ptr 3 []) (y:=.ref (enc r')) (ts':=[(1,enc l),(3,.ref (enc r')),(5,.ptr 5 []),(6,.ptr 6 [])]) (os':=[(6,.box (enc iV)),(5,.box (enc x))]) rfl ?_ ?_ ?_ ?_ ?_ ?_) ?_
 ·rw[vq];simp[oz,dN,aw,jA,aD,kz,pP]
 ·simp[cZ,bI,aj.only,I.only,I.cI,bu]
 ·simp[bV,gb,bX,I.only,bu]
 ·simp[b7,cZ,aD]
 ·simp[b6,aC,aD,I.only,bu]
 ·simp[bI,aj.only,bu]
 refine U.sub (bx.oD [5] 5 (x:=.ptr 5 []) (y:=.ref (enc x)) (ts':=[(1,enc l),(3,.ref (enc r')),(5,.ref (enc x)),(6,.ptr 6 [])]) (os':=[(6,.box (enc iV))]) rfl ?_ ?_ ?_ ?_ ?_ ?_) ?_
 ·rw[vq];simp[oz,dN,aw,jA,aD,kz,pP]
 ·simp[cZ,bI,aj.only,bu]
 ·simp[bV,gb,bX,I.only,bu]
 ·simp[b7,cZ,aD]
 ·simp[b6,aC,aD,I.only,bu]
 ·simp[bI,aj.only,bu]
 have R:=y6 @hbs (y6 @ff (y6 @fk (y6 @br aF)))
 repeat' ((first |refine U.aJ (by decide +kernel) rfl fun K hK =>?_|refine .flat _ (8 [0,1,3,4,2,5,6,7,8] [(3,[]),(5,[]),(6,[6])]) rfl ?_|(refine .aG [0,1,2,3,5,6,7,8,10,11,15,27] hK ?_;clear hK K)|(with_reducible refine .done (hK _ ?_);clear hK K)|refine U.of rfl ?_|(with_reducible refine az.aI (fun h =>?_) (fun h =>?_) <;>try simp only[h])) <;>try simp only[aK,R,simprocAttr])
 all_goals clear R
 refine U.lJ (gs:=vz) [] [(3,[]),(5,[]),(6,[6])] [0,1,3,4,2,5,6,7,8] (by decide +kernel) (dP.of (by simp[jz,bX,I.only,bu])) fun K hK =>?_
 try simp only[j9,vz,zz1,zy5,List.getD_cons_zero,List.getD_cons_succ,hbs,aF,bd,simprocAttr]
 refine .bD [(7,46)] [enc l] (pV l) (ug l (by omega)) eX.nil ⟨.inl ⟨(iQ _ _).symm,bu _ _,eQ _⟩,trivial⟩ ?_ ?_
 ·rintro x os' (⟨_,h | h,rfl⟩ | ⟨_,k,rfl,rfl⟩)
  ·subst h;exact dL.nil (fun _=>rfl) (fun h=>by cases h)
  ·subst h;exact dL.nil (fun _=>rfl) (fun h=>by cases h)
  ·exact dL.sV (fun p=>fF p _) (fun h=>by cases h) rfl (fun h=>by cases h) rfl (by decide)
 intro y os' hp;have hg:=Vy (d:=46) (os0:=[(6,.box (enc iV))]) hp;have h6:∀ m,m≠46→aD (df [(7,46)] os'++[(6,aj.box (enc iV))]) m=aD [(6,aj.box (enc iV))] m:=by
  intro m hm;rcases hp with ⟨_,_,rfl⟩ | ⟨_,k,_,rfl⟩
  ·rfl
  ·simp only[eZ,df,zz1,zy5,bo,if_true,zz8,zy3,aD,if_neg hm]
 generalize y.aT (bo [(7,46)])=v at hg ⊢;generalize df [(7,46)] os'++[(6,aj.box (enc iV))]=os at hg h6 ⊢;have h49:aD os 49=none:=h6 49 (by decide)
 try simp only[ff,bd,simprocAttr]
 refine bM.Vx (default:ai) (ys:=[x]) rfl hg h49 (by simp;omega) (by simp[maxLen];omega) fun v' os'' hg2 hk =>?_;have h66:aD os'' 6=some (.box (enc iV)):=by rw[hk 6 (by decide),h6 6 (by decide)];rfl
 try simp only[h66,fk,bd,simprocAttr]
 have hf:∀ ts,bf true (aw ts ((6,.box (enc r'))::os'')) v'=some (enc (l++[x])):=fun ts=>Vz rfl hg2 fun m hm=>by
  have:m≠6:=by
   simp only[zy8,List.not_mem_nil,or_false] at hm;omega
  simp[aw,aD,this]
 refine .done (hK _ ?_);clear hK K;refine U.ret ?_;simp only[bd,simprocAttr]
 try simp only[hf,aF,bd,simprocAttr]
 all_goals rfl
def nU(r:cF)(l s:List ai)(x:ai):cF×List ai×Int:=if jX r l=false then (iV,[],84) else nT r l s x
theorem yg(r:cF)(h:r.small)(l s:List ai)(hl:l.length≤4000000000000)(hsl:s.length≤60)(h95:jX r l=true→aS Tryz.prog 95 [enc l] (enc (⟨s⟩:jb)))(x:ai) :
  aS Tryz.prog 35 [enc r,enc l,enc x] (.tuple [enc (nU r l s x).1,enc (nU r l s x).2.1,enc (nU r l s x).2.2]):=by
 refine aS.bS Tryz.func35 IE JL K0 (t8 rfl) (fun hwf W0 bL E1 =>?_);simp only[zD,DT,bH,zz5,Nat.reduceAdd];clear hwf;have f:=ym r h l hl;simp only[nU];cases q:jX r l
 ·rw[q] at f;have R:=y6 @kC (y6 @fk (y6 @br aF))
  repeat' ((first |refine U.aJ (by decide +kernel) rfl fun K hK =>?_|refine .flat _ (f) rfl ?_|(refine .aG [0,1,2,3,5,6,7,8,12] hK ?_;clear hK K)|(with_reducible refine .done (hK _ ?_);clear hK K)|refine U.of rfl ?_|(with_reducible refine az.aI (fun h =>?_) (fun h =>?_) <;>try simp only[h])) <;>try simp only[aK,R,simprocAttr])
  all_goals clear R
  all_goals rfl
 rw[q] at f;have hw:dC [] l=true:=by simp only[jX,Z7] at q;exact q.1.1
 have f88:=Gw r h l s (xR hw) (tX hw) hsl (h95 q) x;simp only[Bool.true_eq_false,if_false];generalize nT r l s x=p at *;have R:=y6 @kC (y6 @fk (y6 @br aF))
 repeat' ((first |refine U.aJ (by decide +kernel) rfl fun K hK =>?_|refine .flat _ (f) rfl ?_|refine .lead _ (f88) ?_|(refine .aG [0,1,2,3,5,6,7,8,12] hK ?_;clear hK K)|(with_reducible refine .done (hK _ ?_);clear hK K)|refine U.of rfl ?_|(with_reducible refine az.aI (fun h =>?_) (fun h =>?_) <;>try simp only[h])) <;>try simp only[aK,R,simprocAttr])
 all_goals clear R
 all_goals rfl
end Go.Proofs.YtoffnnjbplgnaaaGreatDoor
namespace Go.Proofs.YtoffnnjbplgnaaaGreatDoor
open Go Go.Abs Go.RowKit
open Go.Abs.Enc (enc)
def gI(p:List Int)(i:Nat)(n:Int):Int:=if p=[] then 0 else bQ (p.getD (i%p.length) 0) n
theorem YE(i n:Nat):(i:Int).tmod (n:Int)=((i%n:Nat):Int):=rfl
theorem ud(p:List Int)(i:Nat)(n:Int)(hn:n≠0)(hi:i≤1000)(hp:p.length≤1000000000000000):aS Tryz.prog 121 [enc p,.int .i64 (i:Int),enc n] (enc (gI p i n)):=by
 refine aS.bS Tryz.func121 HY Jg Kt (t8 rfl) (fun hwf W0 bL E1 =>?_);simp only[y7,Dk,bH,zz5,Nat.reduceAdd];clear hwf;simp only[gI];by_cases h:p=[]
 ·have q:((p.length:Int)==0)=true:=by rw[h];rfl
  rw[if_pos h];have R:=y6 @q aF
  repeat' ((first |refine U.aJ (by decide +kernel) rfl fun K hK =>?_|(refine .aG [0,1,2,6,9] hK ?_;clear hK K)|(with_reducible refine .done (hK _ ?_);clear hK K)|refine U.of rfl ?_|(with_reducible refine az.aI (fun h =>?_) (fun h =>?_) <;>try simp only[h])) <;>try simp only[aK,R,simprocAttr])
  all_goals clear R
  all_goals rfl
 ·have hpos:0<p.length:=List.length_pos_iff.2 h;have q:((p.length:Int)==0)=false:=by rw[beq_eq_false_iff_ne];omega
  have hnz:¬ (p.length:Int)=0:=by omega
  have hr:=YE i p.length;have hlt:i%p.length<p.length:=Nat.mod_lt _ hpos;have he:=fun A=>fg (A:=A) 1 hlt rfl;rw[if_neg h];have hg:p.getD (i%p.length) 0=p[i%p.length]:=by simp[zy9,hlt]
  rw[hg];generalize p[i%p.length]=x at *;have R:=y6 @q (y6 @hnz (y6 @hr (y6 @he (y6 @hn aF))))
  repeat' ((first |refine U.aJ (by decide +kernel) rfl fun K hK =>?_|(refine .aG [0,1,2,6,9] hK ?_;clear hK K)|(with_reducible refine .done (hK _ ?_);clear hK K)|refine U.of rfl ?_|(with_reducible refine az.aI (fun h =>?_) (fun h =>?_) <;>try simp only[h])) <;>try simp only[aK,R,simprocAttr])
  all_goals clear R
  all_goals rfl
end Go.Proofs.YtoffnnjbplgnaaaGreatDoor
namespace Go.Proofs.YtoffnnjbplgnaaaGreatDoor
open Go Go.Abs
open Go.Abs.Enc (enc)
def gG(u:List UInt8)(p:List Int)(i:Nat):List UInt8:=u.take (gI p i (u.length+1:Nat)).toNat
def iZ(w:List UInt8)(p:List Int)(i:Nat):List UInt8:=if gI p (i+1) 2=1∧0<w.length then w.set (gI p (i+2) (w.length:Nat)).toNat 63 else w
def xJ(r:dp)(p:List Int)(i:Nat):List UInt8:=r.bz++iZ (gG r.cX p i) p i
def lX(r:dp)(p:List Int)(i:Nat):dp:=⟨xJ r p i,[]⟩
theorem tG(w:List UInt8)(p:List Int)(i:Nat):(iZ w p i).length=w.length:=by
 rw[iZ];split <;>simp
theorem rI{p:List Int}{i:Nat}{n:Nat}(hn:0<n∧n≤4611686018427387904)(hp:∀ x∈p,-9223372036854775808≤x∧x≤9223372036854775807):0≤gI p i (n:Nat)∧gI p i (n:Nat)<n:=by
 rw[gI];by_cases h:p=[]
 ·rw[if_pos h];omega
 ·rw[if_neg h];have hpos:0<p.length:=List.length_pos_iff.2 h;have hlt:i%p.length<p.length:=Nat.mod_lt _ hpos;have hm:p.getD (i%p.length) 0∈p:=by simp only[zy9,zy0 hlt,Option.getD_some];exact List.getElem_mem hlt
  rw[WH (hp _ hm) (by omega)];exact ⟨Int.emod_nonneg _ (by omega),Int.emod_lt_of_pos _ (by omega)⟩
theorem yW:∀ l:List UInt8,mP (l.map enc)=some l
 | []=>rfl
 |b::l=>by
  have h:=yW l;rw[zz1]
  show (match I.int .u8 (b.toNat:Int),mP (l.map enc) with | .int .u8 n,some l=>some (UInt8.ofNat n.toNat::l) | _,_=>none)=_
  rw[h]
  show some (UInt8.ofNat ((b.toNat:Int)).toNat::l)=_
  simp
theorem rJ(l:List UInt8):lj (some (l.map enc))=some (enc (ar.of l)):=by
 rw[lj,yW];rfl
theorem tI(A:ae)(t:List UInt8):kg A 1 (enc (ar.of t))=some (t.map enc):=rfl
theorem tv(n:Nat):List.replicate n (I.int .u8 0)=(List.replicate n (0:UInt8)).map enc:=by rw[List.map_replicate];rfl
def xu(sz z lo k:Nat):Option (List I)→Option (List I)
 |some fs=>if lo+k≤fs.length∧z=sz then some ((fs.drop lo).take k) else none
 |none=>none
theorem tJ(A:ae)(sz n z lo k:Nat)(p:List Nat):kg A sz (.view n p z lo k)=xu sz z lo k (ev (dN p (A.o n))):=by
 show c7 A sz (.view n p z lo k)=_
 simp only[c7,jR,fL];cases dN p (A.o n) with
 |none=>rfl
 |some c=>cases c <;>rfl
theorem tL(l q:List UInt8){n:Nat}(h:n=l.length):xu 1 1 0 n (some ((l++q).map enc))=some (l.map enc):=by
 subst h;simp only[xu,Z9,List.drop_zero,←List.map_take,List.take_left];rw[if_pos ⟨by simp,trivial⟩]
theorem tK(A:ae)(k n:Nat)(l:List UInt8)(hn:n=l.length)(h:A.o k=some (.box (.agg (l.map enc)))):c7 A 1 (.view k [] 1 0 n)=some (l.map enc):=by
 subst hn;have e:=nJ (A:=A) (esz:=1) (lo:=0) (k:=l.length) h (by simp);rw[List.drop_zero,List.take_length] at e;exact e
theorem Ap{A:ae}{d:Option Nat}{z esz:Nat}{rest:List au}{ys:List I} : ku A d esz (al rest) (.c0 z) (some ys)=al rest (A.aP d (.int .i64 0)):=rfl
theorem Zk{n:Nat}{p:List Nat}{sz k:Nat} : iX n p sz 0 k k (some (.int .i64 k)) none none=some (.c0 sz):=by
 simp only[iX,gJ];rw[if_pos ⟨by omega,by omega,by omega⟩,if_pos (by omega)]
theorem Ff{A:ae}{n k i:Nat}{xs:List UInt8}(hk:k=xs.length)(hi:i<k)(h:A.o n=some (.box (.agg (xs.map enc)))):iJ A 1 (some (.int .i64 i)) none none (.view n [] 1 0 k)=some (.view n [] 1 i (k-i)):=by
 subst hk;rw[xp,h]
 show lU n [] 1 0 xs.length 1 _ none none (some (xs.map enc))=_
 rw[xq,Z9,mB (by omega) (by omega) hi]
theorem Fg{A:ae}{n k:Nat}{xs:List UInt8}(hk:k=xs.length)(h:A.o n=some (.box (.agg (xs.map enc)))):iJ A 1 (some (.int .i64 k)) none none (.view n [] 1 0 k)=some (.c0 1):=by
 subst hk;rw[xp,h]
 show lU n [] 1 0 xs.length 1 _ none none (some (xs.map enc))=_
 rw[xq,Z9,Zk]
theorem rR{A:ae}{d:Option Nat}{n k m:Nat}{rest:List au}{a:List UInt8}(hk:k=a.length+m)(h:A.o n=some (.box (.agg ((List.replicate k (0:UInt8)).map enc)))) :
  ku A d 1 (al rest) (.view n [] 1 0 k) (some (a.map enc))=al rest ((A.aQ n (.box (.agg ((a++List.replicate m (0:UInt8)).map enc)))).aP d (.int .i64 (a.length:Nat))):=by
 subst hk;rw[oq (c:=a.length) h (by simp) (by omega)];simp
theorem Ao{A:ae}{d:Option Nat}{n i m:Nat}{rest:List au}{a b:List UInt8}(hi:i=a.length)(hm:m=b.length)(h:A.o n=some (.box (.agg ((a++List.replicate m (0:UInt8)).map enc)))) :
  ku A d 1 (al rest) (.view n [] 1 i m) (some (b.map enc))=al rest ((A.aQ n (.box (.agg ((a++b).map enc)))).aP d (.int .i64 (b.length:Nat))):=by
 subst hi hm;rw[oq (c:=b.length) h (by simp) (by omega)];simp
theorem yj(r:dp)(hr:r.small)(p:List Int)(i:Nat)(hi:i≤900)(hp:p.length≤100000000000000)(hpi:∀ x∈p,-9223372036854775808≤x∧x≤9223372036854775807):aS Tryz.prog 75 [enc r,enc p,.int .i64 (i:Int)] (enc (lX r p i)):=by
 obtain ⟨n1,hn1⟩:∃ n1:Nat,gI p i ((r.cX.length+1:Nat):Int)=(n1:Int):=zz9 (rI (by have:=hr.2;omega) hpi).1;have hn1l:n1≤r.cX.length:=by have:=(rI (p:=p) (i:=i) (n:=r.cX.length+1) (by have:=hr.2;omega) hpi).2;omega
 have hd:=hr.1;have hu:=hr.2;have e1:gG r.cX p i=r.cX.take n1:=by rw[gG,hn1];rfl
 have hnl:(r.cX.take n1).length=n1:=by rw[zz4];omega
 rw[lX,xJ,e1];refine aS.bS Tryz.func75 IM JS K8 (t8 rfl) (fun hwf W0 bL E1 =>?_);simp only[c75,D0,bH,zz5,Nat.reduceAdd];clear hwf;have f1:=ud p i ((r.cX.length+1:Nat):Int) (by omega) (by omega) (by omega);have f2:=ud p (i+1) 2 (by omega) (by omega) (by omega);have hss:=qU (ar.of r.cX) (j:=n1) (by rw[ar.dQ];exact hn1l);rw[ar.dQ] at hss;have hs2:=xf (r.cX.take n1);have hl:=fun t=>pn t;have hw1:IntKind.i64.wrap (((r.cX.length:Nat):Int)+1)=((r.cX.length+1:Nat):Int):=by rw[dX _ (by omega) (by omega)];omega
 have hw2:IntKind.i64.wrap ((i:Int)+1)=((i+1:Nat):Int):=by rw[dX _ (by omega) (by omega)];omega
 have hw3:IntKind.i64.wrap ((i:Int)+2)=((i+2:Nat):Int):=by rw[dX _ (by omega) (by omega)];omega
 rw[hn1] at f1
 replace f2:aS Tryz.prog 121 [enc p,.int .i64 ((i+1:Nat):Int),.int .i64 2] (.int .i64 (gI p (i+1) 2)):=f2
 replace f1:aS Tryz.prog 121 [enc p,.int .i64 (i:Int),.int .i64 ((r.cX.length+1:Nat):Int)] (.int .i64 (n1:Int)):=f1
 obtain ⟨l2,hl2⟩:∃ l2,iZ (r.cX.take n1) p i=l2:=⟨_,rfl⟩
 have hl2n:l2.length=n1:=by rw[←hl2,tG,hnl]
 rw[hl2];rw[iZ] at hl2;generalize r.cX.take n1=w at *;have hpi':=hpi;clear e1;have hiv:=trivial;have hat:=trivial;have hst:=trivial;have f3:=f2;rcases Nat.eq_zero_or_pos n1 with h0 | h0
 ·have hw0:l2=w:=by
   rw[if_neg] at hl2
   ·exact hl2.symm
   ·intro h;omega
  subst hw0;have hg:decide ((n1:Int)>0)=false:=decide_eq_false (by omega);cases hb:gI p (i+1) 2==1
  ·generalize gI p (i+1) 2=a2 at *;have hw4:IntKind.i64.wrap ((r.bz.length:Int)+(n1:Int))=((r.bz.length+n1:Nat):Int):=by rw[dX _ (by omega) (by omega)];omega
   have hmk:=fun (A:ae) (rest:List au)=>sU (A:=A) (d:=44) (bytes:=1) (z:=.int .u8 0) (rest:=rest) (n:=r.bz.length+n1) (by omega) (by unfold maxLen;omega);have hcp:=fun (A:ae) (rest:List au)=>rR (A:=A) (d:=some 48) (n:=44) (k:=r.bz.length+n1) (m:=n1) (rest:=rest) (a:=r.bz) rfl;have hcv:=fun (q:List UInt8)=>tL l2 q (n:=n1) hl2n.symm;have hsb:=fun (A:ae)=>tK A 44 (r.bz.length+n1) (r.bz++l2) (by simp[hl2n]);have hbs:=rJ (r.bz++l2);have hce:=fun (A:ae)=>tI A r.bz;have hl0:l2=[]:=zw1 (by omega);have hsl:=fun (A:ae)=>Fg (A:=A) (n:=44) (k:=r.bz.length+n1) (xs:=r.bz++List.replicate n1 0) (by simp);have hn:((r.bz.length+n1:Nat):Int)=(r.bz.length:Int):=by omega
   have hrp:r.bz++List.replicate n1 (0:UInt8)=r.bz++l2:=by rw[hl0,h0];rfl
   rw[hn,hrp] at hsl;rw[hrp] at hcp;have R:=y6 @hg (y6 @qp (y6 @tJ (y6 @mj (y6 @tv (y6 @hw1 (y6 @hw2 (y6 @hw3 (y6 @hw4 (y6 @hb (y6 @hnl (y6 @hmk (y6 @hcp (y6 @hcv (y6 @hsb (y6 @hbs (y6 @hce (y6 @hsl (y6 @Ap (y6 @jS (y6 @fk (y6 @lp (y6 @hl (y6 @hss (y6 @hs2 (y6 @br (y6 @sM aF))))))))))))))))))))))))))
   repeat' ((first |(with_reducible refine .guard (fun hb =>?_) (fun hb =>?_) <;>try simp only[hb])|(refine U.lJ (gs:=lC) [] [] [0,1,2,3,4,5,6,7,8,9,10,11] (by decide +kernel) (dP.of (by simp[jz])) fun K hK =>?_;simp only[j9,lC,List.getD_cons_zero,List.getD_cons_succ,R,simprocAttr])|refine bM.eO rfl fun m =>?_|refine U.aJ (by decide +kernel) rfl fun K hK =>?_|refine .flat _ (f1) rfl ?_|refine .flat _ (f2) rfl ?_|(refine .aG [0,1,2,3,6,7,8,29] hK ?_;clear hK K)|(with_reducible refine .done (hK _ ?_);clear hK K)|refine U.of rfl ?_|(with_reducible refine az.aI (fun h =>?_) (fun h =>?_) <;>try simp only[h])) <;>try simp only[aK,R,zw0,simprocAttr])
   all_goals clear R
   all_goals rfl
  ·generalize gI p (i+1) 2=a2 at *;have hw4:IntKind.i64.wrap ((r.bz.length:Int)+(n1:Int))=((r.bz.length+n1:Nat):Int):=by rw[dX _ (by omega) (by omega)];omega
   have hmk:=fun (A:ae) (rest:List au)=>sU (A:=A) (d:=44) (bytes:=1) (z:=.int .u8 0) (rest:=rest) (n:=r.bz.length+n1) (by omega) (by unfold maxLen;omega);have hcp:=fun (A:ae) (rest:List au)=>rR (A:=A) (d:=some 48) (n:=44) (k:=r.bz.length+n1) (m:=n1) (rest:=rest) (a:=r.bz) rfl;have hcv:=fun (q:List UInt8)=>tL l2 q (n:=n1) hl2n.symm;have hsb:=fun (A:ae)=>tK A 44 (r.bz.length+n1) (r.bz++l2) (by simp[hl2n]);have hbs:=rJ (r.bz++l2);have hce:=fun (A:ae)=>tI A r.bz;have hl0:l2=[]:=zw1 (by omega);have hsl:=fun (A:ae)=>Fg (A:=A) (n:=44) (k:=r.bz.length+n1) (xs:=r.bz++List.replicate n1 0) (by simp);have hn:((r.bz.length+n1:Nat):Int)=(r.bz.length:Int):=by omega
   have hrp:r.bz++List.replicate n1 (0:UInt8)=r.bz++l2:=by rw[hl0,h0];rfl
   rw[hn,hrp] at hsl;rw[hrp] at hcp;have R:=y6 @hg (y6 @qp (y6 @tJ (y6 @mj (y6 @tv (y6 @hw1 (y6 @hw2 (y6 @hw3 (y6 @hw4 (y6 @hb (y6 @hnl (y6 @hmk (y6 @hcp (y6 @hcv (y6 @hsb (y6 @hbs (y6 @hce (y6 @hsl (y6 @Ap (y6 @jS (y6 @fk (y6 @lp (y6 @hl (y6 @hss (y6 @hs2 (y6 @br (y6 @sM aF))))))))))))))))))))))))))
   repeat' ((first |(with_reducible refine .guard (fun hb =>?_) (fun hb =>?_) <;>try simp only[hb])|(refine U.lJ (gs:=lC) [] [] [0,1,2,3,4,5,6,7,8,9,10,11] (by decide +kernel) (dP.of (by simp[jz])) fun K hK =>?_;simp only[j9,lC,List.getD_cons_zero,List.getD_cons_succ,R,simprocAttr])|refine bM.eO rfl fun m =>?_|refine U.aJ (by decide +kernel) rfl fun K hK =>?_|refine .flat _ (f1) rfl ?_|refine .flat _ (f2) rfl ?_|(refine .aG [0,1,2,3,6,7,8,29] hK ?_;clear hK K)|(with_reducible refine .done (hK _ ?_);clear hK K)|refine U.of rfl ?_|(with_reducible refine az.aI (fun h =>?_) (fun h =>?_) <;>try simp only[h])) <;>try simp only[aK,R,zw0,simprocAttr])
   all_goals clear R
   all_goals rfl
 ·have hg:decide ((n1:Int)>0)=true:=decide_eq_true (by omega);cases hb:gI p (i+1) 2==1
  ·have hw0:l2=w:=by
    rw[if_neg] at hl2
    ·exact hl2.symm
    ·intro h;rw[h.1] at hb;cases hb
   subst hw0;generalize gI p (i+1) 2=a2 at *;have hw4:IntKind.i64.wrap ((r.bz.length:Int)+(n1:Int))=((r.bz.length+n1:Nat):Int):=by rw[dX _ (by omega) (by omega)];omega
   have hmk:=fun (A:ae) (rest:List au)=>sU (A:=A) (d:=44) (bytes:=1) (z:=.int .u8 0) (rest:=rest) (n:=r.bz.length+n1) (by omega) (by unfold maxLen;omega);have hcp:=fun (A:ae) (rest:List au)=>rR (A:=A) (d:=some 48) (n:=44) (k:=r.bz.length+n1) (m:=n1) (rest:=rest) (a:=r.bz) rfl;have hcv:=fun (q:List UInt8)=>tL l2 q (n:=n1) hl2n.symm;have hsb:=fun (A:ae)=>tK A 44 (r.bz.length+n1) (r.bz++l2) (by simp[hl2n]);have hbs:=rJ (r.bz++l2);have hce:=fun (A:ae)=>tI A r.bz;have hsl:=fun (A:ae)=>Ff (A:=A) (n:=44) (k:=r.bz.length+n1) (i:=r.bz.length) (xs:=r.bz++List.replicate n1 0) (by simp) (by omega);rw[Nat.add_sub_cancel_left] at hsl;have hcb:=fun (A:ae) (rest:List au)=>Ao (A:=A) (d:=some 55) (n:=44) (i:=r.bz.length) (m:=n1) (rest:=rest) (a:=r.bz) (b:=l2) rfl hl2n.symm;have R:=y6 @hg (y6 @hiv (y6 @hat (y6 @hst (y6 @vL (y6 @qp (y6 @tJ (y6 @mj (y6 @tv (y6 @hw1 (y6 @hw2 (y6 @hw3 (y6 @hw4 (y6 @hb (y6 @hnl (y6 @hmk (y6 @hcp (y6 @hcv (y6 @hsb (y6 @hbs (y6 @hce (y6 @hsl (y6 @hcb (y6 @jS (y6 @fk (y6 @lp (y6 @hl (y6 @hss (y6 @hs2 (y6 @br (y6 @sM aF))))))))))))))))))))))))))))))
   repeat' ((first |(with_reducible refine .guard (fun hb =>?_) (fun hb =>?_) <;>try simp only[hb])|(refine U.lJ (gs:=lC) [] [] [0,1,2,3,4,5,6,7,8,9,10,11] (by decide +kernel) (dP.of (by simp[jz])) fun K hK =>?_;simp only[j9,lC,List.getD_cons_zero,List.getD_cons_succ,R,simprocAttr])|refine bM.eO rfl fun m =>?_|refine U.aJ (by decide +kernel) rfl fun K hK =>?_|refine .flat _ (f1) rfl ?_|refine .flat _ (f2) rfl ?_|refine .flat _ (f3) rfl ?_|(refine .aG [0,1,2,3,6,7,8,29] hK ?_;clear hK K)|(with_reducible refine .done (hK _ ?_);clear hK K)|refine U.of rfl ?_|(with_reducible refine az.aI (fun h =>?_) (fun h =>?_) <;>try simp only[h])) <;>try simp only[aK,R,zw0,simprocAttr])
   all_goals clear R
   all_goals rfl
  ·obtain ⟨j,hj,hjn⟩:∃ j:Nat,gI p (i+2) (n1:Int)=(j:Int)∧j<n1:=by
    have:=rI (p:=p) (i:=i+2) (n:=n1) (by omega) hpi';obtain ⟨j,hj⟩:=zz9 this.1;exact ⟨j,hj,by omega⟩
   have hw0:w.set j 63=l2:=by
    rw[if_pos ⟨by simpa using hb,by omega⟩,hnl,hj] at hl2;exact hl2
   clear f3 hiv hat hst;have f3:=ud p (i+2) (n1:Int) (by omega) (by omega) (by omega);rw[hj] at f3
   replace f3:aS Tryz.prog 121 [enc p,.int .i64 ((i+2:Nat):Int),.int .i64 (n1:Int)] (.int .i64 (j:Int)):=f3
   have hiv:=fun (fs:List I)=>VP (m:=19) (sz:=1) (lo:=0) (l:=n1) (i:=j) (fs:=fs) hjn;rw[zz5] at hiv;have hat:∀ q:List UInt8,lh j [] (some ((w++q).map enc))=some (enc w[j]):=fun q=>by
    have h2:((w++q).map (enc (α:=UInt8)))[j]?=some (enc w[j]):=by
     rw[zx3,zy6 (by omega),zy0 (by omega)];rfl
    simp only[lh,h2,od,pP]
   have hst:∀ (A:ae) (q:List UInt8) (u:UInt8) (rest:List au),eb A none 19 [j] (.agg ((w++q).map enc)) (.int .u8 63) rest (some (enc u))=al rest (A.aQ 19 (.box (.agg ((l2++q).map enc)))):=fun A q u rest=>by
    have:=Zs (A:=A) (n:=19) (i:=j) (xs:=w++q) 63 u (rest:=rest) rfl (by simp;omega);rw[List.set_append_left _ _ (by omega),hw0] at this;exact this
   generalize gI p (i+1) 2=a2 at *;have hw4:IntKind.i64.wrap ((r.bz.length:Int)+(n1:Int))=((r.bz.length+n1:Nat):Int):=by rw[dX _ (by omega) (by omega)];omega
   have hmk:=fun (A:ae) (rest:List au)=>sU (A:=A) (d:=44) (bytes:=1) (z:=.int .u8 0) (rest:=rest) (n:=r.bz.length+n1) (by omega) (by unfold maxLen;omega);have hcp:=fun (A:ae) (rest:List au)=>rR (A:=A) (d:=some 48) (n:=44) (k:=r.bz.length+n1) (m:=n1) (rest:=rest) (a:=r.bz) rfl;have hcv:=fun (q:List UInt8)=>tL l2 q (n:=n1) hl2n.symm;have hsb:=fun (A:ae)=>tK A 44 (r.bz.length+n1) (r.bz++l2) (by simp[hl2n]);have hbs:=rJ (r.bz++l2);have hce:=fun (A:ae)=>tI A r.bz;have hsl:=fun (A:ae)=>Ff (A:=A) (n:=44) (k:=r.bz.length+n1) (i:=r.bz.length) (xs:=r.bz++List.replicate n1 0) (by simp) (by omega);rw[Nat.add_sub_cancel_left] at hsl;have hcb:=fun (A:ae) (rest:List au)=>Ao (A:=A) (d:=some 55) (n:=44) (i:=r.bz.length) (m:=n1) (rest:=rest) (a:=r.bz) (b:=l2) rfl hl2n.symm;have R:=y6 @hg (y6 @hiv (y6 @hat (y6 @hst (y6 @vL (y6 @qp (y6 @tJ (y6 @mj (y6 @tv (y6 @hw1 (y6 @hw2 (y6 @hw3 (y6 @hw4 (y6 @hb (y6 @hnl (y6 @hmk (y6 @hcp (y6 @hcv (y6 @hsb (y6 @hbs (y6 @hce (y6 @hsl (y6 @hcb (y6 @jS (y6 @fk (y6 @lp (y6 @hl (y6 @hss (y6 @hs2 (y6 @br (y6 @sM aF))))))))))))))))))))))))))))))
   repeat' ((first |(with_reducible refine .guard (fun hb =>?_) (fun hb =>?_) <;>try simp only[hb])|(refine U.lJ (gs:=lC) [] [] [0,1,2,3,4,5,6,7,8,9,10,11] (by decide +kernel) (dP.of (by simp[jz])) fun K hK =>?_;simp only[j9,lC,List.getD_cons_zero,List.getD_cons_succ,R,simprocAttr])|refine bM.eO rfl fun m =>?_|refine U.aJ (by decide +kernel) rfl fun K hK =>?_|refine .flat _ (f1) rfl ?_|refine .flat _ (f2) rfl ?_|refine .flat _ (f3) rfl ?_|(refine .aG [0,1,2,3,6,7,8,29] hK ?_;clear hK K)|(with_reducible refine .done (hK _ ?_);clear hK K)|refine U.of rfl ?_|(with_reducible refine az.aI (fun h =>?_) (fun h =>?_) <;>try simp only[h])) <;>try simp only[aK,R,zw0,simprocAttr])
   all_goals clear R
   all_goals rfl
def fA(r:cF)(p:List Int):cF:=⟨lX r.cd p 0,lX r.copy p 3⟩
theorem rq(r:cF)(h:r.small)(p:List Int)(hp:p.length≤100000000000000)(hpi:∀ x∈p,-9223372036854775808≤x∧x≤9223372036854775807):aS Tryz.prog 22 [enc r,enc p] (enc (fA r p)):=by
 refine aS.bS Tryz.func22 Iw JE KT (t8 rfl) (fun hwf W0 bL E1 =>?_);simp only[zu,DM,bH,zz5];clear hwf;have f1:=yj r.cd h.1 p 0 (by omega) hp hpi;have f2:=yj r.copy h.2 p 3 (by omega) hp hpi
 replace f1:aS Tryz.prog 75 [enc r.cd,enc p,.int .i64 0] (enc (lX r.cd p 0)):=f1
 replace f2:aS Tryz.prog 75 [enc r.copy,enc p,.int .i64 3] (enc (lX r.copy p 3)):=f2
 simp only[fA];generalize lX r.cd p 0=a at *;generalize lX r.copy p 3=b at *;have R:=y6 @lp (y6 @jS (y6 @mS (y6 @AK (y6 @fk aF))))
 repeat' ((first |refine U.aJ (by decide +kernel) rfl fun K hK =>?_|refine .flat _ (f1) rfl ?_|refine .flat _ (f2) rfl ?_|(refine .aG [0,1,2,4] hK ?_;clear hK K)|(with_reducible refine .done (hK _ ?_);clear hK K)|refine U.of rfl ?_|(with_reducible refine az.aI (fun h =>?_) (fun h =>?_) <;>try simp only[h])) <;>try simp only[aK,R,simprocAttr])
 all_goals clear R
 all_goals rfl
def iU:ai:=⟨2,0,5,10,12,0,0,[97]⟩
def je:List UInt8:=[51,55,52,56,51,55,32,50,32,48,32,53,32,49,48,32,49,50,32,48,32,48,32,97,10]
def cW:cF:=⟨⟨[],je⟩,⟨[],[]⟩⟩
theorem MD:kI 1 iU=(je,374837,0):=by decide +kernel
theorem MG:kO 1 je=(iU,374837,0):=by decide +kernel
theorem MI:nU iV [] [] iU=(cW,[iU],0):=by decide +kernel
theorem ME:(jJ (fA cW [])).2=[]:=by decide +kernel
theorem MF:(jJ (fA cW [25,0,0])).2=[iU]:=by decide +kernel
theorem MH:(jJ (fA cW [25,1,3])).2=[]:=by decide +kernel
theorem MC:jJ (mO (lR cW) false)=(⟨⟨je,[]⟩,⟨je,[]⟩⟩,[iU]):=by decide +kernel
theorem mL:je.length=25:=rfl
theorem GI:je.drop 7=[50,32,48,32,53,32,49,48,32,49,50,32,48,32,48,32,97,10]:=rfl
theorem Mr:I.agg [.agg [.int .i64 2,.int .i64 0],.int .i64 5,.int .i64 10,.int .i64 12,.agg [.int .i64 0,.int .i64 0],.ak ⟨#[97]⟩]=enc iU:=rfl
theorem xH(p:List Int):(fA cW p).small:=by
 refine ⟨⟨?_,?_⟩,⟨?_,?_⟩⟩ <;>simp[fA,lX,xJ,tG,gG,cW,mL] <;>omega
theorem Gc:aS Tryz.prog 14 [] (enc true):=by
 refine aS.bS Tryz.func14 Ig Jr KG (t8 rfl) (fun hwf W0 bL E1 =>?_);simp only[zi,Dy,bH];clear hwf;have f29:=Gm 1 iU;rw[MD] at f29;have f31:=Gn 1 je (by rw[mL];omega);rw[MG] at f31;have f35:=yg iV ⟨⟨by decide,by decide⟩,⟨by decide,by decide⟩⟩ [] [] (by decide) (by decide) (fun _=>yn) iU;rw[MI] at f35;have h0:cW.small:=by refine ⟨⟨?_,?_⟩,⟨?_,?_⟩⟩ <;>simp[cW,mL]
 have t1:=rq cW h0 [] (by simp) (by simp);have t2:=rq cW h0 [25,0,0] (by simp) (by simp);have t3:=rq cW h0 [25,1,3] (by simp) (by simp);have o1:=nZ _ (xH []);have o2:=nZ _ (xH [25,0,0]);have o3:=nZ _ (xH [25,1,3]);have f20:=yd cW h0;have f24:=yf (lR cW) false;have o4:=nZ (mO (lR cW) false) (by refine ⟨⟨?_,?_⟩,⟨?_,?_⟩⟩ <;>simp[lR,mO,cW,dp.all,mL]);rw[ME] at o1;rw[MF] at o2;rw[MH] at o3;rw[MC] at o4;generalize fA cW []=T1 at *;generalize fA cW [25,0,0]=T2 at *;generalize fA cW [25,1,3]=T3 at *;generalize lR cW=T4 at *;generalize mO T4 false=T5 at *;generalize (jJ T1).1=U1 at *;generalize (jJ T2).1=U2 at *;generalize (jJ T3).1=U3 at *
 dsimp only at f29 f31 f35 o4
 have hl:mg (enc (ar.of je))=some (.int .i64 25):=by rw[pn,mL];rfl
 have hww:cW.cd.cX=je:=rfl;have hl2:(((ar.of je).l.length:Nat):Int)=25:=by rw[ar.dQ,mL];rfl
 have hd1:decide (cW.copy=(⟨[],[]⟩:dp))=true:=rfl;have hw7:IntKind.i64.wrap 7=7:=by decide
 have hl1:(((([iU]:List ai).length:Nat):Int)==1)=true:=rfl;have hn0:(((([]:List ai).length:Nat):Int)==0)=true:=rfl;have hse:bG .eql (enc (ar.of [50,32,48,32,53,32,49,48,32,49,50,32,48,32,48,32,97,10])) (.ak ⟨#[50,32,48,32,53,32,49,48,32,49,50,32,48,32,48,32,97,10]⟩)=some (.bool true):=by
  show bG .eql (enc (ar.of _)) (enc (ar.of [50,32,48,32,53,32,49,48,32,49,50,32,48,32,48,32,97,10]))=_
  rw[lP];simp
 have hp1:eT [.int .i64 0,.int .i64 0] [(0,.int .i64 2)]=some [.int .i64 2,.int .i64 0]:=rfl;have hp2:eT [.agg [.int .i64 0,.int .i64 0],.int .i64 0,.int .i64 0,.int .i64 0,.agg [.int .i64 0,.int .i64 0],.ak ⟨#[]⟩] [(0,.agg [.int .i64 2,.int .i64 0]),(1,.int .i64 5),(2,.int .i64 10),(3,.int .i64 12),(5,.ak ⟨#[97]⟩)]=some [.agg [.int .i64 2,.int .i64 0],.int .i64 5,.int .i64 10,.int .i64 12,.agg [.int .i64 0,.int .i64 0],.ak ⟨#[97]⟩]:=rfl;have hb2:gu 1 (some [.int .i64 25,.int .i64 0,.int .i64 0])=some (enc ([25,0,0]:List Int)):=rfl;have hb3:gu 1 (some [.int .i64 25,.int .i64 1,.int .i64 3])=some (enc ([25,1,3]:List Int)):=rfl;have hs:=xg (ar.of je) (i:=7) (by rw[ar.dQ,mL];omega);rw[ar.dQ,GI] at hs
 replace hs:eF (.ss true false) [enc (ar.of je),.int .i64 7]=some (enc (ar.of [50,32,48,32,53,32,49,48,32,49,50,32,48,32,48,32,97,10])):=hs
 have R:=y6 @hw7 (y6 @hl1 (y6 @hn0 (y6 @hse (y6 @hww (y6 @hl2 (y6 @hd1 (y6 @hl (y6 @hb2 (y6 @hb3 (y6 @hs (y6 @hp1 (y6 @hp2 (y6 @lP (y6 @Mr (y6 @ff (y6 @fj (y6 @AK (y6 @jS (y6 @mS (y6 @fk (y6 @lp (y6 @br aF))))))))))))))))))))))
 repeat' ((first |(with_reducible refine .guard (fun hb =>?_) (fun hb =>?_) <;>try simp only[hb])|refine U.aJ (by decide +kernel) rfl fun K hK =>?_|refine .flat _ (f29) rfl ?_|refine .flat _ (f31) rfl ?_|refine .flat _ (f35) rfl ?_|refine .flat _ (t1) rfl ?_|refine .flat _ (o1) rfl ?_|refine .flat _ (t2) rfl ?_|refine .flat _ (o2) rfl ?_|refine .flat _ (t3) rfl ?_|refine .flat _ (o3) rfl ?_|refine .flat _ (f20) rfl ?_|refine .flat _ (f24) rfl ?_|refine .flat _ (o4) rfl ?_|refine .lead _ (f35) ?_|refine .lead _ (o1) ?_|refine .lead _ (o2) ?_|refine .lead _ (o3) ?_|refine .lead _ (o4) ?_|(refine .aG [0,1,2,3,4,5,6,7,8,9,10,12,14,16,17,18,19,20] hK ?_;clear hK K)|(with_reducible refine .done (hK _ ?_);clear hK K)|refine U.of rfl ?_|(with_reducible refine az.aI (fun h =>?_) (fun h =>?_) <;>try simp only[h])) <;>try simp only[aK,R,eq_self,decide_true,simprocAttr])
 all_goals clear R
 all_goals rfl
end Go.Proofs.YtoffnnjbplgnaaaGreatDoor
namespace Go.Proofs.YtoffnnjbplgnaaaGreatDoor
open Go Go.Abs Go.Shelf Go.RowKit Go.Sort Go.Proofs
open Go.Abs.Enc (enc)
theorem Kp(a b:Item)(W:World):Calls Tryz.prog 140 #[.agg #[.int .i64 a.aO,.int .i64 a.no],.agg #[.int .i64 b.aO,.int .i64 b.no]] W fun e w'=>e=.returned (.int .i64 (gK a b))∧∃ q os',w'=grow (W.drewN q) os':=by
 go_enter Tryz.func140,Tryz.ntmps140
 obtain ⟨c1,hc1⟩:∃ c1,c1=Obj.cells #[Value.int .i64 a.aO,.int .i64 a.no] 48:=⟨_,rfl⟩
 obtain ⟨c2,hc2⟩:∃ c2,c2=Obj.cells #[Value.int .i64 b.aO,.int .i64 b.no] 48:=⟨_,rfl⟩
 go_wp2
 rw[←hc1,←hc2];obtain ⟨W2,hW2⟩:∃ W2,W2=((W.alloc c1).alloc c2):=⟨_,rfl⟩
 have e1:W2.heap[W.heap.size]?=some c1:=by rw[hW2,heap_alloc_old _ _ (by simp),heap_alloc_new]
 have e2:W2.heap[W.heap.size+1]?=some c2:=by
  have:=heap_alloc_new (W.alloc c1) c2;rw[World.size_alloc] at this;rw[hW2];exact this
 have k1:W2.cell? ⟨W.heap.size,0,none⟩=some (.int .i64 a.aO):=by simp[World.cell?,e1,hc1]
 have k2:W2.cell? ⟨W.heap.size,1,none⟩=some (.int .i64 a.no):=by simp[World.cell?,e1,hc1]
 have k3:W2.cell? ⟨W.heap.size+1,0,none⟩=some (.int .i64 b.aO):=by simp[World.cell?,e2,hc2]
 have k4:W2.cell? ⟨W.heap.size+1,1,none⟩=some (.int .i64 b.no):=by simp[World.cell?,e2,hc2]
 rw[←hW2];have d1:W2.drew.cell? ⟨W.heap.size,0,none⟩=some (.int .i64 a.aO):=k1;have d2:W2.drew.cell? ⟨W.heap.size,1,none⟩=some (.int .i64 a.no):=k2;have d3:W2.drew.cell? ⟨W.heap.size+1,0,none⟩=some (.int .i64 b.aO):=k3;have d4:W2.drew.cell? ⟨W.heap.size+1,1,none⟩=some (.int .i64 b.no):=k4;have hgr:∃ os,grow W os=W2:=⟨#[c1,c2],by rw[hW2,alloc_eq_grow,alloc_eq_grow,grow_grow];rfl⟩
 clear hc1 hc2 hW2 e1 e2;generalize W.heap.size=S at *;obtain ⟨r,hr⟩:∃ r,gK a b=r:=⟨_,rfl⟩
 have h160:Calls Tryz.prog 160 #[.slice (some ⟨W2.heap.size,0,none⟩) 2 2] ((W2.drew).alloc (Obj.cells #[.int .i64 (eL a.aO b.aO),.int .i64 (eL a.no b.no)] 3)) fun e w'=>e=.returned (.int .i64 r)∧w'=(W2.drew).alloc (Obj.cells #[.int .i64 (eL a.aO b.aO),.int .i64 (eL a.no b.no)] 3):=by
  rw[←hr];exact XX _ _ _ W2.heap.size (heap_alloc_new W2.drew _)
 refine wp_region_still_tail 10 (by kernel_rfl) (by kernel_rfl) ?_
 change wpStill _ _ W2.drew _ _ _
 simp only[List.take_succ_cons,List.take_zero,List.drop_succ_cons,List.drop_zero]
 repeat (first | still_step | still_call (Kn _ _ _))
 refine wpStill_nil ?_
 change wpList _ _ _ _ _ W2.drew
 go_wp2_with (go_at_call 160;refine h160.mono ?_;rintro e w' ⟨rfl,rfl⟩)
 go_ret
 refine ⟨by rw[hr];rfl,?_⟩;obtain ⟨os,hos⟩:=hgr;exact ⟨1,os ++ #[Obj.cells #[.int .i64 (eL a.aO b.aO),.int .i64 (eL a.no b.no)] 3],by rw[←hos,alloc_eq_grow,←grow_grow];rfl⟩
theorem VB(W:World)(o1 o2:Obj)(q:Nat)(os:Array Obj):grow (((W.alloc o1).alloc o2).drewN q) os=grow (W.drewN q) ((#[o1] ++ #[o2])++os):=by
 rw[alloc_eq_grow,alloc_eq_grow,grow_grow]
 show grow (grow (W.drewN q) (#[o1] ++ #[o2])) os=_
 rw[grow_grow]
theorem Kj(x y:ai)(W:World):Calls Tryz.prog 142 #[.agg (cP x).toArray,.agg (cP y).toArray] W fun e w'=>e=.returned (.int .i64 (gK x.bp y.bp))∧∃ q os',w'=grow (W.drewN q) os':=by
 have hcon:=fun W'=>Kp x.bp y.bp W';simp only[ai.bp] at hcon ⊢;simp only[cP];generalize gK ⟨x.aO,x.no⟩ ⟨y.aO,y.no⟩=r at hcon ⊢
 go_enter Tryz.func142,Tryz.ntmps142
 go_wp2_with (go_at_call 140;refine (hcon _).mono ?_;rintro e w' ⟨rfl,q,os',rfl⟩)
 go_ret
 exact ⟨rfl,q,_,VB _ _ _ _ _⟩
theorem Km(aB off size:Nat)(w:World):CmpLays Tryz.prog 142 #[] cP 8 (fun x y=>gK x.bp y.bp) aB off size w:=fun _ _ _ _ x y=>Kj x y _
theorem sK(x y:ai):ltOf (fun x y:ai=>gK x.bp y.bp) x y=dq x y:=by
 show decide (gK x.bp y.bp<0)=_
 rw[Am];rfl
theorem Zy:SWO (ltOf fun x y:ai=>gK x.bp y.bp) where
 irrefl x:=by rw[sK];simp[dq]
 trans x y z h1 h2:=by rw[sK] at *;exact yM h1 h2
 ntrans x y z h1 h2:=by
  rw[sK] at *;simp only[dq,decide_eq_false_iff_not] at *;omega
theorem mQ(x:ai):(cP x).length=8:=rfl
theorem J9(x:ai):∀ v∈cP x,v.oneCell'=true:=by
 intro v ab;simp only[cP,zy8,List.not_mem_nil,or_false] at ab;rcases ab with rfl | rfl | rfl | rfl | rfl | rfl | rfl | rfl <;>rfl
theorem Er{w:World}{D:aH}{E:aN} : ∀ {xs:List ai} {cs:List Value},aA w D E (xs.map enc) cs→cs=xs.flatMap cP∧∀ x∈xs,af w D E (enc x) (cP x)
 | [],cs,h=>by
  simp only[zy5,aA] at h;subst h;exact ⟨rfl,by simp⟩
 |x::xs,cs,h=>by
  simp only[zz1,aA] at h;obtain ⟨c1,c2,rfl,h1,h2⟩:=h;obtain ⟨rfl,h3⟩:=Er h2;have e:=En h1;subst e;refine ⟨rfl,fun y hy =>?_⟩;rcases zy8.1 hy with rfl | hy
  ·exact h1
  ·exact h3 y hy
theorem Ep{w:World}{D:aH}{E:aN} : ∀ {xs:List ai},(∀ x∈xs,af w D E (enc x) (cP x))→aA w D E (xs.map enc) (xs.flatMap cP)
 | [],_=>rfl
 |x::xs,h=>by
  simp only[zz1,aA,List.flatMap_cons];exact ⟨_,_,rfl,h x (by simp),Ep fun y hy=>h y (by simp[hy])⟩
theorem Be:∀ (l:List ai) (i j:Nat) (hi:i<l.length),j<8→(l.flatMap cP)[i*8+j]?=(cP l[i])[j]?
 |x::l,0,j,_,hj=>by
  rw[List.flatMap_cons,zy6 (by rw[mQ];omega)];simp
 |x::l,i+1,j,hi,hj=>by
  rw[List.flatMap_cons,zw3 (by rw[mQ];omega),mQ,show (i+1)*8+j-8=i*8+j from by omega];rw[Be l i j (by simpa using hi) hj];simp
theorem kH(l:List ai):(l.flatMap cP).length=l.length*8:=by
 induction l with
 |nil=>rfl
 |cons x l ih=>rw[List.flatMap_cons,Z8,ih,mQ,zx7];omega
theorem Bd(l:List ai):(flatK cP 8 l.toArray).toList=l.flatMap cP:=by
 apply List.ext_getElem?;intro t;by_cases ht:t<l.length*8
 ·have h1:=get_flatK cP 8 l.toArray t (by simpa using ht);have hi:t / 8<l.length:=by omega
  have h2:=Be l (t / 8) (t%8) hi (Nat.mod_lt _ (by decide));rw[show t / 8*8+t%8=t from by omega] at h2;have h3:t<(flatK cP 8 l.toArray).size:=by simpa using ht
  rw[h2,zx0,zw7 h3];rw[getElem!_pos _ t h3] at h1;rw[h1,getElem!_pos l.toArray (t / 8) (by simpa using hi),getElem!_pos _ (t%8) (by rw[mQ];omega),zy0 (by rw[mQ];omega)];rfl
 ·rw[zx0,Array.getElem?_eq_none (by simp;omega),List.getElem?_eq_none (by rw[kH];omega)]
theorem Yo{xs ys q:List ai}(hl:ys.length=xs.length){cs:Array Value}(hc:cs.toList=(xs++q).flatMap cP):(Sort.putCells id 0 (flatK cP 8 ys.toArray) cs).toList=(ys++q).flatMap cP:=by
 apply List.ext_getElem?;intro k;have hcl:=congrArg List.length hc;rw[kH,Z8,zx6] at hcl;have h1:cs[k]?=((xs++q).flatMap cP)[k]?:=by rw[←hc,zx0]
 rw[zx0,Sort.putCells,Array.getElem?_mapIdx,h1];simp only[size_flatK,List.size_toArray,zv0,true_and,zz5,Nat.sub_zero,List.flatMap_append];by_cases hk:k<ys.length*8
 ·simp only[hk,if_true];rw[zy6 (by rw[kH];omega),zy6 (by rw[kH];omega),zy0 (by rw[kH];omega)];have h2:(flatK cP 8 ys.toArray)[k]?=(ys.flatMap cP)[k]?:=by rw[←Bd,zx0]
  have h3:k<(flatK cP 8 ys.toArray).size:=by simpa using hk
  rw[←h2,zw7 h3];simp only[zz7,id];rw[getElem!_pos _ k h3]
 ·simp only[hk,if_false];rw[zw3 (by rw[kH];omega),zw3 (by rw[kH];omega),kH,kH,hl];cases ((q.flatMap cP)[k-xs.length*8]?) <;>rfl
def kR(n:Nat)(ws:List ai):List (Nat×aj):=[(n,.box (.agg (ws.map enc)))]
def Fo(l q:List ai):b9:=fun r os'=>r=.tuple []∧os'=kR 1000000 (dw l++q)
theorem Yu(x:ai):(enc x:I).flat=true:=rfl
theorem Ge(l q:List ai)(hne:l≠[])(hn:l.length≤1000)(hp:l.Pairwise (fun x y=>¬ (x.aO=y.aO∧x.no=y.no))):eW Tryz.prog 141 [.view 1000000 [] 8 0 l.length,.func 142 []] (kR 1000000 (l++q)) (Fo l q):=by
 refine ⟨Ii,fun w D E vs _ hD hO ab =>?_⟩;have ho:=hO.bD 1000000;simp only[kR,aD,if_true] at ho;obtain ⟨b,cs,T,aq,-,hb0,hr,hnD⟩:=ho;have hne2:l++q≠[]:=by intro h;exact hne (List.append_eq_nil_iff.1 h).1
 have hb:=hb0.plain (Bf hne2 rfl);have hEn:∀ n,n≠1000000→E n=none:=fun n hn=>by
  have:=hO.bD n;simpa only[kR,aD,if_neg hn,c6] using this
 simp only[ao] at ab;obtain ⟨v,rest,cs',rfl,hpk,hr',f,rest2,cs2,rfl,hp2,hr2,rfl⟩:=ab;obtain ⟨b',aL,off,l',hE',hoff,hpart,rfl,hl1,hl2,hl3⟩:=hr';rw[aq] at hE';simp only[v6,bw.aE.injEq] at hE';obtain ⟨rfl,rfl⟩:=hE';have hoff':off=0:=by
  have:(some 0:Option Nat)=some off:=by rw[←hoff];rfl
  injection this with this;exact this.symm
 subst hoff';have hp':v=.slice (some ⟨b,0,none⟩) l.length (l'.length-0):=by
  have:[Value.slice (some ⟨b,0+0*8,none⟩) l.length (l'.length-0)]=[v]:=hpk;simpa using this.symm
 subst hp';have hf:f=.func (.func 142) #[] #[]:=by
  simp only[af] at hr2;obtain ⟨vs2,e2,e3⟩:=hr2;have h3:cs2=[f]:=hp2;rw[e2] at h3;simp only[ao] at e3;subst e3;have:=h3.symm;simp only[zy7,and_true] at this;rw[this];rfl
 subst hf;obtain ⟨hcs,hrg⟩:=Er (xs:=l++q) hr;have hbs:b<w.heap.size:=hb0.lt;have hfl:=Bd l;have hH:HoldsK cP 8 w b 0 l.toArray:=fun j hj=>by
  have hj':j<l.length*8:=by simpa using hj
  constructor
  ·simp only[World.cell?,hb,Option.isSome_none,zz3,if_false,zz5];rw[←zx0,hcs,List.flatMap_append,zy6 (by rw[kH];exact hj'),←hfl,zx0,zw7 hj,getElem!_pos _ j hj];rfl
  ·simp[World.frozen?,hb]
 have eg:∀ args w,(callFunc 142 args).run Tryz.prog w=.ok (.enter 142 args) w:=enters_of Tryz.func142 (by kernel_rfl) rfl;refine (AnyQ.slices_SortFunc (P:=Tryz.prog) (ρ:=vS) Cb 8 Tryz.isAgg50 Tryz.sizeOf50 cP mQ J9 (fun x y=>gK x.bp y.bp) Zy 142 #[] b 0 (l'.length-0) l.toArray w eg (Km b 0 _ w) hH hbs (by simp;omega)).mono ?_;rintro e w' ⟨rfl,d',n,os,hperm,hsort,rfl⟩;obtain ⟨s,rfl⟩:∃ s:List ai,d'=s.toArray:=⟨d'.toList,by simp⟩
 have hlen:s.length=l.length:=by simpa using hperm.1
 have hps:s.Perm l:=by
  have:=hperm.2.2;simp only[List.size_toArray,Array.toList_extract,List.extract_eq_take_drop,List.drop_zero,Nat.sub_zero] at this;rw[zw4 (by omega),zw4 (by omega)] at this;exact this
 have hss:s.Pairwise (fun x y=>dq x y=true):=by
  rw[List.pairwise_iff_getElem];intro i j hi hj hij;have h1:=hsort i j (zv0 _) hij (by simp;omega);rw[sK,getElem!_pos _ j (by simpa using hj),getElem!_pos _ i (by simpa using hi)] at h1;have h2:=List.pairwise_iff_getElem.1 ((List.Perm.pairwise_iff (R:=fun x y:ai=>¬ (x.aO=y.aO∧x.no=y.no)) (fun h k=>h ⟨k.1.symm,k.2.symm⟩) hps).2 hp) i j hi hj hij;simp only[List.getElem_toArray] at h1;simp only[dq,decide_eq_false_iff_not,decide_eq_true_eq] at h1 ⊢;omega
 have hst:=Zn hp hps hss;subst hst;have hsz8:(flatK cP 8 (dw l).toArray).size=(dw l).length*8:=by simp
 have hb1:(putRowK cP 8 (Sort.ahead w n) b 0 (dw l).toArray).heap[b]?=some (.cells (putCells id 0 (flatK cP 8 (dw l).toArray) cs) T (0,0)):=by
  simp[putRowK,putRow,mapBlock,Sort.ahead,Array.getElem?_modify,hb,onCells]
 have hother:∀ k,k<w.heap.size→k≠b→(sortWorldK cP 8 w b 0 n (dw l).toArray os).heap[k]?=w.heap[k]?:=fun k hk hkb=>by
  rw[sortWorldK,heap_grow_old _ _ (by simpa[putRowK,putRow,mapBlock,Sort.ahead] using hk)];simp[putRowK,putRow,mapBlock,Sort.ahead,Array.getElem?_modify,Ne.symm hkb]
 have hb2:(sortWorldK cP 8 w b 0 n (dw l).toArray os).heap[b]?=some (.cells (putCells id 0 (flatK cP 8 (dw l).toArray) cs) T (0,0)):=by
  rw[sortWorldK,heap_grow_old _ _ (by simpa[putRowK,putRow,mapBlock,Sort.ahead] using hbs)];exact hb1
 have hsz:w.heap.size≤(sortWorldK cP 8 w b 0 n (dw l).toArray os).heap.size:=by simp[sortWorldK,putRowK,putRow,mapBlock,Sort.ahead]
 have hw1:(sortWorldK cP 8 w b 0 n (dw l).toArray os).os=w.os:=rfl;have hw2:(sortWorldK cP 8 w b 0 n (dw l).toArray os).tape=w.tape:=rfl;have hw3:(sortWorldK cP 8 w b 0 n (dw l).toArray os).output=w.output:=rfl;revert hother hb2 hsz hw1 hw2 hw3;generalize sortWorldK cP 8 w b 0 n (dw l).toArray os=w2;intro hother hb2 hsz hw1 hw2 hw3;have hmem:∀ x∈dw l++q,af w2 D E (enc x) (cP x):=fun x hx=>af.flat _ _ (Yu x) (hrg x (by
  rcases zy2.1 hx with h | h
  ·exact List.mem_append_left _ (hps.mem_iff.1 h)
  ·exact List.mem_append_right _ h))
 refine ⟨.tuple #[],D,E,.tuple [],kR 1000000 (dw l++q),rfl,⟨rfl,rfl⟩,⟨[],rfl,rfl⟩,⟨fun m =>?_,hO.cD⟩,⟨hw1,hw2,hw3,hsz,fun k hk =>?_⟩,fun _ _ h=>h,fun b0 o h=>zw9 (hD b0 o h) hsz,fun _ _ h _ _=>h,fun m e h _=>⟨e,h,bw.eD.refl e⟩,⟨fun b0 o u hd hc =>?_,fun b0 es ck hd hc =>?_⟩⟩
 ·by_cases hm:m=1000000
  ·subst hm;simp only[kR,aD,if_true];refine ⟨b,_,T,?_,.inr ⟨1000000,_,aq,rfl⟩,.CC hb2,?_,hnD⟩
   ·rw[aq]
    congr 2
    show bP.eE (I.cJ _)=bP.eE (I.cJ _)
    rw[xm (xs:=l++q) (ys:=dw l++q) (by rw[Z8,Z8,hlen])]
   ·show aA w2 D E _ _
    rw[Yo hlen hcs];exact Ep hmem
  ·simp only[kR,aD,if_neg hm,c6];exact hEn m hm
 ·by_cases hk2:k<w.heap.size
  ·exact hother k hk2 fun e=>hk (.inr ⟨1000000,_,aq,by rw[e];rfl⟩)
  ·exact absurd (.inl (Nat.le_of_not_lt hk2)) hk
 ·have hne:b0≠b:=fun e=>hnD o (e▸hd);simp only[World.cell?,hother b0 (hD b0 o hd) hne] at hc ⊢;exact hc
 ·have hne:b0≠b:=fun e=>hnD 0 (e▸hd);rw[hother b0 (hD b0 0 hd) hne];exact hc
end Go.Proofs.YtoffnnjbplgnaaaGreatDoor
namespace Go.Proofs.YtoffnnjbplgnaaaGreatDoor
open Go Go.Abs
open Go.Abs.Enc (enc)
theorem De(r:ai):∀ l:List ai,∃ n,n≤l.length∧fU l r=l.take n++r::l.drop n∧(∀ i (h:i<l.length),i<n→dq l[i] r=true)∧∀ h:n<l.length,dq l[n] r=false
 | []=>⟨0,by simp,by simp[fU],by simp,by simp⟩
 |q::l=>by
  cases h:dq q r
  ·refine ⟨0,by simp,by simp[fU,h],fun i _ hi=>by omega,fun _=>by simpa using h⟩
  ·obtain ⟨n,h1,h2,h3,h4⟩:=De r l;refine ⟨n+1,by simpa using h1,?_,fun i hi hn =>?_,fun hn =>?_⟩
   ·simp only[fU,List.takeWhile_cons,List.dropWhile_cons,h,if_true,zz8,List.take_succ_cons,List.drop_succ_cons] at h2 ⊢;rw[h2]
   ·match i with
    |0=>exact h
    |i+1=>exact h3 i (by simpa using hi) (by omega)
   ·exact h4 (by simpa using hn)
theorem Zl(l:List ai)(r:ai):dw (l++[r])=fU (dw l) r:=by simp[dw]
theorem Yk(l:List ai)(r:ai):(fU l r).length=l.length+1:=by
 have:=(wO l r).length_eq;simpa using this
theorem Fq:∀ (l:List ai),(dw l).length=l.length:=by
 have:∀ (l out:List ai),(l.foldl fU out).length=out.length+l.length:=by
  intro l
  induction l with
  |nil=>simp
  |cons r l ih=>intro out;rw[List.foldl_cons,ih,Yk,zx7];omega
 intro l;rw[dw,this];simp
def uH(l:List ai):Bool:=decide (l.length≤60)&&e9 (fun out r=>bh r&&lW out r) [] l
theorem HN(l:List ai):kp l=uH l:=by
 rw[kp,uH,Bool.and_comm]
 congr 1
 rw[Bool.eq_iff_iff,pK,pK];constructor
 ·rintro ⟨h1,h2⟩;exact ⟨h1,by rw[←yR fun r hr=>wB (h1 r hr)];exact h2⟩
 ·rintro ⟨h1,h2⟩;exact ⟨h1,by rw[yR fun r hr=>wB (h1 r hr)];exact h2⟩
theorem Gz(l:List ai)(hl:l.length≤900)(hp:l.Pairwise (fun x y=>¬ (x.aO=y.aO∧x.no=y.no))):aS Tryz.prog 95 [enc l] (enc (⟨dw l⟩:jb)):=by
 by_cases hn0:l=[]
 ·subst hn0;exact yn
 refine aS.bS Tryz.func95 Aa Ag Ar (t8 rfl) (fun hwf W0 bL E1 =>?_);simp only[uM,wR,bH];clear hwf;have hsl:(dw l).length=l.length:=(tH hp).1.length_eq;have R:=y6 @im aF
 repeat' ((first |refine U.aJ (by decide +kernel) rfl fun K hK =>?_|(refine .aG [0,2,3] hK ?_;clear hK K)|(with_reducible refine .done (hK _ ?_);clear hK K)|refine U.of rfl ?_|(with_reducible refine az.aI (fun h =>?_) (fun h =>?_) <;>try simp only[h])) <;>try simp only[aK,R,simprocAttr])
 all_goals clear R
 refine .bD false [(7,64)] [] [enc l] (pV l) rfl (ug l (by omega)) eX.nil ⟨.inl ⟨(iQ _ _).symm,bu _ _,eQ _⟩,trivial⟩ ?_ ?_
 ·rintro x os' (⟨h,_⟩ | ⟨_,k,rfl,rfl⟩)
  ·exact absurd h hn0
  ·exact dL.sV (fun p=>fF p _) (fun h=>by cases h) rfl (fun h=>by cases h) rfl (by decide)
 rintro x os' (⟨h,_⟩ | ⟨hn,k,rfl,rfl⟩)
 ·exact absurd h hn0
 try simp only[eZ,kP,kQ,zz8,zy3,bd,simprocAttr]
 refine .done (hK _ ?_);clear hK K;refine .dV (by decide +kernel) fun K hK =>?_;simp only[BA,bd,simprocAttr];refine .bD false [(1000000,64)] (kR 1000000 (l++List.replicate k cB)) [.view 1000000 [] 8 0 l.length,.func 142 []] (Fo l (List.replicate k cB)) rfl (Ge l _ hn0 (by omega) hp) ⟨?_,?_⟩ ⟨.inl ⟨?_,?_,rfl⟩,.inl ⟨rfl,rfl,rfl⟩,trivial⟩ ?_ ?_
 ·intro n x h;simp only[kR,aD] at h;split at h
  ·rename_i hn';subst hn';simp only[v6] at h;subst h;exact ⟨by simp only[kP,kQ,bd,simprocAttr],fF _ _,rfl⟩
  ·cases h
 ·intro a b ha hb _;rw[Go.Abs.gh.1 ha,Go.Abs.gh.1 hb]
 ·try simp only[kP,simprocAttr]
 ·exact Go.Abs.gh.2 rfl
 ·rintro x os' ⟨rfl,rfl⟩;exact dL.mn (fun p=>fF p _) (fun h=>by cases h) rfl (fun h=>by cases h)
 rintro x os' ⟨rfl,rfl⟩
 try simp only[kR,kP,kQ,zz8,zy3,bd,simprocAttr]
 refine .done (hK _ ?_);clear hK K;have hf:jU 8 0 l.length (some ((dw l++List.replicate k cB).map enc))=some (enc (dw l)):=by
  rw[oA (α:=ai) (sz:=8) rfl,←hsl,xF]
 have R:=y6 @hf (y6 @im aF)
 repeat' ((first |refine U.aJ (by decide +kernel) rfl fun K hK =>?_|(refine .aG [0,2,3] hK ?_;clear hK K)|(with_reducible refine .done (hK _ ?_);clear hK K)|refine U.of rfl ?_|(with_reducible refine az.aI (fun h =>?_) (fun h =>?_) <;>try simp only[h])) <;>try simp only[aK,R,simprocAttr])
 all_goals clear R
 all_goals rfl
theorem Zp{l s:List ai}(hw:dC [] l=true)(p:s.Perm l)(hs:mM s):kp s=true:=by
 have hW:=(nV l []).1 hw;obtain ⟨h1,h2⟩:=Zo hW p hs;rw[HN,uH,Z7,decide_eq_true_eq,pK];exact ⟨h2,fun r hr=>tX hw r (p.mem_iff.1 hr),h1⟩
theorem Ym(l:List ai)(x:ai):fU l x=fN l (fu l x.bp) x:=by
 obtain ⟨n,h1,h2,h3,h4⟩:=De x l;have:fu l x.bp=n:=wL h1 (fun k hk hkn=>h3 k hk hkn) fun h=>h4 h;rw[h2,this,fN]
theorem xQ{l:List ai}(h:dC [] l=true):l.Pairwise (fun x y=>¬ (x.aO=y.aO∧x.no=y.no)):=by
 have:=cY.inj gX.nil ((nV l []).1 h) List.Pairwise.nil;simpa using this
def Fs(l:List ai):List ai×Int:=if dC [] l=true then (dw l,0) else ([],81)
theorem jH(a:Int){n:Int}(hn:0<n∧n≤4611686018427387904):0≤bQ a n∧bQ a n<n:=by
 have h1:-n<a.tmod n∧a.tmod n<n:=⟨Int.lt_tmod_of_pos a hn.1,Int.tmod_lt_of_pos a hn.1⟩
 rw[bQ,dX _ (by omega) (by omega)];exact ⟨Int.tmod_nonneg _ (by omega),Int.tmod_lt_of_pos _ hn.1⟩
def pt:List (List UInt8):=[[],[97],[98,101,97,115,116,32,49,55],[48,32,48,32,49,32,48,32,48,32,48],[32],[97,32,116,101,120,116,32,111,102,32,97,32,108,101,110,103,116,104,32,116,104,97,116,32,116,101,97,114,115,32,105,110,32,105,116,115,32,109,105,100,115,116]]
def pq(k:Int):List UInt8:=pt.getD k.toNat []
abbrev en:=ef 5 Int
def fw(l:List ai)(n:en):ai :=
 if bQ (n.g 1) 6=0∧0<cG l (bQ (n.g 0) 3) then ⟨bQ (n.g 0) 3,cG l (bQ (n.g 0) 3),0,0,bQ (n.g 3) 50,bQ (n.g 0) 3,bQ (n.g 2) (cG l (bQ (n.g 0) 3)),[]⟩
 else ⟨bQ (n.g 0) 3,cG l (bQ (n.g 0) 3),if bQ (n.g 1) 6=0 then 7 else bQ (n.g 1) 6,bQ (n.g 2) 50,bQ (n.g 3) 50,0,0,pq (bQ (n.g 4) 6)⟩
theorem VE{A:ae}{m:Nat}{a b c d e:Int}(h:A.o m=some (.box (.agg [.int .i64 a,.int .i64 b,.int .i64 c,.int .i64 d,.int .i64 e]))):gf A 5 1 0 (.ptr m [])=some (.ptr m [0])∧gf A 5 1 1 (.ptr m [])=some (.ptr m [1])∧gf A 5 1 2 (.ptr m [])=some (.ptr m [2])∧gf A 5 1 3 (.ptr m [])=some (.ptr m [3])∧gf A 5 1 4 (.ptr m [])=some (.ptr m [4]):=by
 refine ⟨?_,?_,?_,?_,?_⟩ <;>simp[gf,mU,hG,iv,dN,ev,I.dh,h,pP,gz,I.size]
theorem xM(a b c d e:Int):(I.agg [.int .i64 a,.int .i64 b,.int .i64 c,.int .i64 d,.int .i64 e]).cC=true:=rfl
theorem u7(a b c d e:Int):I.agg [.agg [.int .i64 a,.int .i64 b],.int .i64 c,.int .i64 d,.int .i64 e,.agg [.int .i64 0,.int .i64 0],.ak ⟨#[]⟩]=enc (⟨a,b,c,d,e,0,0,[]⟩:ai):=rfl
theorem uF:(∀ x y,eT [.int .i64 0,.int .i64 0] [(0,.int .i64 x),(1,.int .i64 y)]=some [.int .i64 x,.int .i64 y]) ∧
  (∀ (x1 x2 n1 n2 n3:Int),eT [.agg [.int .i64 0,.int .i64 0],.int .i64 0,.int .i64 0,.int .i64 0,.agg [.int .i64 0,.int .i64 0],.ak ⟨#[]⟩] [(0,.agg [.int .i64 x1,.int .i64 x2]),(1,.int .i64 n1),(2,.int .i64 n2),(3,.int .i64 n3)]=some [.agg [.int .i64 x1,.int .i64 x2],.int .i64 n1,.int .i64 n2,.int .i64 n3,.agg [.int .i64 0,.int .i64 0],.ak ⟨#[]⟩]) :=
 ⟨fun _ _=>rfl,fun _ _ _ _ _=>rfl⟩
theorem xw:(∀ A n rest (r:ai) (v u:Int),eb A none n [1] (enc r) (.int .i64 v) rest (some (.int .i64 u))=al rest (A.aQ n (.box (enc ({r with kind:=v} : ai))))) ∧
  (∀ A n rest (r:ai) (v u:Int),eb A none n [2] (enc r) (.int .i64 v) rest (some (.int .i64 u))=al rest (A.aQ n (.box (enc ({r with ec:=v} : ai))))) ∧
  (∀ A n rest (r:ai) (a b:Int) (o:Item),eb A (some 2) n [4] (enc r) (.agg [.int .i64 a,.int .i64 b]) rest (some (enc o))=al rest (A.aQ n (.box (enc ({r with fi:=a,ft:=b} : ai))))) ∧
  (∀ A n rest (r:ai) (x y:List UInt8),eb A none n [5] (enc r) (enc (ar.of x)) rest (some (enc (ar.of y)))=al rest (A.aQ n (.box (enc ({r with text:=x} : ai))))) :=
 ⟨fun A n rest r v u=>by rw[eP (s:=none) (v:=.int .i64 v) (old:=.int .i64 u) rfl rfl rfl];rfl,
  fun A n rest r v u=>by rw[eP (s:=none) (v:=.int .i64 v) (old:=.int .i64 u) rfl rfl rfl];rfl,
  fun A n rest r a b o=>by rw[eP (s:=some 2) (v:=.agg [.int .i64 a,.int .i64 b]) (old:=enc o) rfl rfl rfl];rfl,
  fun A n rest r x y=>by rw[eP (s:=none) (v:=enc (ar.of x)) (old:=enc (ar.of y)) (eQ _) rfl rfl];rfl⟩
theorem yU:gu 1 (some [.ak ⟨#[]⟩,.ak ⟨#[97]⟩,.ak ⟨#[98,101,97,115,116,32,49,55]⟩,.ak ⟨#[48,32,48,32,49,32,48,32,48,32,48]⟩,.ak ⟨#[32]⟩,.ak ⟨#[97,32,116,101,120,116,32,111,102,32,97,32,108,101,110,103,116,104,32,116,104,97,116,32,116,101,97,114,115,32,105,110,32,105,116,115,32,109,105,100,115,116]⟩])=some (enc (pt.map ar.of)):=uJ (ys:=pt.map ar.of) 1 rfl
theorem Gs(l:List ai)(hl:l.length≤4000000000000)(hin:me l)(n:en):aS Tryz.prog 78 [enc l,enc n] (enc (fw l n)):=by
 obtain ⟨n0,n1,n2,n3,n4,rfl⟩:∃ a b c d e:Int,n=⟨[a,b,c,d,e],rfl⟩:=by
  obtain ⟨l,h⟩:=n
  match l,h with
  | [a,b,c,d,e],_=>exact ⟨a,b,c,d,e,rfl⟩
 refine aS.bS Tryz.func78 IN JT K9 (t8 rfl) (fun hwf W0 bL E1 =>?_);simp only[zJ,D5,bH,zz5];clear hwf;have e5:enc (⟨[n0,n1,n2,n3,n4],rfl⟩:en)=I.agg [.int .i64 n0,.int .i64 n1,.int .i64 n2,.int .i64 n3,.int .i64 n4]:=rfl;have hr:fw l ⟨[n0,n1,n2,n3,n4],rfl⟩=if bQ n1 6=0∧0<cG l (bQ n0 3) then ⟨bQ n0 3,cG l (bQ n0 3),0,0,bQ n3 50,bQ n0 3,bQ n2 (cG l (bQ n0 3)),[]⟩
   else ⟨bQ n0 3,cG l (bQ n0 3),if bQ n1 6=0 then 7 else bQ n1 6,bQ n2 50,bQ n3 50,0,0,pq (bQ n4 6)⟩:=rfl
 rw[hr,e5];clear hr e5;have i5:=fun (A:ae) (h:A.o 3=some (.box (.agg [.int .i64 n0,.int .i64 n1,.int .i64 n2,.int .i64 n3,.int .i64 n4])))=>VE h;have i0:=fun A h=>(i5 A h).1;have i1:=fun A h=>(i5 A h).2.1;have i2:=fun A h=>(i5 A h).2.2.1;have i3:=fun A h=>(i5 A h).2.2.2.1;have i4:=fun A h=>(i5 A h).2.2.2.2;clear i5;have f0:=kZ n0 3 (by decide);have f1:=kZ n1 6 (by decide);have f2:=kZ n2 50 (by decide);have f3:=kZ n3 50 (by decide);have f4:=kZ n4 6 (by decide);have f102:=F0 l hl hin;have p0:=jH n0 (n:=3) (by decide);have p4:=jH n4 (n:=6) (by decide);have hix:=vP l (m:=bQ n0 3) (by omega);have f5:cG l (bQ n0 3)≠0→aS Tryz.prog 28 [enc n2,enc ((cG l (bQ n0 3):Nat):Int)] (enc (bQ n2 (cG l (bQ n0 3):Nat))):=fun h=>kZ n2 _ (by omega);have htx:∀ A,ji A 1 (bQ n4 6) (enc (pt.map ar.of))=some (.ref (enc (ar.of (pq (bQ n4 6))))):=by
  intro A;obtain ⟨k,hk⟩:=zz9 p4.1;have hk6:k<(pt.map ar.of).length:=by simp[pt];omega
  rw[hk];refine (fg 1 hk6 rfl).trans ?_;rw[List.getElem_map,pq,Int.toNat_natCast,zy9,zy0 (by simpa using hk6)];rfl
 generalize bQ n0 3=m0 at *;generalize cG l m0=c at *;generalize bQ n1 6=m1 at *;generalize bQ n2 50=m2 at *;generalize bQ n3 50=m3 at *;generalize bQ n4 6=m4 at *;generalize pq m4=tx at *;by_cases q1:m1=0
 ·subst q1;by_cases q2:0<c
  ·have f5':=f5 (by omega);have q2':decide ((c:Int)>0)=true:=decide_eq_true (by omega);rw[if_pos ⟨rfl,q2⟩];generalize bQ n2 (c:Nat)=m5 at *;have R:=y6 @q2' (y6 @xM (y6 @ff (y6 @i0 (y6 @i1 (y6 @i2 (y6 @i3 (y6 @i4 (y6 @hix (y6 @uF (y6 @u7 (y6 @fj (y6 @xw aF))))))))))))
   repeat' ((first |(with_reducible refine .guard (fun hb =>?_) (fun hb =>?_) <;>try simp only[hb])|refine U.aJ (by decide +kernel) rfl fun K hK =>?_|refine .flat _ (f0) rfl ?_|refine .flat _ (f1) rfl ?_|refine .flat _ (f2) rfl ?_|refine .flat _ (f3) rfl ?_|refine .lead _ (f102) ?_|refine .flat _ (f5') rfl ?_|(refine .aG [0,1,3,4,5,6,7,35,49] hK ?_;clear hK K)|(with_reducible refine .done (hK _ ?_);clear hK K)|refine U.of rfl ?_|(with_reducible refine az.aI (fun h =>?_) (fun h =>?_) <;>try simp only[h])) <;>try simp only[aK,R,simprocAttr])
   all_goals clear R
   all_goals rfl
  ·have q2':decide ((c:Int)>0)=false:=decide_eq_false (by omega);rw[if_neg (by omega),if_pos rfl];have R:=y6 @q2' (y6 @xM (y6 @ff (y6 @i0 (y6 @i1 (y6 @i2 (y6 @i3 (y6 @i4 (y6 @hix (y6 @uF (y6 @u7 (y6 @yU (y6 @htx (y6 @fj (y6 @xw aF))))))))))))))
   repeat' ((first |(with_reducible refine .guard (fun hb =>?_) (fun hb =>?_) <;>try simp only[hb])|refine U.aJ (by decide +kernel) rfl fun K hK =>?_|refine .flat _ (f0) rfl ?_|refine .flat _ (f1) rfl ?_|refine .flat _ (f2) rfl ?_|refine .flat _ (f3) rfl ?_|refine .lead _ (f102) ?_|refine .flat _ (f4) rfl ?_|(refine .aG [0,1,3,4,5,6,7,35,49] hK ?_;clear hK K)|(with_reducible refine .done (hK _ ?_);clear hK K)|refine U.of rfl ?_|(with_reducible refine az.aI (fun h =>?_) (fun h =>?_) <;>try simp only[h])) <;>try simp only[aK,R,simprocAttr])
   all_goals clear R
   all_goals rfl
 ·have q1':(m1==0)=false:=by simpa using q1
  rw[if_neg (fun h=>q1 h.1),if_neg q1];have R:=y6 @q1' (y6 @xM (y6 @ff (y6 @i0 (y6 @i1 (y6 @i2 (y6 @i3 (y6 @i4 (y6 @hix (y6 @uF (y6 @u7 (y6 @yU (y6 @htx (y6 @fj (y6 @xw aF))))))))))))))
  repeat' ((first |(with_reducible refine .guard (fun hb =>?_) (fun hb =>?_) <;>try simp only[hb])|refine U.aJ (by decide +kernel) rfl fun K hK =>?_|refine .flat _ (f0) rfl ?_|refine .flat _ (f1) rfl ?_|refine .flat _ (f2) rfl ?_|refine .flat _ (f3) rfl ?_|refine .lead _ (f102) ?_|refine .flat _ (f4) rfl ?_|(refine .aG [0,1,3,4,5,6,7,35,49] hK ?_;clear hK K)|(with_reducible refine .done (hK _ ?_);clear hK K)|refine U.of rfl ?_|(with_reducible refine az.aI (fun h =>?_) (fun h =>?_) <;>try simp only[h])) <;>try simp only[aK,R,simprocAttr])
  all_goals clear R
  all_goals rfl
end Go.Proofs.YtoffnnjbplgnaaaGreatDoor
namespace Go.Proofs.YtoffnnjbplgnaaaGreatDoor
open Go Go.Abs Go.ChangeShapes Go.WideShapes Go.RowKit
open Go.Abs.Enc (enc)
theorem Hl:jL Tryz.prog 66 en fun _=>True:=(XU (n:=5) (e:=3) (by kernel_rfl) CB (by kernel_rfl) (by decide)).CY
end Go.Proofs.YtoffnnjbplgnaaaGreatDoor
namespace Go.Proofs.YtoffnnjbplgnaaaGreatDoor
open Go Go.Abs
open Go.Abs.Enc (enc)
def gE(out:List ai):List en→List ai
 | []=>out
 |n::t=>gE (out++[fw out n]) t
def nt(l:List en)(most:Int):List ai:=gE [] (l.take most.toNat)
theorem wV:∀ (l:List en) (out:List ai) (n:en),gE out (l++[n])=gE out l++[fw (gE out l) n]
 | [],_,_=>rfl
 |m::l,out,n=>by rw[zz8,gE,gE,wV l]
theorem Ey(out:List ai)(n:en):0≤(fw out n).aO∧(fw out n).aO≤2:=by
 have:=jH (n.g 0) (n:=3) (by decide);rw[fw];split <;>(simp only;omega)
theorem Ez:∀ (l:List en) (out:List ai),me out→me (gE out l)
 | [],_,h=>h
 |n::l,out,h=>Ez l _ fun r hr=>by
  rcases zy2.1 hr with k | k
  ·exact h r k
  ·rw[zx2.1 k];have:=Ey out n;omega
theorem wU:∀ (l:List en) (out:List ai),(gE out l).length=out.length+l.length
 | [],_=>rfl
 |n::l,out=>by rw[gE,wU l];simp;omega
theorem Wf:∀ q:en,bN (some 5) (enc q)=true:=fun q=>by rw[gy];rfl
def uo(l:List en)(most:Int)(x:Nat×List ai):ae:=aw [(0,enc l),(1,enc most),(5,.own 5 x.2.length),(6,.int .i64 (x.1:Int))] [(5,.bF 50 8 (x.2.map enc))]
theorem Gl(l:List en)(hl:l.length≤4000000000000)(most:Int)(hmo:most≤1000):aS Tryz.prog 26 [enc l,enc most] (enc (nt l most)):=by
 refine aS.bS Tryz.func26 Iz JG KV (t8 rfl) (fun hwf W0 bL E1 =>?_);simp only[zx,DO,bH,zz5];clear hwf;have R:=aF
 repeat' ((first |(with_reducible refine .guard (fun hb =>?_) (fun hb =>?_) <;>try simp only[hb])|refine U.aJ (by decide +kernel) rfl fun K hK =>?_|(refine .aG [0,1,4,5,6,15] hK ?_;clear hK K)|(with_reducible refine .done (hK _ ?_);clear hK K)|refine U.of rfl ?_|(with_reducible refine az.aI (fun h =>?_) (fun h =>?_) <;>try simp only[h])) <;>try simp only[aK,R,simprocAttr])
 all_goals clear R
 refine U.loop (uo l most) (fun x=>x.1≤l.length∧(x.1=0∨(x.1:Int)≤most)∧x.2=gE [] (l.take x.1)) (fun x=>l.length-x.1) (0,[]) ⟨zv0 _,.inl rfl,rfl⟩ ?_ ?_
 ·refine bx.GS 5 5 50 8 8 rfl rfl ?_;simp only[uo,zw2,zy5];refine bx.cQ ?_ ?_ ?_ ?_ <;>simp[bV,b7,b6,bI,aC,bX,dR,I.only,I.cI,aj.only,bu,pX]
 rintro ⟨i,out⟩ ⟨hi,hm,ho⟩;simp only at hi hm ho;simp only[uo];have hfo:kF out.length (some (.bF 50 8 (out.map enc)))=some (enc out):=oy 8 rfl rfl;have hin:me out:=by rw[ho];exact Ez _ _ (fun r hr=>by cases hr)
 have hol:out.length=i:=by rw[ho,wU,zw2,zz4];omega
 by_cases hlt:i<l.length
 rotate_left
 ·have hc:=fM hlt;have:nt l most=out:=by
   rw[ho,nt,zw4 (by omega),zw4 (by omega)]
  rw[this];have R:=y6 @hc (y6 @hfo aF)
  repeat' ((first |(with_reducible refine .guard (fun hb =>?_) (fun hb =>?_) <;>try simp only[hb])|refine U.aJ (by decide +kernel) rfl fun K hK =>?_|(refine .aG [0,1,4,5,6,15] hK ?_;clear hK K)|(with_reducible refine .done (hK _ ?_);clear hK K)|refine U.of rfl ?_|(with_reducible refine az.aI (fun h =>?_) (fun h =>?_) <;>try simp only[h])) <;>try simp only[aK,R,simprocAttr])
  all_goals clear R
  all_goals rfl
 have hc:=fr hlt;by_cases hq:(i:Int)<most
 rotate_left
 ·have hd:decide ((i:Int)<most)=false:=decide_eq_false hq;have:nt l most=out:=by
   rw[ho,nt];congr 2;omega
  rw[this];have R:=y6 @hc (y6 @hd (y6 @hfo aF))
  repeat' ((first |(with_reducible refine .guard (fun hb =>?_) (fun hb =>?_) <;>try simp only[hb])|refine U.aJ (by decide +kernel) rfl fun K hK =>?_|(refine .aG [0,1,4,5,6,15] hK ?_;clear hK K)|(with_reducible refine .done (hK _ ?_);clear hK K)|refine U.of rfl ?_|(with_reducible refine az.aI (fun h =>?_) (fun h =>?_) <;>try simp only[h])) <;>try simp only[aK,R,simprocAttr])
  all_goals clear R
  all_goals rfl
 have hd:decide ((i:Int)<most)=true:=decide_eq_true hq;have he:=fun A=>fg (A:=A) 5 hlt rfl;have hw:=eU (i:=i) (by omega);have hnx:out++[fw out l[i]]=gE [] (l.take (i+1)):=by
  rw[ja hlt,wV,←ho]
 have f78:=Gs out (by omega) hin l[i];have hbs:∀ x:ai,gu 8 (some [enc x])=some (enc [x]):=fun x=>oh 8 x rfl;generalize fw out l[i]=x at *;generalize l[i]=n at *;have hap:=fun (A:ae) d rest=>rH (A:=A) (d:=d) 50 8 72 5 (l:=out.length) (es:=out) (ys:=[x]) (rest:=rest) rfl rfl (by simp) (by simp[maxLen];omega) (by simp;omega);have R:=y6 @hc (y6 @hd (y6 @he (y6 @hw (y6 @hfo (y6 @hbs (y6 @hap (y6 @Wf (y6 @ff aF))))))))
 repeat' ((first |(with_reducible refine .guard (fun hb =>?_) (fun hb =>?_) <;>try simp only[hb])|refine U.aJ (by decide +kernel) rfl fun K hK =>?_|refine .lead _ (f78) ?_|(refine .aG [0,1,4,5,6,15] hK ?_;clear hK K)|(with_reducible refine .done (hK _ ?_);clear hK K)|refine U.of rfl ?_|(with_reducible refine az.aI (fun h =>?_) (fun h =>?_) <;>try simp only[h])) <;>try simp only[aK,R,simprocAttr])
 all_goals clear R
 refine ⟨(i+1,out++[x]),⟨by simp only;omega,.inr (by simp only;omega),hnx⟩,by simp only;omega,?_⟩;simp only[];refine bx.cQ ?_ ?_ ?_ ?_ <;>simp[bV,b7,b6,bI,aC,bX,dR,I.only,I.cI,aj.only,oZ,CW,bu]
 all_goals rfl
theorem ZB{k:Int}(h:0≤k∧k<6):gm (pq k)=true:=by
 have:k=0∨k=1∨k=2∨k=3∨k=4∨k=5:=by omega
 rcases this with rfl | rfl | rfl | rfl | rfl | rfl <;>decide +kernel
theorem Yx{out:List ai}(hl:out.length<60)(n:en):bh (fw out n)=true∧dk out (fw out n)=true:=by
 have p0:=jH (n.g 0) (n:=3) (by decide);have p1:=jH (n.g 1) (n:=6) (by decide);have p2:=jH (n.g 2) (n:=50) (by decide);have p3:=jH (n.g 3) (n:=50) (by decide);have p4:=ZB (jH (n.g 4) (n:=6) (by decide));have hc:=uU out (bQ (n.g 0) 3);have p5:0<cG out (bQ (n.g 0) 3)→0≤bQ (n.g 2) (cG out (bQ (n.g 0) 3):Nat)∧bQ (n.g 2) (cG out (bQ (n.g 0) 3):Nat)<(cG out (bQ (n.g 0) 3):Nat):=fun h=>jH _ (by omega);have hx:∀ x:Item,(0≤x.aO∧x.aO≤5)∧0≤x.no∧x.no≤9999→iz x=true:=fun x h=>qB.2 h;rw[fw];obtain ⟨m,hm⟩:∃ m,m=bQ (n.g 0) 3:=⟨_,rfl⟩
 rw[←hm] at p0 hc p5 ⊢;obtain ⟨c,hcc⟩:∃ c,c=cG out m:=⟨_,rfl⟩
 rw[←hcc] at hc p5 ⊢;split
 ·rename_i h;have p6:=p5 h.2;generalize bQ (n.g 2) (c:Nat)=w at *;refine ⟨?_,by rw[dk,decide_eq_true hl];simp only[←hcc,decide_true,Bool.and_self]⟩;simp only[bh,fR,ai.bp,ai.fQ,if_true,nk,Z7,oH,decide_eq_true_eq,beq_iff_eq,qB];refine ⟨⟨⟨by omega,by omega⟩,by omega,by omega,by omega,by decide +kernel⟩,trivial,trivial,⟨by omega,by omega⟩,trivial,by omega⟩
 ·rename_i h;generalize bQ (n.g 1) 6=k1 at *;have hk:¬ (if k1=0 then (7:Int) else k1)=0:=by split <;>omega
  have hk2:0≤(if k1=0 then (7:Int) else k1)∧(if k1=0 then (7:Int) else k1)≤40:=by split <;>omega
  refine ⟨?_,by rw[dk,decide_eq_true hl];simp only[←hcc,decide_true,Bool.and_self]⟩;simp only[bh,fR,ai.bp,ai.fQ,if_neg hk,Z7,oH,decide_eq_true_eq,qB];refine ⟨⟨⟨by omega,by omega⟩,hk2,by omega,by omega,p4⟩,trivial⟩
theorem xP:∀ (a out b:List ai),dC out (a++b)=(dC out a&&dC (out++a) b)
 | [],out,b=>by simp[dC]
 |r::a,out,b=>by rw[zz8,dC,dC,xP a,zz0,List.singleton_append];simp only[Bool.and_assoc]
theorem FR{a:List ai}{r:ai} : dC [] (a++[r])=true↔dC [] a=true∧bh r=true∧dk a r=true:=by
 rw[xP];simp[dC]
theorem Zm{p:List ai}(hp:dC [] p=true):kp (dw p)=true∧(dw p).Perm p∧mM (dw p)∧Fs p=(dw p,0):=by
 obtain ⟨h1,h2⟩:=tH (xQ hp);exact ⟨Zp hp h1 h2,h1,h2,by rw[Fs,if_pos hp]⟩
theorem GN{s:List ai}{r:ai}(h:dC [] (s++[r])=true):iM (dw s) r=(dw (s++[r]),0):=by
 obtain ⟨h1,h2,h3⟩:=FR.1 h;obtain ⟨b1,b2,b3,_⟩:=Zm h1;simp only[dk,Z7,decide_eq_true_eq] at h3;have hn:gX s:=by have:=cY.wo gX.nil ((nV s []).1 h1);simpa using this
 have hh:jy (dw s) r.bp=false:=by
  rw[jy,List.any_eq_false];intro q hq k;have hqs:=b2.mem_iff.1 hq;simp only[decide_eq_true_eq,ai.bp,Item.mk.injEq] at k;have:=(hn.lt q hqs).2;rw[k.1,h3.2,k.2] at this;omega
 have hc:cG (dw s) r.aO=cG s r.aO:=b2.countP_eq _;rw[iM,b1,h2,hh,hc,Fq,Zl,Ym,if_neg (by decide),if_neg (by decide),if_neg (by decide),if_neg (by omega),if_neg (by omega)]
structure fW (r:cF) (w:List ai) (firm:Nat):Prop where
 mD:dC [] w=true
 low:∀ x∈w,0≤x.aO∧x.aO≤2
 bz:gH firm w r.cd.bz r.cd.cX r.copy.bz r.copy.cX
theorem fW.zero:fW iV [] 0:=⟨rfl,(fun _ h=>by cases h),gH.zero⟩
theorem fW.have{r:cF}{w:List ai}{firm:Nat}(h:fW r w firm):jX r w=true:=by
 rw[jX,h.mD,Bool.true_and,Z7,decide_eq_true_eq];exact ⟨h.bz.cd,List.any_eq_true.2 ⟨firm,by have:=h.bz.eD;simp;omega,by rw[decide_eq_true_eq];exact h.bz.copy⟩⟩
theorem fW.Ci{r:cF}{w:List ai}{firm:Nat}(h:fW r w firm):r.cd.bz.length≤14400∧r.cd.cX.length≤14400∧r.copy.bz.length≤14400∧r.copy.cX.length=0:=by
 have hl:=xR h.mD;have hk:=tX h.mD;have h1:=pw (w.take firm) (s:=1) (by omega) (fun x hx=>hk x (zw5 hx));have h2:=pw (w.drop firm) (s:=dx 1 (w.take firm)) (rf _) (fun x hx=>hk x (List.mem_of_mem_drop hx));rw[zz4] at h1;rw[zv1] at h2;rw[h.bz.gO,h.bz.gP,h.bz.gw,h.bz.gL];exact ⟨by omega,by omega,by omega,rfl⟩
theorem fW.small{r:cF}{w:List ai}{firm:Nat}(h:fW r w firm):r.small:=by
 obtain ⟨h1,h2,h3,h4⟩:=h.Ci;exact ⟨⟨by omega,by omega⟩,by omega,by omega⟩
theorem fW.seal{r:cF}{w:List ai}{firm:Nat}(h:fW r w firm):fW (lR r) w w.length:=by
 refine ⟨h.mD,h.low,?_⟩;have:=gH.all w;rw[←h.bz.cd] at this;exact this
theorem ZS{r:cF}{w:List ai}{x:ai}(hh:jX r w=true)(hx:dC [] (w++[x])=true):nU r w (dw w) x=(⟨⟨r.cd.bz,r.cd.cX++cR (dx 1 w) x⟩,r.copy⟩,w++[x],0):=by
 have hn:x∉w:=fun hm=>by
  have:=List.pairwise_append.1 (xQ hx);exact this.2.2 x hm x (zx2.2 rfl) ⟨rfl,rfl⟩
 rw[nU,hh,if_neg (by decide),nT,if_neg hn,GN hx,if_neg (by simp)]
theorem fW.xO{r:cF}{w:List ai}{firm:Nat}(h:fW r w firm){x:ai}(hx:dC [] (w++[x])=true)(hm:0≤x.aO∧x.aO≤2):fW ⟨⟨r.cd.bz,r.cd.cX++cR (dx 1 w) x⟩,r.copy⟩ (w++[x]) firm :=
 ⟨hx,fun y hy=>by
  rcases zy2.1 hy with k | k
  ·exact h.low y k
  ·rw[zx2.1 k];exact hm,h.bz.xO x⟩
theorem Ch{u:List UInt8}(hu:u.length≤140737488351232)(p:List Int)(i:Nat)(hpi:∀ x∈p,-9223372036854775808≤x∧x≤9223372036854775807):fK u (iZ (gG u p i) p i):=by
 rw[iZ];split
 ·rename_i hc;have hl:(gG u p i).length≤u.length:=by rw[gG,zz4];omega
  have:=rI (p:=p) (i:=i+2) (n:=(gG u p i).length) ⟨hc.2,by omega⟩ hpi;exact .xt _ _ (by rw[gG] at this ⊢;omega)
 ·exact .kv _
theorem ZT{w:List ai}(h:dC [] w=true)(n:Nat):dC [] (w.take n)=true:=by
 rw[←zx1 n w,xP,Z7] at h;exact h.1
theorem fW.tP{r:cF}{w:List ai}{firm:Nat}(h:fW r w firm)(p:List Int)(hpi:∀ x∈p,-9223372036854775808≤x∧x≤9223372036854775807){x:cF}(hx:x=fA r p∨∃ b,x=mO (fA r p) b) :
  x.small∧∃ n t,firm≤n∧n≤w.length∧jJ x=(⟨⟨t,[]⟩,⟨t,[]⟩⟩,w.take n)∧fW ⟨⟨t,[]⟩,⟨t,[]⟩⟩ (w.take n) n:=by
 obtain ⟨l1,l2,l3,l4⟩:=h.Ci;have a1:=Ch (u:=r.cd.cX) (by omega) p 0 hpi;have a2:=Ch (u:=r.copy.cX) (by omega) p 3 hpi;have b1:(iZ (gG r.cd.cX p 0) p 0).length≤r.cd.cX.length:=by rw[tG,gG,zz4];omega
 have b2:(iZ (gG r.copy.cX p 3) p 3).length≤r.copy.cX.length:=by rw[tG,gG,zz4];omega
 have e1:(fA r p).cd=⟨r.cd.bz++iZ (gG r.cd.cX p 0) p 0,[]⟩:=rfl;have e2:(fA r p).copy=⟨r.copy.bz++iZ (gG r.copy.cX p 3) p 3,[]⟩:=rfl;have s1:(fA r p).cd.small:=by rw[e1];exact ⟨by simp only[Z8];omega,by simp⟩
 have s2:(fA r p).copy.small:=by rw[e2];exact ⟨by simp only[Z8];omega,by simp⟩
 have s0:dp.small ⟨[],[]⟩:=⟨by simp,by simp⟩
 have key:x.small∧((x.cd.all=r.cd.bz++iZ (gG r.cd.cX p 0) p 0∧(x.copy.all=r.copy.bz++iZ (gG r.copy.cX p 3) p 3∨x.copy.all=[]))∨(x.cd.all=[]∧x.copy.all=r.copy.bz++iZ (gG r.copy.cX p 3) p 3)):=by
  rcases hx with rfl | ⟨b,rfl⟩
  ·exact ⟨⟨s1,s2⟩,.inl ⟨by rw[e1];exact zx9 _,.inl (by rw[e2];exact zx9 _)⟩⟩
  ·cases b
   ·exact ⟨⟨s0,s2⟩,.inr ⟨rfl,by show (fA r p).copy.all=_;rw[e2];exact zx9 _⟩⟩
   ·exact ⟨⟨s1,s0⟩,.inl ⟨by show (fA r p).cd.all=_;rw[e1];exact zx9 _,.inr rfl⟩⟩
 obtain ⟨hs,hab⟩:=key;obtain ⟨n,n1,n2,n3⟩:=h.bz.tP XO XJ dk ((nV w []).1 h.mD) a1 a2 hab;refine ⟨hs,n,bK 1 (w.take n),n1,n2,by rw[jJ,n3],ZT h.mD n,fun y hy=>h.low y (zw5 hy),?_⟩;have:=gH.all (w.take n);rw[zz4,Nat.min_eq_left n2] at this;exact this
def gS(r:ai):en:=⟨[r.aO,5,0,0,0],rfl⟩
theorem Yw(out:List ai)(n:en):(fw out n).aO=bQ (n.g 0) 3:=by
 rw[fw];split <;>rfl
theorem WG{k:Int}(h:0≤k∧k≤2):bQ k 3=k:=by
 have:k=0∨k=1∨k=2:=by omega
 rcases this with rfl | rfl | rfl <;>decide
theorem Cp:∀ (w out:List ai),(∀ x∈w,0≤x.aO∧x.aO≤2)→∀ m,cG (gE out (w.map gS)) m=cG out m+cG w m
 | [],out,_,m=>by rw[zy5,gE];rfl
 |x::w,out,h,m=>by
  have hx:bQ ((gS x).g 0) 3=x.aO:=WG (h x List.mem_cons_self);rw[zz1,gE,Cp w _ (fun y hy=>h y (List.mem_cons_of_mem _ hy)) m,mR,Yw,hx];simp only[cG,List.countP_cons,decide_eq_true_eq];omega
theorem Ws{w:List ai}(h:∀ x∈w,0≤x.aO∧x.aO≤2)(hl:w.length≤13)(n:en):∃ W,W.length=w.length∧nt (w.map gS++[n]) 14=W++[fw w n]:=by
 refine ⟨gE [] (w.map gS),by rw[wU];simp,?_⟩;have hc:∀ m,cG (gE [] (w.map gS)) m=cG w m:=fun m=>by rw[Cp w [] h m];simp[cG]
 have he:fw (gE [] (w.map gS)) n=fw w n:=by simp only[fw,hc]
 rw[nt,zw4 (by simp;omega),wV,he]
theorem Yy{w:List ai}(h:dC [] w=true)(hl:w.length≤13)(n:en):dC [] (w++[fw w n])=true∧0≤(fw w n).aO∧(fw w n).aO≤2:=by
 obtain ⟨h1,h2⟩:=Yx (out:=w) (by omega) n;exact ⟨FR.2 ⟨h,h1,h2⟩,Ey w n⟩
structure ez where
 kind:Int
 raw:en
 jk:List Int
instance:Enc ez where
 enc x:=.agg [.int .i64 x.kind,enc x.raw,enc x.jk]
 sz:=7
 aL:=.eE [.one,.eE [.one,.one,.one,.one,.one],.one]
 gC:=true
 done e:=by simp only[I.done,I.iP,Enc.done,Bool.and_self]
 size e:=by simp only[I.size,I.sizes,jT];rfl
 iI e:=by simp only[I.aL,I.cJ,ed];rfl
 agg _:=rfl
end Go.Proofs.YtoffnnjbplgnaaaGreatDoor
namespace Go.Proofs.YtoffnnjbplgnaaaGreatDoor
open Go Go.Abs Go.ChangeShapes Go.WideShapes Go.RowKit
open Go.Abs.Enc (enc)
theorem Hj:jL Tryz.prog 68 ez fun a=>a.jk.length*8≤reachBytes:=⟨by kernel_rfl,by decide,fun h hw=>by
 obtain ⟨vs,ab,hr⟩:=XW [(3,0),(66,1),(32,6)]
  [(1,fun v=>∃ a:Int,True∧v=enc a),(5,fun v=>∃ a:en,True∧v=enc a),(1,fun v=>∃ a:(List Int),a.length*8≤reachBytes∧v=enc a)]
  (by kernel_rfl) (by simp only[qA];exact ⟨trivial,uC.bg,trivial,Hl.bg,trivial,yJ.bg,trivial⟩) (by kernel_rfl) h hw
 obtain ⟨v0,vs0,e0,h0,hv0⟩:=uv ab;obtain ⟨a0,p0,f0⟩:∃ a:Int,True∧v0=enc a:=h0;obtain ⟨v1,vs1,e1,h1,hv1⟩:=uv hv0;obtain ⟨a1,p1,f1⟩:∃ a:en,True∧v1=enc a:=h1;obtain ⟨v2,vs2,e2,h2,hv2⟩:=uv hv1;obtain ⟨a2,p2,f2⟩:∃ a:(List Int),a.length*8≤reachBytes∧v2=enc a:=h2;have e3:=GV hv2;rw[e0,e1,e2,e3,f0,f1,f2] at hr;refine ⟨⟨a0,a1,a2⟩,p2,?_⟩;exact hr⟩
theorem HP:Tryz.prog.bytesOf 68=72:=by kernel_rfl
theorem Hk:jL Tryz.prog 64 (List ez) fun l=>(∀ y∈l,y.jk.length*8≤reachBytes)∧l.length*72≤reachBytes:=by
 have h:=CZ (P:=Tryz.prog) (t:=64) (e:=68) (by kernel_rfl) Hj (by kernel_rfl);exact ⟨h.cells,h.o9,fun hx hw=>by
  obtain ⟨a,⟨h1,h2⟩,h3⟩:=h.mu hx hw;rw[HP] at h2;exact ⟨a,⟨h1,h2⟩,h3⟩⟩
end Go.Proofs.YtoffnnjbplgnaaaGreatDoor
namespace Go.Proofs.YtoffnnjbplgnaaaGreatDoor
open Go Go.Abs
open Go.Abs.Enc (enc)
theorem Fi{α:Type}[Enc α]{l:List α}{esz k:Nat}(hs:Enc.sz α=esz)(h:k≤l.length):∃ v,(∀ A,iJ A esz none (some (.int .i64 (k:Int))) (some (.int .i64 (k:Int))) (enc l)=some v)∧∀ b A,bf b A v=some (enc (l.take k)):=by
 by_cases hk:k=0
 ·subst hk;refine ⟨.c0 esz,fun A =>?_,fun b A=>by subst hs;rfl⟩;simp only[iJ,gM,hs,if_true,il,gJ,Z9];rw[if_pos (by omega)];simp
 ·refine ⟨enc (l.take k),fun A =>?_,fun b A=>by rw[jg]⟩;simp only[iJ,gM,hs,if_true,il,gJ,Z9];rw[if_pos (by omega),if_neg (by omega)];simp[List.map_take]
theorem aZ.BH{α:Type}[Enc α]{P:Program}{Y:Value→List I→List (Nat×aj)→b9→Prop}{K:ae→Prop}{rest:List au}{d e esz bytes:Nat}(z:α){ts:List (Nat×I)}{os:List (Nat×aj)}{ys:List α}(hsz:Enc.sz α=esz)(hf:aD os d=none)(hb:ys.length*bytes≤140737488355328)(hml:ys.length≤maxLen)
  (h0:ys=[]→aZ P Y false K (al rest (aw ((d,.c0 esz)::ts) os))) (h1:∀ q:List α,aZ P Y false K (al rest (aw ((d,.view d [] esz 0 ys.length)::ts) ((d,.box (.agg ((ys++q).map enc)))::os)))) :
  aZ P Y false K (eY (aw ts os) (some d) e esz bytes (enc z) (enc ys) rest (.c0 esz)):=by
 by_cases hy:ys=[]
 ·subst hy;rw[yD _ hsz];exact h0 rfl
 ·obtain ⟨p,h⟩:=yC (A:=aw ts os) (rest:=rest) (e:=e) (.inl rfl) (enc z) hsz hy hf hb hml;rw[h];refine .any rfl fun m _ =>?_;have:=h1 (List.replicate m z);rw[zx5,List.map_replicate] at this;exact this
theorem lx:(∀ x:ez,(enc x).dh=some [.int .i64 x.kind,enc x.raw,enc x.jk])∧(∀ (k:Int) (r:en) (l:List Int) p,fI [.int .i64 k,enc r,enc l] 1 1 p=some p)∧(∀ (k:Int) (r:en) (l:List Int) p,fI [.int .i64 k,enc r,enc l] 2 6 p=some p) ∧
  (∀ x:ez,(enc x).at [0]=some (.int .i64 x.kind))∧(∀ x:ez,(enc x).at [2]=some (enc x.jk))∧(∀ x:ez,bN (some 7) (enc x)=true) ∧
  (∀ (a:Int) (l:List Int),eT [.int .i64 0,.agg [.int .i64 0,.int .i64 0,.int .i64 0,.int .i64 0,.int .i64 0],.nils 1] [(0,.int .i64 a),(2,enc l)]=some [.int .i64 a,.agg [.int .i64 0,.int .i64 0,.int .i64 0,.int .i64 0,.int .i64 0],enc l]) ∧
  (∀ (a:Int) (l:List Int),I.agg [.int .i64 a,.agg [.int .i64 0,.int .i64 0,.int .i64 0,.int .i64 0,.int .i64 0],enc l]=enc (⟨a,⟨[0,0,0,0,0],rfl⟩,l⟩:ez)) ∧
  (∀ A n b rest (q:ez),eb A (some 7) n [] b (enc q) rest (some (.agg [.int .i64 0,.agg [.int .i64 0,.int .i64 0,.int .i64 0,.int .i64 0,.int .i64 0],.nils 1]))=al rest (A.aQ n (.box (enc q)))) ∧
  (∀ A n b rest (q r:ez),eb A (some 7) n [] b (enc q) rest (some (enc r))=al rest (A.aQ n (.box (enc q)))) :=
 ⟨fun _=>rfl,fun _ _ _ _=>rfl,fun _ r _ _=>oV (by simp) (by simp[I.sizes,I.size,jT,Ms,Mt]),fun _=>rfl,fun _=>rfl,fun _=>by rw[gy];rfl,fun a l=>by simp[eT,I.cC,I.size,jT,AL],fun _ _=>rfl,
  fun A n b rest q=>by rw[eP (s:=some 7) (v:=enc q) (old:=.agg [.int .i64 0,.agg [.int .i64 0,.int .i64 0,.int .i64 0,.int .i64 0,.int .i64 0],.nils 1]) (eQ _) (by rw[gy];rfl) (ed _),fx],
  fun A n b rest q r=>by rw[eP (s:=some 7) (v:=enc q) (old:=enc r) (eQ _) (by rw[gy];rfl) ((ed _).trans (ed _).symm),fx]⟩
theorem qf{A:ae}{n:Nat}{k a b c d e:Int}{l:List Int}(h:A.o n=some (.box (enc (⟨k,⟨[a,b,c,d,e],rfl⟩,l⟩:ez)))):gf A 5 1 0 (.ptr n [1])=some (.ptr n [1,0])∧gf A 5 1 1 (.ptr n [1])=some (.ptr n [1,1])∧gf A 5 1 2 (.ptr n [1])=some (.ptr n [1,2])∧gf A 5 1 3 (.ptr n [1])=some (.ptr n [1,3])∧gf A 5 1 4 (.ptr n [1])=some (.ptr n [1,4]):=by
 have hf:ev (dN [1] (A.o n))=some [.int .i64 a,.int .i64 b,.int .i64 c,.int .i64 d,.int .i64 e]:=by rw[h];rfl
 refine ⟨?_,?_,?_,?_,?_⟩ <;>simp[gf,mU,hG,iv,hf,gz,I.size]
theorem Hf(k a b c d e:Int)(l:List Int):(enc (⟨k,⟨[a,b,c,d,e],rfl⟩,l⟩:ez)).at [1,0]=some (.int .i64 a)∧(enc (⟨k,⟨[a,b,c,d,e],rfl⟩,l⟩:ez)).at [1,1]=some (.int .i64 b)∧(enc (⟨k,⟨[a,b,c,d,e],rfl⟩,l⟩:ez)).at [1,2]=some (.int .i64 c) ∧
  (enc (⟨k,⟨[a,b,c,d,e],rfl⟩,l⟩:ez)).at [1,3]=some (.int .i64 d)∧(enc (⟨k,⟨[a,b,c,d,e],rfl⟩,l⟩:ez)).at [1,4]=some (.int .i64 e):=⟨rfl,rfl,rfl,rfl,rfl⟩
theorem yP:(∀ a b c d e:Int,eT [.int .i64 0,.int .i64 0,.int .i64 0,.int .i64 0,.int .i64 0] [(0,.int .i64 a),(1,.int .i64 b),(2,.int .i64 c),(3,.int .i64 d),(4,.int .i64 e)]=some [.int .i64 a,.int .i64 b,.int .i64 c,.int .i64 d,.int .i64 e]) ∧
  (∀ a b c d e:Int,I.agg [.int .i64 a,.int .i64 b,.int .i64 c,.int .i64 d,.int .i64 e]=enc (⟨[a,b,c,d,e],rfl⟩:en)):=⟨fun _ _ _ _ _=>rfl,fun _ _ _ _ _=>rfl⟩
def ur(l:List ez)(p:List Int)(g:Int)(x:Nat×cF×List ai×Nat):ae:=aw [(0,enc l),(1,enc p),(2,enc g),(7,.bool true),(8,.ptr 8 []),(9,enc x.2.2.1),(10,.int .i64 (x.2.2.2:Int)),(11,.int .i64 (x.1:Int))] [(8,.box (enc x.2.1))]
def uu(l:List ez)(p:List Int)(g:Int)(x:Nat×cF×List ai×Nat)(y:ez):ae:=aw [(0,enc l),(1,enc p),(2,enc g),(7,.bool true),(8,.ptr 8 []),(9,enc x.2.2.1),(10,.int .i64 (x.2.2.2:Int)),(11,.int .i64 (x.1:Int)),(12,.ptr 12 [])] [(12,.box (enc y)),(8,.box (enc x.2.1))]
def pG(n:Nat)(x:Nat×cF×List ai×Nat):Prop:=x.1≤n+1∧x.1≤13∧x.2.2.1.length≤x.1∧fW x.2.1 x.2.2.1 x.2.2.2
theorem ZN{y:ez}(h:(enc y:I).wf):∀ x∈y.jk,-9223372036854775808≤x∧x≤9223372036854775807:=by
 have h2:(enc y.jk:I).wf:=by
  have:I.fB [.int .i64 y.kind,enc y.raw,enc y.jk]:=h;simp only[I.fB] at this;exact this.2.2.1
 exact fun x hx=>(FO x).1 (((xN y.jk).1 h2).2 x hx)
theorem wm{ts ts':List (Nat×I)}{os os':List (Nat×aj)}{α:Type}[Enc α](d z:Nat){x:I}(hz:Enc.sz α=z)(hx:x=.nils z∨x=.c0 z)(hd:Abs.cj ts d=x)(ho:bI (fun n => !([]:List Nat).contains n) (cZ [] os))(h1:bV ((d,enc ([]:List α))::gb [] ts) ts')(h2:b7 (cZ [] os) os')(h3:b6 (aC os') ts')(h4:bI (aC os') os'):bx (aw ts os) (aw ts' os') :=
 bx.oD [] d (y:=enc ([]:List α)) hd (by subst hz;rcases hx with rfl | rfl <;>(simp only[bf];rfl)) ho h1 h2 h3 h4
theorem EK{ts ts':List (Nat×I)}{os os':List (Nat×aj)}{α:Type}[Enc α](d n z:Nat){l q:List α}(hz:Enc.sz α=z)(hd:Abs.cj ts d=.view n [] z 0 l.length)(hn:aD os n=some (.box (.agg ((l++q).map enc))))(ho:bI (fun m => ![n].contains m) (cZ [n] os))(h1:bV ((d,enc l)::gb [n] ts) ts')(h2:b7 (cZ [n] os) os')(h3:b6 (aC os') ts')(h4:bI (aC os') os'):bx (aw ts os) (aw ts' os') :=
 bx.oD [n] d hd (by
  rw[r2];have:(aw ts (jA [n] os)).o n=some (.box (.agg ((l++q).map enc))):=by
   show aD (jA [n] os) n=_
   rw[oP];simpa using hn
  rw[this]
  show jU z 0 l.length (some ((l++q).map enc))=_
  rw[oA hz,List.take_left]) ho h1 h2 h3 h4
theorem Gt(l:List ez)(hl:l.length≤4000000000000)(p:List Int)(hp:p.length≤100000000000000)(hlp:∀ y∈l,y.jk.length≤100000000000000)(g:Int):aS Tryz.prog 8 [enc l,enc p,enc g] (enc true):=by
 refine aS.bS Tryz.func8 IQ JV Lb (t8 rfl) (fun hwf W0 bL E1 =>?_);simp only[zL,D7,bH,zz5,Nat.reduceAdd];have hpi:∀ x∈p,-9223372036854775808≤x∧x≤9223372036854775807:=fun x hx=>(FO x).1 (((xN p).1 hwf.2.1).2 x hx);have hli:∀ y∈l,∀ x∈y.jk,-9223372036854775808≤x∧x≤9223372036854775807:=fun y hy=>ZN (((xN l).1 hwf.1).2 y hy);clear hwf;have R:=y6 @kC (y6 @fk aF)
 repeat' ((first |(with_reducible refine .guard (fun hb =>?_) (fun hb =>?_) <;>try simp only[hb])|refine U.aJ (by decide +kernel) rfl fun K hK =>?_|refine .flat _ (Gc) rfl ?_|(refine .aG [0,1,2,6,7,8,9,10,11,12,13,14,15,16,17,18,19,20,21,22,23,32,47,54,59,122,125,131,141,189,197] hK ?_;clear hK K)|(with_reducible refine .done (hK _ ?_);clear hK K)|refine U.of rfl ?_|(with_reducible refine az.aI (fun h =>?_) (fun h =>?_) <;>try simp only[h])) <;>try simp only[aK,R,simprocAttr])
 all_goals clear R
 refine U.loop (ur l p g) (pG l.length) (fun x=>14-x.1) (0,iV,[],0) ⟨zv0 _,by decide,zv0 _,fW.zero⟩ ?_ ?_
 ·simp only[ur];refine wm (α:=ai) 9 8 rfl (.inl rfl) rfl ?_ ?_ ?_ ?_ ?_
  ·simp[cZ,bI,aj.only,bu]
  ·simp[bV,gb,bX,I.only,bu] <;>rfl
  ·simp[b7,cZ,aD]
  ·simp[b6,aC,aD,I.only,bu]
  ·simp[bI,aj.only,bu]
 rintro ⟨i,r,w,f⟩ ⟨hi1,hi2,hwl,hk⟩;simp only at hi1 hi2 hwl hk;simp only[ur];by_cases hA:i≤l.length
 rotate_left
 ·have c1:decide ((i:Int)≤(l.length:Int))=false:=decide_eq_false (by omega);have R:=y6 @c1 aF
  repeat' ((first |(with_reducible refine .guard (fun hb =>?_) (fun hb =>?_) <;>try simp only[hb])|refine U.aJ (by decide +kernel) rfl fun K hK =>?_|(refine .aG [0,1,2,6,7,8,9,10,11,12,13,14,15,16,17,18,19,20,21,22,23,32,47,54,59,122,125,131,141,189,197] hK ?_;clear hK K)|(with_reducible refine .done (hK _ ?_);clear hK K)|refine U.of rfl ?_|(with_reducible refine az.aI (fun h =>?_) (fun h =>?_) <;>try simp only[h])) <;>try simp only[aK,R,simprocAttr])
  all_goals clear R
  all_goals rfl
 have c1:decide ((i:Int)≤(l.length:Int))=true:=decide_eq_true (by omega);by_cases hB:i≤12
 rotate_left
 ·have c2:decide ((i:Int)≤12)=false:=decide_eq_false (by omega);have R:=y6 @c1 (y6 @c2 aF)
  repeat' ((first |(with_reducible refine .guard (fun hb =>?_) (fun hb =>?_) <;>try simp only[hb])|refine U.aJ (by decide +kernel) rfl fun K hK =>?_|(refine .aG [0,1,2,6,7,8,9,10,11,12,13,14,15,16,17,18,19,20,21,22,23,32,47,54,59,122,125,131,141,189,197] hK ?_;clear hK K)|(with_reducible refine .done (hK _ ?_);clear hK K)|refine U.of rfl ?_|(with_reducible refine az.aI (fun h =>?_) (fun h =>?_) <;>try simp only[h])) <;>try simp only[aK,R,simprocAttr])
  all_goals clear R
  all_goals rfl
 have c2:decide ((i:Int)≤12)=true:=decide_eq_true (by omega);have pg:=jH g (n:=2) (by decide);have f28:=kZ g 2 (by decide);have hw5:IntKind.i64.wrap (5+bQ g 2)=5+bQ g 2:=dX _ (by omega) (by omega);have hiw:=eU (i:=i) (by omega);obtain ⟨y,hy1,hy2,hy3⟩:∃ y:ez,((∀ x∈y.jk,-9223372036854775808≤x∧x≤9223372036854775807)∧y.jk.length≤100000000000000)∧(∀ h:i<l.length,i<12→y=l[i])∧(¬ (i<l.length∧i<12)→y=⟨5+bQ g 2,⟨[0,0,0,0,0],rfl⟩,p⟩):=by
  by_cases hC:i<l.length∧i<12
  ·exact ⟨l[i],⟨hli _ (List.getElem_mem hC.1),hlp _ (List.getElem_mem hC.1)⟩,fun _ _=>rfl,fun h=>absurd hC h⟩
  ·exact ⟨_,⟨hpi,hp⟩,fun h1 h2=>absurd ⟨h1,h2⟩ hC,fun _=>rfl⟩
 have R:=y6 @c1 (y6 @c2 aF)
 repeat' ((first |(with_reducible refine .guard (fun hb =>?_) (fun hb =>?_) <;>try simp only[hb])|refine U.aJ (by decide +kernel) rfl fun K hK =>?_|(refine .aG [0,1,2,6,7,8,9,10,11,12,13,14,15,16,17,18,19,20,21,22,23,32,47,54,59,122,125,131,141,189,197] hK ?_;clear hK K)|(with_reducible refine .done (hK _ ?_);clear hK K)|refine U.of rfl ?_|(with_reducible refine az.aI (fun h =>?_) (fun h =>?_) <;>try simp only[h])) <;>try simp only[aK,R,simprocAttr])
 all_goals clear R
 refine .flat _ f28 rfl ?_
 try simp only[hw5,lx,bd,simprocAttr]
 refine .aG [0,1,2,7,8,9,10,11,12] hK ?_;clear hK K;refine U.seq ?_;refine U.ZM (uu l p g (i,r,w,f) y) ?_ fun B hB=>U.sub hB ?_
 ·simp only[uu];by_cases hC:i<l.length
  ·have c3:=fr hC;have he:=fun A=>fg (A:=A) 7 hC rfl;by_cases hD:i<12
   ·have c4:decide ((i:Int)<12)=true:=decide_eq_true (by omega);rw[←hy2 hC hD] at he;have R:=y6 @c3 (y6 @c4 (y6 @he (y6 @lx aF)))
    repeat' ((first |(with_reducible refine .guard (fun hb =>?_) (fun hb =>?_) <;>try simp only[hb])|refine U.aJ (by decide +kernel) rfl fun K hK =>?_|(refine .aG [0,1,2,6,7,8,9,10,11,12,13,14,15,16,17,18,19,20,21,22,23,32,47,54,59,122,125,131,141,189,197] hK ?_;clear hK K)|(with_reducible refine .done (hK _ ?_);clear hK K)|refine U.of rfl ?_|(with_reducible refine az.aI (fun h =>?_) (fun h =>?_) <;>try simp only[h])) <;>try simp only[aK,R,simprocAttr])
    all_goals clear R
    refine bx.cQ ?_ ?_ ?_ ?_ <;>simp[bV,b7,b6,bI,aC,bX,dR,I.only,aj.only,bu]
   ·have c4:decide ((i:Int)<12)=false:=decide_eq_false (by omega);have hyy:=hy3 (fun h=>hD h.2);rw[←hyy];have R:=y6 @c3 (y6 @c4 (y6 @lx aF))
    repeat' ((first |(with_reducible refine .guard (fun hb =>?_) (fun hb =>?_) <;>try simp only[hb])|refine U.aJ (by decide +kernel) rfl fun K hK =>?_|(refine .aG [0,1,2,6,7,8,9,10,11,12,13,14,15,16,17,18,19,20,21,22,23,32,47,54,59,122,125,131,141,189,197] hK ?_;clear hK K)|(with_reducible refine .done (hK _ ?_);clear hK K)|refine U.of rfl ?_|(with_reducible refine az.aI (fun h =>?_) (fun h =>?_) <;>try simp only[h])) <;>try simp only[aK,R,simprocAttr])
    all_goals clear R
    refine bx.cQ ?_ ?_ ?_ ?_ <;>simp[bV,b7,b6,bI,aC,bX,dR,I.only,aj.only,bu]
  ·have c3:=fM hC;have hyy:=hy3 (fun h=>hC h.1);rw[←hyy];have R:=y6 @c3 (y6 @lx aF)
   repeat' ((first |(with_reducible refine .guard (fun hb =>?_) (fun hb =>?_) <;>try simp only[hb])|refine U.aJ (by decide +kernel) rfl fun K hK =>?_|(refine .aG [0,1,2,6,7,8,9,10,11,12,13,14,15,16,17,18,19,20,21,22,23,32,47,54,59,122,125,131,141,189,197] hK ?_;clear hK K)|(with_reducible refine .done (hK _ ?_);clear hK K)|refine U.of rfl ?_|(with_reducible refine az.aI (fun h =>?_) (fun h =>?_) <;>try simp only[h])) <;>try simp only[aK,R,simprocAttr])
   all_goals clear R
   refine bx.cQ ?_ ?_ ?_ ?_ <;>simp[bV,b7,b6,bI,aC,bX,dR,I.only,aj.only,bu]
 clear f28 hw5 hy2 hy3 pg c1 c2 hB;simp only[uu];obtain ⟨k,raw,q⟩:=y;obtain ⟨a,b,c,d,e,rfl⟩:∃ a b c d e:Int,raw=⟨[a,b,c,d,e],rfl⟩:=by
  obtain ⟨l,h⟩:=raw
  match l,h with
  | [a,b,c,d,e],_=>exact ⟨a,b,c,d,e,rfl⟩
 simp only at hy1;have f28k:=kZ k 7 (by decide);have pk:=jH k (n:=7) (by decide);generalize bQ k 7=m at *;by_cases m4:m=4
 ·subst m4;have f20:=yd r hk.small;have hI:pG l.length (i+1,lR r,w,w.length):=⟨by simp only;omega,by simp only;omega,by simp only;omega,hk.seal⟩
  generalize lR r=r' at *;have R:=y6 @hiw (y6 @lx (y6 @kC (y6 @fk aF)))
  repeat' ((first |(with_reducible refine .guard (fun hb =>?_) (fun hb =>?_) <;>try simp only[hb])|refine U.aJ (by decide +kernel) rfl fun K hK =>?_|refine .flat _ (f28k) rfl ?_|refine .flat _ (f20) rfl ?_|(refine .aG [0,1,2,6,7,8,9,10,11,12,13,14,15,16,17,18,19,20,21,22,23,32,47,54,59,122,125,131,141,189,197] hK ?_;clear hK K)|(with_reducible refine .done (hK _ ?_);clear hK K)|refine U.of rfl ?_|(with_reducible refine az.aI (fun h =>?_) (fun h =>?_) <;>try simp only[h])) <;>try simp only[aK,R,simprocAttr])
  all_goals clear R
  refine ⟨_,hI,by simp only;omega,?_⟩;simp only[];refine bx.cQ ?_ ?_ ?_ ?_ <;>simp[bV,b7,b6,bI,aC,bX,dR,I.only,aj.only,bu]
 have f22:=rq r hk.small q hy1.2 hy1.1;by_cases m5:m=5
 ·subst m5;obtain ⟨z1,n,t,n1,n2,ho,z2⟩:=hk.tP q hy1.1 (.inl rfl);have f18:=nZ _ z1;rw[ho] at f18;generalize fA r q=x at *;have hwn:(w.take n).length=n:=by rw[zz4];omega
  have hz:=z2.small;have f37:=uf ⟨⟨t,[]⟩,⟨t,[]⟩⟩ hz (w.take n) (by omega);rw[if_pos z2.have] at f37;obtain ⟨v3,hs3,hf3⟩:=Fi (l:=w) (k:=n) (esz:=8) rfl n2;have f17:=yb (w.take n) (w.take n) (by omega);rw[decide_eq_true rfl] at f17;have hI:pG l.length (i+1,⟨⟨t,[]⟩,⟨t,[]⟩⟩,w.take n,(w.take n).length):=⟨by simp only;omega,by simp only;omega,by simp only;omega,by rw[hwn];exact z2⟩
  generalize hww:w.take n=w' at *;have g1:decide (((w'.length:Nat):Int)<(f:Int))=false:=decide_eq_false (by omega);have g2:decide (((w'.length:Nat):Int)>((w.length:Nat):Int))=false:=decide_eq_false (by omega);have hne:bG .neq (enc (ar.of [])) (.ak ⟨#[]⟩)=some (.bool false):=by rw[hv,ik,decide_eq_true rfl];rfl
  subst hwn;have R:=y6 @hiw (y6 @hne (y6 @g1 (y6 @g2 (y6 @hs3 (y6 @hf3 (y6 @ff (y6 @gV (y6 @wD (y6 @lx (y6 @kC (y6 @fk (y6 @br aF))))))))))))
  repeat' ((first |(with_reducible refine .guard (fun hb =>?_) (fun hb =>?_) <;>try simp only[hb])|refine U.aJ (by decide +kernel) rfl fun K hK =>?_|refine .flat _ (f28k) rfl ?_|refine .flat _ (f22) rfl ?_|refine .lead _ (f18) ?_|refine .flat _ (f37) rfl ?_|refine .flat _ (f17) rfl ?_|(refine .aG [0,1,2,6,7,8,9,10,11,12,13,14,15,16,17,18,19,20,21,22,23,32,47,54,59,122,125,131,141,189,197] hK ?_;clear hK K)|(with_reducible refine .done (hK _ ?_);clear hK K)|refine U.of rfl ?_|(with_reducible refine az.aI (fun h =>?_) (fun h =>?_) <;>try simp only[h])) <;>try simp only[aK,R,zw0,eq_self,decide_true,simprocAttr])
  all_goals clear R
  refine aZ.BH (bytes:=72) (ys:=w') (default:ai) rfl rfl (by omega) (by unfold maxLen;omega) (fun h0 =>?_) (fun q =>?_)
  ·subst h0
   try simp only[bd,simprocAttr]
   refine .done (hK _ ?_);clear hK K;have R:=y6 @hiw aF
   repeat' ((first |(with_reducible refine .guard (fun hb =>?_) (fun hb =>?_) <;>try simp only[hb])|refine U.aJ (by decide +kernel) rfl fun K hK =>?_|(refine .aG [0,1,2,6,7,8,9,10,11,12,13,14,15,16,17,18,19,20,21,22,23,32,47,54,59,122,125,131,141,189,197] hK ?_;clear hK K)|(with_reducible refine .done (hK _ ?_);clear hK K)|refine U.of rfl ?_|(with_reducible refine az.aI (fun h =>?_) (fun h =>?_) <;>try simp only[h])) <;>try simp only[aK,R,simprocAttr])
   all_goals clear R
   refine ⟨_,hI,by simp only;omega,?_⟩;simp only[];refine wm (α:=ai) 9 8 rfl (.inr rfl) rfl ?_ ?_ ?_ ?_ ?_
   ·simp[cZ,bI,aj.only,bu]
   ·simp[bV,gb,bX,I.only,bu] <;>rfl
   ·simp[b7,cZ,aD]
   ·simp[b6,aC,aD,I.only,bu]
   ·simp[bI,aj.only,bu]
  ·try simp only[bd,simprocAttr]
   refine .done (hK _ ?_);clear hK K;have R:=y6 @hiw aF
   repeat' ((first |(with_reducible refine .guard (fun hb =>?_) (fun hb =>?_) <;>try simp only[hb])|refine U.aJ (by decide +kernel) rfl fun K hK =>?_|(refine .aG [0,1,2,6,7,8,9,10,11,12,13,14,15,16,17,18,19,20,21,22,23,32,47,54,59,122,125,131,141,189,197] hK ?_;clear hK K)|(with_reducible refine .done (hK _ ?_);clear hK K)|refine U.of rfl ?_|(with_reducible refine az.aI (fun h =>?_) (fun h =>?_) <;>try simp only[h])) <;>try simp only[aK,R,simprocAttr])
   all_goals clear R
   refine ⟨_,hI,by simp only;omega,?_⟩;simp only[];refine EK 9 201 8 (q:=q) rfl rfl rfl ?_ ?_ ?_ ?_ ?_
   ·simp[cZ,bI,aj.only,bu]
   ·simp[bV,gb,bX,I.only,bu] <;>rfl
   ·simp[b7,cZ,aD]
   ·simp[b6,aC,aD,I.only,bu]
   ·simp[bI,aj.only,bu]
 by_cases m6:m=6
 ·subst m6;obtain ⟨bq,hbq⟩:∃ b:Bool,((q.length:Int).tmod 2==0)=b:=⟨_,rfl⟩
  obtain ⟨z1,n,t,n1,n2,ho,z2⟩:=hk.tP q hy1.1 (.inr ⟨bq,rfl⟩);have f24:=yf (fA r q) bq;have f18:=nZ _ z1;rw[ho] at f18;generalize mO (fA r q) bq=x' at *;generalize fA r q=x at *;have hwn:(w.take n).length=n:=by rw[zz4];omega
  have hz:=z2.small;have f37:=uf ⟨⟨t,[]⟩,⟨t,[]⟩⟩ hz (w.take n) (by omega);rw[if_pos z2.have] at f37;obtain ⟨v3,hs3,hf3⟩:=Fi (l:=w) (k:=n) (esz:=8) rfl n2;have f17:=yb (w.take n) (w.take n) (by omega);rw[decide_eq_true rfl] at f17;have hI:pG l.length (i+1,⟨⟨t,[]⟩,⟨t,[]⟩⟩,w.take n,(w.take n).length):=⟨by simp only;omega,by simp only;omega,by simp only;omega,by rw[hwn];exact z2⟩
  generalize hww:w.take n=w' at *;have g1:decide (((w'.length:Nat):Int)<(f:Int))=false:=decide_eq_false (by omega);have g2:decide (((w'.length:Nat):Int)>((w.length:Nat):Int))=false:=decide_eq_false (by omega);have hne:bG .neq (enc (ar.of [])) (.ak ⟨#[]⟩)=some (.bool false):=by rw[hv,ik,decide_eq_true rfl];rfl
  subst hwn;have R:=y6 @hiw (y6 @hbq (y6 @hne (y6 @g1 (y6 @g2 (y6 @hs3 (y6 @hf3 (y6 @ff (y6 @gV (y6 @wD (y6 @lx (y6 @kC (y6 @fk (y6 @br aF)))))))))))))
  repeat' ((first |(with_reducible refine .guard (fun hb =>?_) (fun hb =>?_) <;>try simp only[hb])|refine U.aJ (by decide +kernel) rfl fun K hK =>?_|refine .flat _ (f28k) rfl ?_|refine .flat _ (f22) rfl ?_|refine .flat _ (f24) rfl ?_|refine .lead _ (f18) ?_|refine .flat _ (f37) rfl ?_|refine .flat _ (f17) rfl ?_|(refine .aG [0,1,2,6,7,8,9,10,11,12,13,14,15,16,17,18,19,20,21,22,23,32,47,54,59,122,125,131,141,189,197] hK ?_;clear hK K)|(with_reducible refine .done (hK _ ?_);clear hK K)|refine U.of rfl ?_|(with_reducible refine az.aI (fun h =>?_) (fun h =>?_) <;>try simp only[h])) <;>try simp only[aK,R,zw0,eq_self,decide_true,simprocAttr])
  all_goals clear R
  refine aZ.BH (bytes:=72) (ys:=w') (default:ai) rfl rfl (by omega) (by unfold maxLen;omega) (fun h0 =>?_) (fun q =>?_)
  ·subst h0
   try simp only[bd,simprocAttr]
   refine .done (hK _ ?_);clear hK K;have R:=y6 @hiw aF
   repeat' ((first |(with_reducible refine .guard (fun hb =>?_) (fun hb =>?_) <;>try simp only[hb])|refine U.aJ (by decide +kernel) rfl fun K hK =>?_|(refine .aG [0,1,2,6,7,8,9,10,11,12,13,14,15,16,17,18,19,20,21,22,23,32,47,54,59,122,125,131,141,189,197] hK ?_;clear hK K)|(with_reducible refine .done (hK _ ?_);clear hK K)|refine U.of rfl ?_|(with_reducible refine az.aI (fun h =>?_) (fun h =>?_) <;>try simp only[h])) <;>try simp only[aK,R,simprocAttr])
   all_goals clear R
   refine ⟨_,hI,by simp only;omega,?_⟩;simp only[];refine wm (α:=ai) 9 8 rfl (.inr rfl) rfl ?_ ?_ ?_ ?_ ?_
   ·simp[cZ,bI,aj.only,bu]
   ·simp[bV,gb,bX,I.only,bu] <;>rfl
   ·simp[b7,cZ,aD]
   ·simp[b6,aC,aD,I.only,bu]
   ·simp[bI,aj.only,bu]
  ·try simp only[bd,simprocAttr]
   refine .done (hK _ ?_);clear hK K;have R:=y6 @hiw aF
   repeat' ((first |(with_reducible refine .guard (fun hb =>?_) (fun hb =>?_) <;>try simp only[hb])|refine U.aJ (by decide +kernel) rfl fun K hK =>?_|(refine .aG [0,1,2,6,7,8,9,10,11,12,13,14,15,16,17,18,19,20,21,22,23,32,47,54,59,122,125,131,141,189,197] hK ?_;clear hK K)|(with_reducible refine .done (hK _ ?_);clear hK K)|refine U.of rfl ?_|(with_reducible refine az.aI (fun h =>?_) (fun h =>?_) <;>try simp only[h])) <;>try simp only[aK,R,simprocAttr])
   all_goals clear R
   refine ⟨_,hI,by simp only;omega,?_⟩;simp only[];refine EK 9 201 8 (q:=q) rfl rfl rfl ?_ ?_ ?_ ?_ ?_
   ·simp[cZ,bI,aj.only,bu]
   ·simp[bV,gb,bX,I.only,bu] <;>rfl
   ·simp[b7,cZ,aD]
   ·simp[b6,aC,aD,I.only,bu]
   ·simp[bI,aj.only,bu]
 have e4:(m==4)=false:=beq_eq_false_iff_ne.2 m4;have e5:(m==5)=false:=beq_eq_false_iff_ne.2 m5;have e6:(m==6)=false:=beq_eq_false_iff_ne.2 m6;have pb:=jH b (n:=5) (by decide);have f28b:=kZ b 5 (by decide);have hwb:IntKind.i64.wrap (1+bQ b 5)=1+bQ b 5:=dX _ (by omega) (by omega);generalize bQ b 5=b' at *;obtain ⟨W,hW1,hW2⟩:=Ws hk.low (by omega) ⟨[a,1+b',c,d,e],rfl⟩;obtain ⟨x1,x2⟩:=Yy hk.mD (by omega) ⟨[a,1+b',c,d,e],rfl⟩;have f26:=Gl (w.map gS++[⟨[a,1+b',c,d,e],rfl⟩]) (by simp;omega) 14 (by decide);rw[hW2] at f26;generalize fw w ⟨[a,1+b',c,d,e],rfl⟩=x at *;have hx:=ZS hk.have x1;have f35:=yg r hk.small w (dw w) (by omega) (by rw[Fq];omega) (fun _=>Gz w (by omega) (xQ hk.mD)) x;rw[hx] at f35;have hk2:=hk.xO x1 x2;have f37:=uf _ hk2.small (w++[x]) (by simp;omega);rw[if_pos hk2.have] at f37;have hI:pG l.length (i+1,_,w++[x],f):=⟨by simp only;omega,by simp only;omega,by simp only[Z8,List.length_singleton];omega,hk2⟩
 simp only at f35;generalize (⟨⟨r.cd.bz,r.cd.cX++cR (dx 1 w) x⟩,r.copy⟩:cF)=iB at *;have hbs:∀ n:en,gu 5 (some [enc n])=some (enc [n]):=fun n=>oh 5 n rfl;have R:=y6 @e4 (y6 @e5 (y6 @e6 (y6 @WE (y6 @lx aF))))
 repeat' ((first |(with_reducible refine .guard (fun hb =>?_) (fun hb =>?_) <;>try simp only[hb])|refine U.aJ (by decide +kernel) rfl fun K hK =>?_|refine .flat _ (f28k) rfl ?_|(refine .aG [0,1,2,6,7,8,9,10,11,12,13,14,15,16,17,18,19,20,21,22,23,32,47,54,59,122,125,131,141,189,197] hK ?_;clear hK K)|(with_reducible refine .done (hK _ ?_);clear hK K)|refine U.of rfl ?_|(with_reducible refine az.aI (fun h =>?_) (fun h =>?_) <;>try simp only[h])) <;>try simp only[aK,R,simprocAttr])
 all_goals clear R
 refine U.loop (fun j:Nat=>aw [(0,enc l),(1,enc p),(2,enc g),(7,.bool true),(8,.ptr 8 []),(9,enc w),(10,.int .i64 (f:Int)),(11,.int .i64 (i:Int)),(12,.ptr 12 []),(18,.own 55 j),(19,.int .i64 (j:Int))] [(55,.bF 66 5 (((w.take j).map gS).map enc)),(12,.box (enc (⟨k,⟨[a,b,c,d,e],rfl⟩,q⟩:ez))),(8,.box (enc r))]) (fun j=>j≤w.length) (fun j=>w.length-j) 0 (zv0 _) ?_ ?_
 ·refine bx.cQ ?_ ?_ ?_ ?_ <;>simp[bV,b7,b6,bI,aC,bX,dR,I.only,I.cI,aj.only,bu,pX]
  all_goals rfl
 intro j hj;by_cases hjt:j<w.length
 ·have hc:=fr hjt;have he:=fun A=>fg (A:=A) 8 hjt rfl;have hjw:=eU (i:=j) (by omega);have hts:(w.take (j+1)).map gS=(w.take j).map gS++[gS w[j]]:=by rw[ja hjt,zx5];rfl
  have htl:((w.take j).map gS).length=j:=by simp;omega
  have her:∀ z:ai,(⟨[z.aO,5,0,0,0],rfl⟩:en)=gS z:=fun z=>rfl;generalize (w.take j).map gS=X at *;subst htl;generalize w[X.length]=z at *;have hap:=fun (A:ae) dd rest=>rH (A:=A) (d:=dd) 66 5 40 55 (l:=X.length) (es:=X) (ys:=[gS z]) (rest:=rest) rfl rfl (by simp) (by simp[maxLen];omega) (by simp;omega);have R:=y6 @hc (y6 @he (y6 @hjw (y6 @hbs (y6 @hap (y6 @her (y6 @yP aF))))))
  repeat' ((first |(with_reducible refine .guard (fun hb =>?_) (fun hb =>?_) <;>try simp only[hb])|refine U.aJ (by decide +kernel) rfl fun K hK =>?_|(refine .aG [0,1,2,6,7,8,9,10,11,12,13,14,15,16,17,18,19,20,21,22,23,32,47,54,59,122,125,131,141,189,197] hK ?_;clear hK K)|(with_reducible refine .done (hK _ ?_);clear hK K)|refine U.of rfl ?_|(with_reducible refine az.aI (fun h =>?_) (fun h =>?_) <;>try simp only[h])) <;>try simp only[aK,R,simprocAttr])
  all_goals clear R
  refine ⟨X.length+1,by omega,by omega,?_⟩;rw[hts];refine bx.cQ ?_ ?_ ?_ ?_ <;>simp[bV,b7,b6,bI,aC,bX,dR,I.only,I.cI,aj.only,oZ,CW,bu]
  all_goals rfl
 have hc:=fM hjt;have hje:j=w.length:=by omega
 subst hje;rw[List.take_length];have hXl:(w.map gS).length=w.length:=by simp
 generalize w.map gS=X at *;rw[←hXl];have i0:=fun (A:ae) (h:A.o 12=some (.box (enc (⟨k,⟨[a,b,c,d,e],rfl⟩,q⟩:ez))))=>(qf h).1;have i1:=fun (A:ae) (h:A.o 12=some (.box (enc (⟨k,⟨[a,b,c,d,e],rfl⟩,q⟩:ez))))=>(qf h).2.1;have i2:=fun (A:ae) (h:A.o 12=some (.box (enc (⟨k,⟨[a,b,c,d,e],rfl⟩,q⟩:ez))))=>(qf h).2.2.1;have i3:=fun (A:ae) (h:A.o 12=some (.box (enc (⟨k,⟨[a,b,c,d,e],rfl⟩,q⟩:ez))))=>(qf h).2.2.2.1;have i4:=fun (A:ae) (h:A.o 12=some (.box (enc (⟨k,⟨[a,b,c,d,e],rfl⟩,q⟩:ez))))=>(qf h).2.2.2.2;have ad:=Hf k a b c d e q;have hap:=fun (A:ae) dd rest=>rH (A:=A) (d:=dd) 66 5 40 55 (l:=X.length) (es:=X) (ys:=[(⟨[a,1+b',c,d,e],rfl⟩:en)]) (rest:=rest) rfl rfl (by simp) (by simp[maxLen];omega) (by simp;omega);have hfo:=oy (T:=66) (es:=X++[(⟨[a,1+b',c,d,e],rfl⟩:en)]) 5 rfl rfl;have hc':decide (((X.length:Nat):Int)<(w.length:Int))=false:=by rw[hXl];exact hc
 have hWx:(W++[x]).length=W.length+1:=by simp
 have hwl:IntKind.i64.wrap ((((W++[x]).length:Nat):Int)-1)=(W.length:Int):=by rw[hWx,dX _ (by omega) (by omega)];omega
 have hex:=fun A=>fg (A:=A) (l:=W++[x]) (k:=W.length) 8 (by simp) rfl;have hxe:(W++[x])[W.length]'(by simp)=x:=by simp
 rw[hxe] at hex;have hwx:((((w++[x]).length:Nat):Int) != IntKind.i64.wrap ((w.length:Int)+1))=false:=by rw[eU (by omega)];simp
 have R:=y6 @hc' (y6 @i0 (y6 @i1 (y6 @i2 (y6 @i3 (y6 @i4 (y6 @ad (y6 @hbs (y6 @hap (y6 @hfo (y6 @hwb (y6 @hwl (y6 @hex (y6 @hwx (y6 @hiw (y6 @kC (y6 @fk (y6 @yP (y6 @wD (y6 @lx aF)))))))))))))))))))
 repeat' ((first |(with_reducible refine .guard (fun hb =>?_) (fun hb =>?_) <;>try simp only[hb])|(refine U.lJ (gs:=vA) [[]] [(12,[12]),(18,[55])] [0,1,2,3,4,5,6,9,10,11,12,13,14,15,16,17,7,8,18,19,20,21,22] (by decide +kernel) (dP.of (by simp[jz,bX,vZ,I.only,bu])) fun K hK =>?_;simp only[j9,vA,List.getD_cons_zero,List.getD_cons_succ,R,simprocAttr])|refine U.aJ (by decide +kernel) rfl fun K hK =>?_|refine .flat _ (f28b) rfl ?_|refine .lead _ (f26) ?_|refine .lead _ (f35) ?_|refine .flat _ (f37) rfl ?_|(refine .aG [0,1,2,6,7,8,9,10,11,12,13,14,15,16,17,18,19,20,21,22,23,32,47,54,59,122,125,131,141,189,197] hK ?_;clear hK K)|(with_reducible refine .done (hK _ ?_);clear hK K)|refine U.of rfl ?_|(with_reducible refine az.aI (fun h =>?_) (fun h =>?_) <;>try simp only[h])) <;>try simp only[aK,R,simprocAttr])
 all_goals clear R
 refine ⟨_,hI,by simp only;omega,?_⟩;simp only[];refine bx.cQ ?_ ?_ ?_ ?_ <;>simp[bV,b7,b6,bI,aC,bX,dR,I.only,aj.only,bu]
end Go.Proofs.YtoffnnjbplgnaaaGreatDoor
