/-
  A part of the proof that the law RollBooks returns true for every input; five variables of Go's library start as the text lays them (the card ties them); conditions: none beyond the statement's own. (part 3 of 7)
-/
import Derived.Test.YtoffnnjbplgnaaaGreatDoorChecked
import Derived.KernelRfl
import Derived.RangeFuncIn
import Derived.Laws.Externs
import Derived.Test.YtoffnnjbplgnaaaGreatDoorNhb
set_option linter.unusedSimpArgs false
set_option linter.unusedVariables false
set_option maxHeartbeats 16000000
set_option maxRecDepth 100000
namespace Go.Abs
open Go Go.RowKit
def bK(ts:List (Nat×I)):List (Nat×I)→Prop
 | []=>True
 |(k,v)::r=>cw ts k=v∧bK ts r
def bP(os:List (Nat×ai)):List (Nat×ai)→Prop
 | []=>True
 |(k,v)::r=>aG os k=some v∧bP os r
def bO(p:Nat→Bool):List (Nat×I)→Prop
 | []=>True
 |(_,v)::r=>v.only p=true∧bO p r
theorem xD{ts:List (Nat×I)} : ∀ {ts':List (Nat×I)},bK ts ts'→∀ k,cw ts' k=.cV∨cw ts' k=cw ts k
 | [],_,k=>.inl rfl
 |(j,v)::r,h,k=>by
  simp only[bK] at h;simp only[cw];split
  ·rename_i hk;subst hk;exact .inr h.1.symm
  ·exact xD h.2 k
theorem FR{os:List (Nat×ai)} : ∀ {os':List (Nat×ai)},bP os os'→∀ k,aG os' k=none∨aG os' k=aG os k
 | [],_,k=>.inl rfl
 |(j,v)::r,h,k=>by
  simp only[bP] at h;simp only[aG];split
  ·rename_i hk;subst hk;exact .inr h.1.symm
  ·exact FR h.2 k
theorem C7{p:Nat→Bool} : ∀ {ts:List (Nat×I)},bO p ts→∀ k,(cw ts k).only p=true
 | [],_,k=>by simp[cw,I.only]
 |(j,v)::r,h,k=>by
  simp only[bO] at h;simp only[cw];split
  ·exact h.1
  ·exact C7 h.2 k
theorem C6{p:Nat→Bool} : ∀ {os:List (Nat×ai)},bF p os→∀ k x,aG os k=some x→x.only p=true
 | [],_,k,x,hx=>by simp[aG] at hx
 |(j,v)::r,h,k,x,hx=>by
  simp only[bF] at h;simp only[aG] at hx;split at hx
  ·simp only[v6] at hx;subst hx;exact h.1
  ·exact C6 h.2 k x hx
theorem bn.bZ{ts ts':List (Nat×I)}{os os':List (Nat×ai)}(h1:bK ts ts')(h2:bP os os')(h3:bO (aw os') ts')(h4:bF (aw os') os'):bn (al ts os) (al ts' os'):=by
 rintro c a w ⟨D,E,hs⟩;have hp:∀ n,aw os' n=true→(if aw os' n then E n else none)=E n:=fun n hn=>by simp[hn]
 refine ⟨D,fun n=>if aw os' n then E n else none,hs.sz,hs.ef,fun t =>?_,hs.c8,hs.cO,hs.cQ,fun n =>?_,fun n m e e' b h1 h2 h3 h4 =>?_,fun n e hn =>?_,hs.eO,hs.cE,hs.fh,hs.fm⟩
 ·have:=xD h1 t;rcases this with h | h
  ·simp only[al];rw[h];simp[aQ]
  ·refine aQ.dA (p:=aw os') hp (C7 h3 t) ?_;have:=hs.dn t;simp only[al] at *;rw[h];exact this
 ·have ho:=hs.bx n;simp only[al] at *;rcases FR h2 n with h | h
  ·rw[h];simp[cY,aw,h]
  ·rw[h];by_cases hin:aG os n=none
   ·rw[hin];simp[cY,aw,h,hin]
   ·have az:(if aw os' n then E n else none)=E n:=hp n (by simp[aw,h];cases hh:aG os n <;>simp_all);cases hx:aG os n with
    |none=>exact absurd hx hin
    |some x =>
     have hon:=C6 h4 n x (h.trans hx);rw[hx] at ho;cases x with
     |box x =>
      obtain ⟨b,cs,T,k1,k2,k3,k4,k5⟩:=ho;exact ⟨b,cs,T,az.trans k1,k2,k3,ae.dA hp _ _ (by simpa[ai.only] using hon) k4,k5⟩
     |bM T sz es =>
      obtain ⟨aH,k1,k2,k3⟩:=ho;refine ⟨aH,az.trans k1,k2,?_⟩;cases aH with
      |none=>exact k3
      |some bc =>
       obtain ⟨b,cap⟩:=bc;obtain ⟨cs,pre,rest,q1,q2,q3,q4,q5⟩:=k3;exact ⟨cs,pre,rest,q1,q2,q3,aI.dA hp _ _ (by simpa[ai.only] using hon) q4,q5⟩
     |dL T xs =>
      obtain ⟨aH,k1,k2,k3⟩:=ho;exact ⟨aH,az.trans k1,k2,k3⟩
     |cz x =>
      obtain ⟨b,k1,k2⟩:=ho;exact ⟨b,az.trans k1,k2⟩
     |b8 ks vs =>
      obtain ⟨b,es,ck,k1,k2,k3,k4,k5,k6,k7⟩:=ho;simp only[ai.only,zz0] at hon;exact ⟨b,es,ck,az.trans k1,k2,k3,k4,aB.dA hp _ _ hon.1 k5,aB.dA hp _ _ hon.2 k6,k7⟩
     |it ks vs left cur =>
      obtain ⟨r,b,es,ck,dS,se,la,k1,k2,k3,k4,k5,k6,k7⟩:=ho;simp only[ai.only,zz0] at hon;exact ⟨r,b,es,ck,dS,se,la,az.trans k1,k2,k3,k4,aB.dA hp _ _ hon.1 k5,aB.dA hp _ _ hon.2 k6,k7⟩
 ·refine hs.cG n m e e' b ?_ ?_ h3 h4
  ·split at h1
   ·exact h1
   ·cases h1
  ·split at h2
   ·exact h2
   ·cases h2
 ·by_cases hi:aw os' n=true
  ·simp only[hi,if_true];exact hs.df n e hn
  ·simp only[hi];exact .inl rfl
def bA:Nat→List I→List (Nat×I)
 |_,[]=>[]
 |k,a::aS9=>(k,a)::bA (k+1) aS9
theorem CB:∀ (aS9:List I) (k t:Nat),cw (bA k aS9) t=if t<k then .cV else (aS9[t-k]?).getD .cV
 | [],k,t=>by simp[bA,cw]
 |a::aS9,k,t=>by
  simp only[bA,cw,CB aS9 (k+1) t];by_cases h:t=k
  ·subst h;simp
  ·rw[if_neg h];by_cases h2:t<k
   ·rw[if_pos (by omega),if_pos h2]
   ·rw[if_neg (by omega),if_neg h2,show t-k=(t-(k+1))+1 from by omega];simp
theorem ud(args:List I)(os:List (Nat×ai)):bn (nW args os) (al (bA 0 args) os):=by
 rintro c a w ⟨D,E,hs⟩;refine ⟨D,E,hs.sz,hs.ef,fun t =>?_,hs.c8,hs.cO,hs.cQ,hs.bx,hs.cG,hs.df,hs.eO,hs.cE,hs.fh,hs.fm⟩;have:=hs.dn t;simp only[al,CB,nW,Nat.not_lt_zero,if_false,Nat.sub_zero] at *;cases h:args[t]? with
 |none=>simp[aQ]
 |some x=>simpa[zz6,h] using this
theorem ace(args:List I):bn (nV args) (al (bA 0 args) []):=ud args []
theorem wg(ts:List (Nat×I))(os:List (Nat×ai))(d:Nat)(v:I):(al ts os).put d v=al ((d,v)::ts) os:=rfl
theorem CH(ts:List (Nat×I))(os:List (Nat×ai))(d:Nat)(v:I):(al ts os).aP (some d) v=al ((d,v)::ts) os:=rfl
theorem Zr(A:ab)(v:I):A.aP none v=A:=rfl
theorem s8(ts:List (Nat×I))(os:List (Nat×ai))(d:Nat)(x:ai):(al ts os).aN d x=al ts ((d,x)::os):=rfl
theorem Zs(ts:List (Nat×I))(os:List (Nat×ai))(k:Nat):(al ts os).t k=cw ts k:=rfl
theorem Zq(ts:List (Nat×I))(os:List (Nat×ai))(k:Nat):(al ts os).o k=aG os k:=rfl
theorem bI(j:Nat)(v:I)(r:List (Nat×I))(k:Nat):cw ((j,v)::r) k=if k=j then v else cw r k:=rfl
theorem cL(j:Nat)(v:ai)(r:List (Nat×ai))(k:Nat):aG ((j,v)::r) k=if k=j then some v else aG r k:=rfl
theorem Zg(k:Nat):aG [] k=none:=rfl
theorem NZ(A:ab)(k:Nat):af A (.t k)=A.t k:=rfl
theorem NY(A:ab)(x:I):af A (.c x)=x:=rfl
noncomputable def cK(d:Option Nat)(rest:List aC)(A:ab)(v:I):cj:=aA rest (A.aP d v)
theorem YP(d:Option Nat)(rest:List aC)(A:ab)(v:I):cK d rest A v=aA rest (A.aP d v):=rfl
theorem Ij(v:I)(k:I→cj):cv (some v) k=k v:=rfl
theorem Hw(A:ab):aA [] A=.done A:=rfl
noncomputable def bq(A:ab)(d:Option Nat)(op:bz)(rest:List aC):cj:=aY A d op rest (aA rest)
noncomputable def gm(x:I)(b:Bool)(d:Option Nat)(op:bz)(rest:List aC)(A:ab):cj :=
 match x with
 | .bool b'=>if b'=b then bq A d op rest else aA rest (A.aP d .undef)
 | .undef=>aA rest (A.aP d .undef)
 |_=>.fail
theorem ba.guard{P:Program}{Y:Value→List I→List (Nat×ai)→cd→Prop}{dr:Bool}{K:ab→Prop}{x b:Bool}{d:Option Nat}{op:bz}{rest:List aC}{A:ab}(h1:x=b→ba P Y dr K (bq A d op rest))(h2:x = !b→ba P Y dr K (aA rest (A.aP d .undef))):ba P Y dr K (gm (.bool x) b d op rest A):=by
 unfold gm;by_cases h:x=b
 ·simp only[if_pos h];exact h1 h
 ·simp only[if_neg h];exact h2 (by cases x <;>cases b <;>simp_all)
def I.c7:I→Option (List I)
 | .agg fs=>some fs
 |_=>none
def mZ(p:List Nat):Option I→Option I
 |some f=>f.at p
 |none=>none
def jA(i:Nat)(p:List Nat):Option (List I)→Option I
 |some fs=>mZ p fs[i]?
 |none=>none
theorem na(c:I):c.at []=some c:=by cases c <;>rfl
theorem HP(c:I)(i:Nat)(p:List Nat):c.at (i::p)=jA i p c.c7:=by
 cases c <;>first | rfl | (rename_i fs;simp only[I.at,jA,I.c7,mZ])
def ri(fs:List I)(i:Nat)(p:List Nat)(v:I):Option I→I
 |some f=>.agg (fs.set i (f.dm p v))
 |none=>.agg fs
def pq(c:I)(i:Nat)(p:List Nat)(v:I):Option (List I)→I
 |some fs=>ri fs i p v fs[i]?
 |none=>c
theorem ff(c v:I):c.dm [] v=v:=by cases c <;>rfl
theorem xg(c:I)(i:Nat)(p:List Nat)(v:I):c.dm (i::p) v=pq c i p v c.c7:=by
 cases c <;>first | rfl | (rename_i fs;simp only[I.dm,pq,I.c7];cases fs[i]? <;>rfl)
def dv(p:List Nat):Option ai→Option I
 |some (.box c)=>c.at p
 |_=>none
def fH(A:ab):I→Option I
 | .ref x=>some x
 | .ptr n p=>dv p (A.o n)
 |_=>none
theorem j0(A:ab)(x:I):b6 A x=fH A x:=by
 cases x <;>first | rfl | (rename_i n p;simp only[b6,fH];cases A.o n with | none=>rfl | some y=>cases y <;>rfl)
def mK(s:Option Nat)(x:I):Option I:=if bT s x=true then some x else none
def fP(s:Option Nat):Option I→Option I
 |some x=>mK s x
 |none=>none
open Classical in
noncomputable def fE(fs:List I)(f off:Nat)(y:I):Option I:=if f<fs.length∧I.sizes (fs.take f)=off then some y else none
noncomputable def p8(n:Nat)(p:List Nat)(f off:Nat):Option (List I)→Option I
 |some fs=>fE fs f off (.ptr n (p++[f]))
 |none=>none
noncomputable def p7(fs:List I)(f off:Nat):Option I→Option I
 |some v=>fE fs f off (.ref v)
 |none=>none
noncomputable def sd(f off:Nat):Option (List I)→Option I
 |some fs=>p7 fs f off fs[f]?
 |none=>none
def eG:Option I→Option (List I)
 |some x=>x.c7
 |none=>none
noncomputable def mw(A:ab)(f off:Nat):I→Option I
 | .ref c=>sd f off c.c7
 | .ptr n p=>p8 n p f off (eG (dv p (A.o n)))
 |_=>none
theorem aaQ(A:ab)(f off:Nat)(x:aF):aZ A (.fa f off x)=mw A f off (af A x):=by
 simp only[aZ];generalize af A x=y;cases y with
 |ref c =>
  cases c <;>simp only[mw,I.c7,sd]
  rename_i fs;cases h:fs[f]? with
  |none=>simp[p7]
  |some v =>
   have hl:f<fs.length:=(zz9.1 h).1;simp only[p7,fE,hl,true_and]

 |ptr n p =>
  simp only[mw,j0,fH];cases dv p (A.o n) with
  |none=>simp[eG,p8]
  |some c =>
   cases c <;>simp only[eG,I.c7,p8]
   simp only[fE]

 |_=>simp only[mw]
noncomputable def sh(f off:Nat)(s:Option Nat):Option (List I)→Option I
 |some fs=>match fs[f]? with
  |some v=>(fE fs f off v).bind (mK s)
  |none=>none
 |none=>none
theorem aaR(A:ab)(f off:Nat)(s:Option Nat)(x:aF):aZ A (.fl f off s x)=sh f off s (af A x).c7:=by
 simp only[aZ];generalize af A x=y;cases y <;>simp only[sh,I.c7]
 rename_i fs;cases h:fs[f]? with
 |none=>rfl
 |some v =>
  have hl:f<fs.length:=(zz9.1 h).1;simp only[fE,hl,true_and];by_cases h1:I.sizes (fs.take f)=off <;>by_cases h2:bT s v=true <;>simp[h1,h2,mK]
open Classical in
noncomputable def iO(k:Int)(n:Nat)(y:Option I):Option I:=if 0≤k∧k<n then y else none
noncomputable def jh(n esz:Nat)(fs:List I)(y:Option I):Option I:=if gQ n esz fs=true then y else none
noncomputable def oO(n esz:Nat)(k:Int):Option (List I)→Option I
 |some fs=>jh n esz fs ((fs[k.toNat]?).map .ref)
 |none=>none
noncomputable def ql(n esz m:Nat)(p:List Nat)(k:Int):Option (List I)→Option I
 |some fs=>jh n esz fs (some (.ptr m (p++[k.toNat])))
 |none=>none
noncomputable def nl(A:ab)(n esz:Nat)(k:Int):I→Option I
 | .ref c=>iO k n (oO n esz k c.c7)
 | .ptr m p=>iO k n (ql n esz m p k (eG (dv p (A.o m))))
 |_=>none
noncomputable def qk(A:ab)(n esz:Nat)(x:I):I→Option I
 | .int _ k=>nl A n esz k x
 |_=>none
theorem aaS(A:ab)(n esz:Nat)(x i:aF):aZ A (.ia n esz x i)=qk A n esz (af A x) (af A i):=by
 simp only[aZ];generalize af A x=y;generalize af A i=z;cases z <;>simp only[qk]
 rename_i kk k;cases y with
 |ref c =>
  simp only[nl,iO];split
  ·cases c <;>simp only[I.c7,oO,jh]
  ·rfl
 |ptr m p =>
  simp only[nl,iO,j0,fH];split
  ·cases dv p (A.o m) with
   |none=>simp[eG,ql]
   |some c=>cases c <;>simp only[eG,I.c7,ql,jh]
  ·rfl
 |_=>simp only[nl];split <;>rfl
open Classical in
noncomputable def kI(m:Nat)(p:List Nat)(sz lo l esz:Nat)(k:Int):Option (List I)→Option I
 |some _=>if sz=esz∧0≤k∧k<l then some (.ptr m (p++[lo+k.toNat])) else none
 |none=>none
open Classical in
noncomputable def ji(A:ab)(esz:Nat)(k:Int):I→Option I
 | .slice sz es=>if sz=esz∧0≤k∧k<es.length then (es[k.toNat]?).map .ref else none
 | .own m l=>match A.o m with
  |some (.bM _ sz es)=>if l=es.length∧sz=esz∧0≤k∧k<es.length then (es[k.toNat]?).map .ref else none
  |_=>none
 | .view m p sz lo l=>kI m p sz lo l esz k (eG (dv p (A.o m)))
 |_=>none
noncomputable def qq(A:ab)(esz:Nat)(x:I):I→Option I
 | .int _ k=>ji A esz k x
 |_=>none
theorem aaT(A:ab)(esz:Nat)(x i:aF):aZ A (.is esz x i)=qq A esz (af A x) (af A i):=by
 simp only[aZ];generalize af A x=y;generalize af A i=z;cases z <;>simp only[qq]
 cases y <;>simp only[ji]
 ·split <;>simp_all
 ·rename_i m p sz lo l;simp only[j0,fH];cases dv p (A.o m) with
  |none=>rfl
  |some c=>cases c <;>simp only[eG,I.c7,kI]
noncomputable def np(n esz:Nat)(s:Option Nat)(k:Int):Option (List I)→Option I
 |some fs=>iO k n (jh n esz fs (fP s fs[k.toNat]?))
 |none=>none
noncomputable def qw(n esz:Nat)(s:Option Nat)(x:I):I→Option I
 | .int _ k=>np n esz s k x.c7
 |_=>none
theorem aaU(A:ab)(n esz:Nat)(s:Option Nat)(x i:aF):aZ A (.ix n esz s x i)=qw n esz s (af A x) (af A i):=by
 simp only[aZ];generalize af A x=y;generalize af A i=z;cases z <;>simp only[qw]
 rename_i kk k;cases y <;>simp only[I.c7,np]
 case agg fs =>
  simp only[iO,jh];split
  ·split
   ·cases fs[k.toNat]? <;>rfl
   ·rfl
  ·rfl
 all_goals (split <;>rfl)
def j6(A:ab):I→Option I
 | .slice _ es=>some (.int .i64 es.length)
 | .nils _=>some (.int .i64 0)
 | .c0 _=>some (.int .i64 0)
 | .own m l=>match A.o m with | some (.bM _ _ es)=>if l=es.length then some (.int .i64 es.length) else none | _=>none
 | .view _ _ _ _ k=>some (.int .i64 k)
 |_=>none
theorem aaW(A:ab)(x:aF):aZ A (.len x)=j6 A (af A x):=by
 simp only[aZ];generalize af A x=y;cases y <;>rfl
open Classical in
noncomputable def rz(n esz:Nat)(fs:List I)(y:I):Option I:=if gQ n esz fs=true∧n≤maxLen∧n≠0 then some y else none
noncomputable def rA(n esz m:Nat)(p:List Nat):Option (List I)→Option I
 |some fs=>rz n esz fs (.view m p esz 0 n)
 |none=>none
noncomputable def F4(n esz:Nat):Option (List I)→Option I
 |some fs=>rz n esz fs (.slice esz fs)
 |none=>none
noncomputable def nZ(A:ab)(n esz:Nat):I→Option I
 | .ptr m p=>rA n esz m p (eG (dv p (A.o m)))
 | .ref c=>F4 n esz c.c7
 |_=>none
theorem aaX(A:ab)(n esz:Nat)(x:aF):aZ A (.va n esz x)=nZ A n esz (af A x):=by
 simp only[aZ];generalize af A x=y;cases y with
 |ptr m p =>
  simp only[nZ,j0,fH];cases dv p (A.o m) with
  |none=>simp[eG,rA]
  |some c=>cases c <;>simp only[eG,I.c7,rA,rz] <;>(split <;>simp_all)
 |ref c=>cases c <;>simp only[nZ,I.c7,F4,rz] <;>(split <;>simp_all)
 |_=>simp only[nZ]
theorem aaV(A:ab)(s:Option Nat)(x:aF):aZ A (.ld s x)=fP s (fH A (af A x)):=by
 simp only[aZ,j0];cases fH A (af A x) <;>simp only[fP,mK]
noncomputable def qM(A:ab)(d:Option Nat)(a b:aF)(rest:List aC):I→cj
 | .bool t=>aA rest (A.aP d (if t then af A a else af A b))
 |_=>.fail
noncomputable def ry(op:UnOp)(x:I):Option I:=match op,x with
  | .not,.bool b=>some (.bool !b)
  | .neg,.int k n=>some (.int k (k.wrap (0-n)))
  | .xor,.int k n=>some (.int k (oy k n))
  |_,_=>none
def vp(i:Nat):I→Option I
 | .tuple fs=>fs[i]?
 |_=>none
def vb(k:IntKind):I→Option I
 | .int _ n=>some (.int k (k.wrap n))
 |_=>none
noncomputable def uH(A:ab)(d:Nat)(z:I)(rest:List aC):Option ai→cj
 |none=>aA rest ((A.aN d (.box z)).put d (.ptr d []))
 |some _=>.fail
noncomputable def rX(A:ab)(d:Nat)(z:I)(rest:List aC)(v:Bool):cj:=if v=true then aA rest ((A.aN d (.box z)).put d (.ptr d [])) else .fail
noncomputable def rW(A:ab)(d:Nat)(z:I)(rest:List aC):Option ai→cj
 |none=>rX A d z rest z.cn
 |some _=>.fail
open Classical in
noncomputable def dT(A:ab)(s:Option Nat)(n:Nat)(p:List Nat)(b v:I)(rest:List aC):Option I→cj
 |some old=>if wB s v old then aA rest (A.aN n (.box (b.dm p v))) else .fail
 |none=>.fail
noncomputable def uc(A:ab)(s:Option Nat)(n:Nat)(p:List Nat)(v:I)(rest:List aC):Option ai→cj
 |some (.box b)=>dT A s n p b v rest (b.at p)
 |_=>.fail
noncomputable def b9(A:ab)(s:Option Nat)(v:I)(rest:List aC):I→cj
 | .ptr n p=>uc A s n p v rest (A.o n)
 |_=>.fail
noncomputable def pU(A:ab)(d:Option Nat)(args:List I)(rest:List aC):I→cj
 | .func f caps=>.call (kE f) (gR f args caps) (bL true A (gR f args caps)) (bL false A (gR f args caps)) d rest A
 | .raw v=>.lr v args d rest A
 |_=>.fail
section
variable (d:Option Nat) (rest:List aC) (A:ab)
theorem Hh(op:bz):aA (⟨d,op,none⟩::rest) A=bq A d op rest:=rfl
theorem Hi(op:bz)(t:Nat)(b:Bool):aA (⟨d,op,some (t,b)⟩::rest) A=gm (A.t t) b d op rest A:=rfl
theorem XP(op:bz):gm (.bool true) true d op rest A=bq A d op rest:=by simp[gm]
theorem XM(op:bz):gm (.bool false) false d op rest A=bq A d op rest:=by simp[gm]
theorem XO(op:bz):gm (.bool true) false d op rest A=aA rest (A.aP d .undef):=by simp[gm]
theorem XN(op:bz):gm (.bool false) true d op rest A=aA rest (A.aP d .undef):=by simp[gm]
theorem XQ(op:bz)(b:Bool):gm .undef b d op rest A=aA rest (A.aP d .undef):=rfl
theorem Z6(x:aF):bq A d (.mv x) rest=aA rest (A.aP d (af A x)):=rfl
theorem aaa(c a b:aF):bq A d (.pick c a b) rest=qM A d a b rest (af A c):=by
 simp only[bq,aY,aZ];cases af A c <;>simp only[cv,qM]
theorem ZH(op:BinOp)(x y:aF):bq A d (.bin op x y) rest=cv (bS op (af A x) (af A y)) (cK d rest A):=rfl
theorem ZR(ty:cm)(neg:Bool)(x y:aF):bq A d (.eqv ty neg x y) rest=cv ((bV ty (af A x) (af A y)).map fun b=>.bool (if neg then !b else b)) (cK d rest A):=rfl
theorem aaf(op:UnOp)(x:aF):bq A d (.un op x) rest=cv (ry op (af A x)) (cK d rest A):=rfl
theorem ZP(k:IntKind)(x:aF):bq A d (.conv k x) rest=cv (vb k (af A x)) (cK d rest A):=by
 simp only[bq,aY,aZ];cases af A x <;>rfl
theorem ZY(s:Option Nat)(x:aF):bq A d (.ld s x) rest=cv (fP s (fH A (af A x))) (cK d rest A):=by rw[←aaV];rfl
theorem ZT(f off:Nat)(x:aF):bq A d (.fa f off x) rest=cv (mw A f off (af A x)) (cK d rest A):=by rw[←aaQ];rfl
theorem ZU(f off:Nat)(s:Option Nat)(x:aF):bq A d (.fl f off s x) rest=cv (sh f off s (af A x).c7) (cK d rest A):=by rw[←aaR];rfl
theorem ZV(n esz:Nat)(x i:aF):bq A d (.ia n esz x i) rest=cv (qk A n esz (af A x) (af A i)) (cK d rest A):=by rw[←aaS];rfl
theorem ZW(esz:Nat)(x i:aF):bq A d (.is esz x i) rest=cv (qq A esz (af A x) (af A i)) (cK d rest A):=by rw[←aaT];rfl
theorem ZX(n esz:Nat)(s:Option Nat)(x i:aF):bq A d (.ix n esz s x i) rest=cv (qw n esz s (af A x) (af A i)) (cK d rest A):=by rw[←aaU];rfl
theorem ZZ(x:aF):bq A d (.len x) rest=cv (j6 A (af A x)) (cK d rest A):=by rw[←aaW];rfl
theorem aag(n esz:Nat)(x:aF):bq A d (.va n esz x) rest=cv (nZ A n esz (af A x)) (cK d rest A):=by rw[←aaX];rfl
theorem ZI(zs:List I)(ps:List (Nat×aF)):bq A d (.bld zs ps) rest=cv ((fG zs (ps.map fun p=>(p.1,af A p.2))).map .agg) (cK d rest A):=rfl
theorem ZS(x:aF)(i:Nat):bq A d (.ext x i) rest=cv (vp i (af A x)) (cK d rest A):=by
 simp only[bq,aY,aZ];cases af A x <;>rfl
theorem Z2(f:FuncId)(caps:List aF):bq A d (.mk f caps) rest=cv (if ((caps.map (af A)).all fun y=>y.cn)=true then some (.func f (caps.map (af A))) else none) (cK d rest A):=rfl
theorem ZE(d:Nat)(z:I):bq A (some d) (.alloc z) rest=uH A d z rest (A.o d):=by
 simp only[bq,aY];cases A.o d <;>rfl
theorem ZJ(d:Nat)(x:aF):bq A (some d) (.box x) rest=rW A d (af A x) rest (A.o d):=by
 simp only[bq,aY];cases A.o d <;>simp only[rW,rX]
theorem aae(s:Option Nat)(x v:aF):bq A none (.aS s x v) rest=b9 A s (af A v) rest (af A x):=by
 simp only[bq,aY];cases af A x <;>simp only[b9]
 rename_i n p;cases A.o n with
 |none=>rfl
 |some y =>
  cases y <;>simp only[uc]
  rename_i b;cases b.at p <;>simp only[dT]
theorem ZL(f:FuncId)(args:List aF):bq A d (.call f args) rest=.call f (args.map (af A)) (bL true A (args.map (af A))) (bL false A (args.map (af A))) d rest A:=rfl
theorem ZM(x:aF)(args:List aF):bq A d (.eV x args) rest=pU A d (args.map (af A)) rest (af A x):=by
 simp only[bq,aY];cases af A x <;>rfl
end
end Go.Abs
namespace Go.Abs
open Go Go.RowKit
mutual
/-- Closed,and as a result is told: no nil slice but as the empty one. -/
def I.done:I→Bool
 | .agg fs=>I.fV fs
 | .slice _ es=>I.b7 es
 | .ref x=>x.bw
 | .func f caps=>decide (f<1000000)&&I.fV caps
 | .iface _ v=>v.bw
 | .cu ks vs=>I.b7 ks&&I.b7 vs
 | .bool _ | .int _ _ | .ay _ | .nilp | .cZ | .cR | .any | .raw _=>true
 |_=>false
def I.fV:List I→Bool
 | []=>true
 |x::xs=>x.done&&I.fV xs
end
mutual
theorem vf:∀ x:I,x.done=true→x.bw=true
 | .agg fs,h=>by simp only[I.done,I.bw] at *;exact oB fs h
 | .slice _ es,h=>by simpa only[I.done,I.bw] using h
 | .ref x,h=>by simpa only[I.done,I.bw] using h
 | .func _ caps,h=>by simp only[I.done,I.bw,zz0] at *;exact oB caps h.2
 | .iface _ v,h=>by simpa only[I.done,I.bw] using h
 | .bool _,_ | .int _ _,_ | .ay _,_ | .nilp,_ | .cZ,_ | .cR,_ | .any,_ | .raw _,_=>by simp[I.bw]
 | .cu _ _,h=>by simpa only[I.done,I.bw] using h
 | .nils _,h | .c0 _,h | .ptr _ _,h | .own _ _,h | .view _ _ _ _ _,h | .mref _,h | .cU _,h | .undef,h | .cV,h | .tuple _,h=>by simp[I.done] at h
theorem oB:∀ xs:List I,I.fV xs=true→I.b7 xs=true
 | [],_=>rfl
 |x::xs,h=>by
  simp only[I.fV,I.b7,zz0] at *;exact ⟨vf x h.1,oB xs h.2⟩
end
mutual
theorem A7(aE:Bool)(A:ab):∀ x:I,x.done=true→bf aE A x=some x
 | .agg fs,h=>by simp only[I.done,bf] at *;rw[ni aE A fs h];rfl
 | .slice _ es,h=>by simp only[I.done] at h;simp[bf,h]
 | .ref x,h=>by simp only[I.done] at h;simp[bf,h]
 | .func _ caps,h=>by simp only[I.done,bf,zz0,decide_eq_true_eq] at *;rw[if_pos h.1,ni aE A caps h.2];rfl
 | .iface _ v,h=>by simp only[I.done] at h;simp[bf,h]
 | .bool _,_ | .int _ _,_ | .ay _,_ | .nilp,_ | .cZ,_ | .cR,_ | .any,_ | .raw _,_=>by simp[bf]
 | .cu _ _,h=>by simp only[I.done] at h;simp[bf,h]
 | .nils _,h | .c0 _,h | .ptr _ _,h | .own _ _,h | .view _ _ _ _ _,h | .mref _,h | .cU _,h | .undef,h | .cV,h | .tuple _,h=>by simp[I.done] at h
theorem ni(aE:Bool)(A:ab):∀ xs:List I,I.fV xs=true→bL aE A xs=some xs
 | [],_=>by simp[bL]
 |x::xs,h=>by
  simp only[I.fV,zz0] at h;simp only[bL,A7 aE A x h.1,ni aE A xs h.2]
end
theorem NI{x:I}(h:x.done=true):x.cn=true:=by cases x <;>simp_all[I.done,I.cn]
class Enc (α:Type) where
 enc:α→I
 sz:Nat
 aL:bY
 gn:Bool
 done:∀ x,(enc x).done=true
 size:∀ x,(enc x).size=sz
 iD:∀ x,(enc x).aL=aL
 agg:∀ x,(enc x).isAgg=gn
open Enc (enc)
instance:Enc Int where
 enc n:=.int .i64 n
 sz:=1
 aL:=.one
 gn:=false
 done _:=rfl
 size _:=by simp[I.size]
 iD _:=by simp[I.aL]
 agg _:=rfl
instance:Enc Bool where
 enc b:=.bool b
 sz:=1
 aL:=.one
 gn:=false
 done _:=rfl
 size _:=by simp[I.size]
 iD _:=by simp[I.aL]
 agg _:=rfl
theorem mq{α:Type}[Enc α](l:List α):I.b7 (l.map enc)=true:=by
 induction l with
 |nil=>rfl
 |cons x l ih=>simp only[zz7,I.b7,vf _ (Enc.done x),ih,Bool.and_self]
theorem NJ{α:Type}[Enc α](l:List α):I.fV (l.map enc)=true:=by
 induction l with
 |nil=>rfl
 |cons x l ih=>simp only[zz7,I.fV,Enc.done x,ih,Bool.and_self]
theorem abU{α:Type}[Enc α](l:List α):I.sizes (l.map enc)=l.length*Enc.sz α:=by
 rw[I.gv (sz:=Enc.sz α) _ (by simp only[zx1];rintro x ⟨y,_,rfl⟩;exact Enc.size y)];simp
theorem rj{α:Type}[Enc α](l:List α):I.cI (l.map enc)=List.replicate l.length (Enc.aL α):=by
 induction l with
 |nil=>rfl
 |cons x l ih=>simp only[zz7,I.cI,Enc.iD x,ih,zw0,List.replicate_succ]
instance {α:Type} [Enc α]:Enc (List α) where
 enc l:=.slice (Enc.sz α) (l.map enc)
 sz:=1
 aL:=.one
 gn:=false
 done l:=by simp only[I.done];exact mq l
 size _:=by simp[I.size]
 iD _:=by simp[I.aL]
 agg _:=rfl
structure ew (n:Nat) (α:Type) where
 l:List α
 h:l.length=n
instance {n:Nat} {α:Type} [Enc α]:Enc (ew n α) where
 enc x:=.agg (x.l.map enc)
 sz:=n*Enc.sz α
 aL:=.ej (List.replicate n (Enc.aL α))
 gn:=true
 done x:=by simp only[I.done];exact NJ x.l
 size x:=by simp only[I.size,abU,x.h]
 iD x:=by simp only[I.aL,rj,x.h]
 agg _:=rfl
section
variable {α:Type} [Enc α]
theorem jd(aE:Bool)(A:ab)(x:α):bf aE A (enc x)=some (enc x):=A7 aE A _ (Enc.done x)
theorem gN(x:α):(enc x).bw=true:=vf _ (Enc.done x)
theorem bt(p:Nat→Bool)(x:α):(enc x).only p=true:=mL p _ (gN x)
theorem eW(x:α):(enc x).cn=true:=NI (Enc.done x)
theorem vi(x:α):bT none (enc x) = !(Enc.gn α):=by simp[bT,Enc.agg]
theorem ik(n:Nat)(x:α):bT (some n) (enc x)=(Enc.gn α&&Enc.sz α==n):=by simp[bT,Enc.agg,Enc.size]
theorem lx(x:α):(enc x).size=Enc.sz α:=Enc.size x
theorem eh(x:α):(enc x).aL=Enc.aL α:=Enc.iD x
theorem oD(n:Int):(enc n:I)=.int .i64 n:=rfl
theorem NN(n:Bool):(enc n:I)=.bool n:=rfl
theorem gO(l:List α):(enc l:I)=.slice (Enc.sz α) (l.map enc):=rfl
theorem NR:Enc.sz (List α)=1:=rfl
theorem AL:Enc.gn (List α)=false:=rfl
theorem vn(n esz:Nat)(l:List α)(h:l.length=n)(h2:Enc.sz α=esz):gQ n esz (l.map enc)=true:=by
 simp only[gQ,zz2,h,BEq.rfl,Bool.true_and,zx3,zx1];rintro x ⟨y,_,rfl⟩;simp[Enc.size,h2]
theorem Hr(l:List α):∀ x∈l.map (enc (α:=α)),x.size=Enc.sz α:=by
 simp only[zx1];rintro x ⟨y,_,rfl⟩;exact Enc.size y
end
theorem dE(n:Int)(h1:-9223372036854775808≤n)(h2:n≤9223372036854775807):IntKind.i64.wrap n=n:=IntWalk.i64_in n ⟨h1,h2⟩
theorem aK.mk{P:Program}{f:FuncId}{fn:Func}{x:bh}{rs:List bp}{args:List I}{r:I}(hf:P.funcs[f]?=some fn)(hcall:dH P f=true)(hc:(fn.body.bind (dG P fn.ntmps))=some x)
  (hrs:gj P fn.results.toList=some rs) (hn:args.length≤fn.ntmps) (h:∀ (w:World) (D:aJ) (E:aO),U ⟨P,w,D,fn.ntmps,bU E,E,e8,none,none⟩ x (jr rs r) (al (bA 0 args) [])):aK P f args r:=by
 obtain ⟨body,hb,hc'⟩:=zw4.1 hc;exact aK.tm hf hb hcall hc' hrs hn (fun w D E=>(h w D E).sub (ace args))
end Go.Abs
namespace Go.Abs.C
open Go Go.Abs
abbrev o(a:Nat)(x:bz):aC:=⟨some a,x,none⟩
abbrev bB(a:Nat)(x:bz)(k:Nat):aC:=⟨some a,x,some (k,true)⟩
abbrev on(a:Nat)(x:bz)(k:Nat):aC:=⟨some a,x,some (k,false)⟩
abbrev p(x:bz):aC:=⟨none,x,none⟩
abbrev aW(n:Int):aF:=.c (.int .i64 n)
abbrev T:aF:=.c (.bool true)
abbrev bj:aF:=.c (.bool false)
abbrev m(a b:Nat):aC:=⟨some a,.mv (.t b),none⟩
abbrev cq(a b k:Nat):aC:=⟨some a,.mv (.t b),some (k,true)⟩
abbrev fN(a b k:Nat):aC:=⟨some a,.mv (.t b),some (k,false)⟩
abbrev bg(a:Nat)(n:Int):aC:=⟨some a,.mv (.c (.int .i64 n)),none⟩
abbrev l(a b:Nat):aC:=⟨some a,.ld none (.t b),none⟩
abbrev eH(a b k:Nat):aC:=⟨some a,.ld none (.t b),some (k,true)⟩
abbrev eZ(a b k:Nat):aC:=⟨some a,.ld none (.t b),some (k,false)⟩
abbrev ao(a s b:Nat):aC:=⟨some a,.ld (some s) (.t b),none⟩
abbrev f(a b c d:Nat):aC:=⟨some a,.fa b c (.t d),none⟩
abbrev cW(a b c d k:Nat):aC:=⟨some a,.fa b c (.t d),some (k,true)⟩
abbrev fn(a b c d k:Nat):aC:=⟨some a,.fa b c (.t d),some (k,false)⟩
abbrev ad(a b:Nat)(n:Int):aC:=⟨some a,.bin .add (.t b) (.c (.int .i64 n)),none⟩
abbrev lt(a b c:Nat):aC:=⟨some a,.bin .lss (.t b) (.t c),none⟩
abbrev and(a b c:Nat):aC:=⟨some a,.pick (.t b) (.t c) (.c (.bool false)),none⟩
abbrev or(a b c:Nat):aC:=⟨some a,.pick (.t b) (.c (.bool true)) (.t c),none⟩
abbrev no(a b:Nat):aC:=⟨some a,.un .not (.t b),none⟩
abbrev b(a c:Nat):aC:=⟨some a,.box (.t c),none⟩
abbrev s(x y:bh):bh:=.seq x y
abbrev r(g:List aC):bh:=.bW none g
abbrev bQ(P:Program)(f:Func)(c:bh):Prop:=f.body.bind (dG P f.ntmps)=some c
abbrev bN(P:Program)(f:Func)(r:List bp):Prop:=gj P f.results.toList=some r
abbrev bH(P:Program)(n:FuncId):Prop:=dH P n=true
theorem e{α:Type}{a b:α}(h:a=b):a=b:=h
end Go.Abs.C
namespace Go.Proofs.YtoffnnjbplgnaaaGreatDoor
open Go Go.Abs Go.Abs.C
def Pt:=[b 2 0,b 3 1,o 4 (.mv bj)]
def Pu:=[o 24 (.call 14 []),m 5 24]
def Py:=[ao 26 1 2,f 27 0 0 3,ao 28 8 27,o 29 (.call 44 [.t 26,.t 28]),m 25 29,o 30 (.ext (.t 25) 0),o 31 (.ext (.t 25) 1),o 6 (.alloc (.agg [.nils 8])),p (.aS (some 1) (.t 6) (.t 30)),m 7 31]
def Pz:=[ao 33 1 2,f 34 0 0 3,ao 35 8 34,o 36 (.call 46 [.t 33,.t 35]),m 32 36,o 37 (.ext (.t 32) 0),o 38 (.ext (.t 32) 1),o 8 (.alloc (.agg [.nils 8])),p (.aS (some 1) (.t 8) (.t 37)),m 9 38]
def PA:=[ao 40 1 2,o 41 (.call 47 [.t 40]),m 39 41,o 42 (.ext (.t 39) 0),o 43 (.ext (.t 39) 1),o 10 (.alloc (.agg [.int .i64 0,.int .i64 0,.int .i64 0,.int .i64 0,.int .i64 0,.int .i64 0])),p (.aS (some 6) (.t 10) (.t 42)),m 11 43]
def PB:=[ao 45 1 2,o 46 (.call 48 [.t 45]),m 44 46,o 47 (.ext (.t 44) 0),o 48 (.ext (.t 44) 1),o 12 (.alloc (.agg [.int .i64 0,.int .i64 0,.int .i64 0,.int .i64 0,.int .i64 0,.int .i64 0])),p (.aS (some 6) (.t 12) (.t 47)),m 13 48]
def PC:=[ao 50 1 2,f 51 1 8 3,ao 52 2 51,o 53 (.call 49 [.t 50,.t 52]),m 49 53,o 54 (.ext (.t 49) 0),o 55 (.ext (.t 49) 1),m 14 54,m 15 55]
def PD:=[ao 57 1 2,f 58 1 8 3,ao 59 2 58,o 60 (.call 50 [.t 57,.t 59]),m 56 60,o 61 (.ext (.t 56) 0),o 62 (.ext (.t 56) 1),m 16 61,m 17 62]
def PE:=[ao 64 1 2,f 65 2 10 3,l 66 65,o 67 (.call 51 [.t 64,.t 66]),m 63 67,o 68 (.ext (.t 63) 0),o 69 (.ext (.t 63) 1),m 18 68,m 19 69]
def PF:=[ao 71 1 2,f 72 2 10 3,l 73 72,o 74 (.call 52 [.t 71,.t 73]),m 70 74,o 75 (.ext (.t 70) 0),o 76 (.ext (.t 70) 1),m 20 75,m 21 76]
def Pv:=[f 77 0 0 6,l 78 77,f 79 0 0 8,l 80 79,o 81 (.call 17 [.t 78,.t 80]),m 22 81]
def Pw:=[m 82 18,m 83 20,o 84 (.call 17 [.t 82,.t 83]),m 23 84]
def Px:=[m 85 5,m 86 85,bB 87 (.ld (some 1) (.t 2)) 86,bB 88 (.call 45 [.t 87]) 86,bB 89 (.ld (some 1) (.t 2)) 86,bB 90 (.call 53 [.t 89]) 86,bB 91 (.bin .eql (.t 88) (.t 90)) 86,and 92 86 91,m 93 92,cq 94 22 93,and 95 93 94,m 96 95,cq 97 7 96,cq 98 9 96,bB 99 (.bin .eql (.t 97) (.t 98)) 96,and 100 96 99,m 101 100,bB 102 (.ld (some 6) (.t 10)) 101,bB 103 (.ld (some 6) (.t 12)) 101,bB 104 (.eqv (.mj 6 (.i .i64)) false (.t 102) (.t 103)) 101,and 105 101 104,m 106 105,cq 107 11 106,cq 108 13 106,bB 109 (.bin .eql (.t 107) (.t 108)) 106,and 110 106 109,m 111 110,cq 112 14 111,cq 113 16 111,bB 114 (.eqv .b false (.t 112) (.t 113)) 111,and 115 111 114,m 116 115,cq 117 15 116,cq 118 17 116,bB 119 (.bin .eql (.t 117) (.t 118)) 116,and 120 116 119,m 121 120,cq 122 23 121,and 123 121 122,m 124 123,cq 125 19 124,cq 126 21 124,bB 127 (.bin .eql (.t 125) (.t 126)) 124,and 128 124 127,m 4 128]
def MR:=some [[],[0],[1],[2,1,1],[1],[4,3,1],[3,5,1],[1,6],[7,5],[8],[8,9],[10,8],[11],[11],[12,13,11],[11,14],[15,11],[16],[16],[17,18,16],[16,19],[20,16],[21],[21],[22,23,21],[21,24],[25,21],[26],[26],[27,28,26],[26,29],[30,26],[31],[31],[32,33,31],[31,34],[35,31],[36],[36,37],[38,36],[39],[39],[40,41,39],[39,42],[43,39,0,1,2,3,4,5,6,7,8,9,10,11,12,13,14,15,16,17,18,19,20,21,22,23,24,25,26,27,28,29,30,31,32,33,34,35,36,37,38,39,40,41,42,43]]
def yW:bh:=(s (r Pt) (s (r Pu) (s (r Py) (s (r Pz) (s (r PA) (s (r PB) (s (r PC) (s (r PD) (s (r PE) (s (r PF) (s (r Pv) (s (r Pw) (s (.bW MR Px) .ret)))))))))))))
def DA:List bp:=[.tmp 4]
theorem J4:bQ Tryz.prog Tryz.f11 yW:=e (by kernel_rfl)
theorem Lw:bN Tryz.prog Tryz.f11 DA:=e (by kernel_rfl)
theorem IB:bH Tryz.prog 11:=e (by kernel_rfl)
def QO:=[o 0 (.mv bj)]
def QP:=[o 21 (.bld [.int .i64 0,.int .i64 0] [(0,(aW 2))]),o 22 (.bld [.agg [.int .i64 0,.int .i64 0],.int .i64 0,.int .i64 0,.int .i64 0,.agg [.int .i64 0,.int .i64 0],.ay ⟨#[]⟩] [(0,(.t 21)),(1,(aW 5)),(2,(aW 10)),(3,(aW 12)),(5,(.c (.ay ⟨#[97]⟩)))]),o 1 (.alloc (.agg [.agg [.int .i64 0,.int .i64 0],.int .i64 0,.int .i64 0,.int .i64 0,.agg [.int .i64 0,.int .i64 0],.ay ⟨#[]⟩])),p (.aS (some 8) (.t 1) (.t 22))]
def QT:=[ao 24 8 1,o 25 (.call 29 [(aW 1),.t 24]),m 23 25,o 26 (.ext (.t 23) 0),o 27 (.ext (.t 23) 1),o 28 (.ext (.t 23) 2),m 2 26,m 3 27,m 4 28]
def QU:=[m 30 2,o 31 (.call 31 [(aW 1),.t 30]),m 29 31,o 32 (.ext (.t 29) 0),o 33 (.ext (.t 29) 1),o 34 (.ext (.t 29) 2),o 5 (.alloc (.agg [.agg [.int .i64 0,.int .i64 0],.int .i64 0,.int .i64 0,.int .i64 0,.agg [.int .i64 0,.int .i64 0],.ay ⟨#[]⟩])),p (.aS (some 8) (.t 5) (.t 32)),m 6 33,m 7 34]
def QV:=[o 36 (.bld [.agg [.ay ⟨#[]⟩,.ay ⟨#[]⟩],.agg [.ay ⟨#[]⟩,.ay ⟨#[]⟩]] []),ao 37 8 1,o 38 (.call 35 [.t 36,(.c (.nils 8)),.t 37]),m 35 38,o 39 (.ext (.t 35) 0),o 40 (.ext (.t 35) 1),o 41 (.ext (.t 35) 2),o 8 (.alloc (.agg [.agg [.ay ⟨#[]⟩,.ay ⟨#[]⟩],.agg [.ay ⟨#[]⟩,.ay ⟨#[]⟩]])),p (.aS (some 4) (.t 8) (.t 39)),m 9 40,m 10 41]
def QW:=[ao 43 4 8,o 44 (.call 22 [.t 43,(.c (.nils 1))]),o 45 (.call 18 [.t 44]),m 42 45,o 46 (.ext (.t 42) 0),o 47 (.ext (.t 42) 1),o 11 (.alloc (.agg [.agg [.ay ⟨#[]⟩,.ay ⟨#[]⟩],.agg [.ay ⟨#[]⟩,.ay ⟨#[]⟩]])),p (.aS (some 4) (.t 11) (.t 46)),m 12 47]
def QX:=[ao 49 4 8,f 50 0 0 8,f 51 1 1 50,l 52 51,o 53 (.lenT (.t 52)),o 54 (.bs 3 1 [.t 53,(aW 0),(aW 0)]),o 55 (.call 22 [.t 49,.t 54]),o 56 (.call 18 [.t 55]),m 48 56,o 57 (.ext (.t 48) 0),o 58 (.ext (.t 48) 1),o 13 (.alloc (.agg [.agg [.ay ⟨#[]⟩,.ay ⟨#[]⟩],.agg [.ay ⟨#[]⟩,.ay ⟨#[]⟩]])),p (.aS (some 4) (.t 13) (.t 57)),m 14 58]
def QY:=[ao 60 4 8,f 61 0 0 8,f 62 1 1 61,l 63 62,o 64 (.lenT (.t 63)),o 65 (.bs 3 1 [.t 64,(aW 1),(aW 3)]),o 66 (.call 22 [.t 60,.t 65]),o 67 (.call 18 [.t 66]),m 59 67,o 68 (.ext (.t 59) 0),o 69 (.ext (.t 59) 1),o 15 (.alloc (.agg [.agg [.ay ⟨#[]⟩,.ay ⟨#[]⟩],.agg [.ay ⟨#[]⟩,.ay ⟨#[]⟩]])),p (.aS (some 4) (.t 15) (.t 68)),m 16 69]
def QZ:=[ao 71 4 8,o 72 (.call 20 [.t 71]),o 73 (.call 24 [.t 72,bj]),o 74 (.call 18 [.t 73]),m 70 74,o 75 (.ext (.t 70) 0),o 76 (.ext (.t 70) 1),o 17 (.alloc (.agg [.agg [.ay ⟨#[]⟩,.ay ⟨#[]⟩],.agg [.ay ⟨#[]⟩,.ay ⟨#[]⟩]])),p (.aS (some 4) (.t 17) (.t 75)),m 18 76]
def Q0:=[m 77 4,o 78 (.bin .eql (.t 77) (aW 0)),m 79 78,cq 80 7 79,bB 81 (.bin .eql (.t 80) (aW 0)) 79,and 82 79 81,m 83 82,cq 84 10 83,bB 85 (.bin .eql (.t 84) (aW 0)) 83,and 86 83 85,m 87 86,cq 88 9 87,bB 89 (.len (.t 88)) 87,bB 90 (.bin .eql (.t 89) (aW 1)) 87,and 91 87 90,m 19 91]
def QR:=[m 92 2,o 93 (.lenT (.t 92)),o 94 (.bin .gtr (.t 93) (aW 18)),m 95 94,cq 96 2 95,cq 97 2 95,bB 98 (.lenT (.t 97)) 95,bB 99 (.bin .sub (.t 98) (aW 18)) 95,bB 100 (.prim (.ss true false) [.t 96,.t 99]) 95,bB 101 (.bin .eql (.t 100) (.c (.ay ⟨#[50,32,48,32,53,32,49,48,32,49,50,32,48,32,48,32,97,10]⟩))) 95,and 102 95 101,m 20 102]
def QS:=[m 103 19,m 104 103,cq 105 20 104,and 106 104 105,m 107 106,bB 108 (.ld (some 8) (.t 5)) 107,bB 109 (.ld (some 8) (.t 1)) 107,bB 110 (.eqv (.aS [(.aS [(.i .i64),(.i .i64)]),(.i .i64),(.i .i64),(.i .i64),(.aS [(.i .i64),(.i .i64)]),.s]) false (.t 108) (.t 109)) 107,and 111 107 110,m 112 111,cq 113 6 112,cq 114 3 112,bB 115 (.bin .eql (.t 113) (.t 114)) 112,and 116 112 115,m 117 116,cW 118 0 0 8 117,cW 119 1 1 118 117,eH 120 119 117,cq 121 2 117,bB 122 (.bin .eql (.t 120) (.t 121)) 117,and 123 117 122,m 124 123,cW 125 1 2 8 124,bB 126 (.ld (some 2) (.t 125)) 124,bB 127 (.bld [.ay ⟨#[]⟩,.ay ⟨#[]⟩] []) 124,bB 128 (.eqv (.aS [.s,.s]) false (.t 126) (.t 127)) 124,and 129 124 128,m 130 129,cq 131 12 130,bB 132 (.len (.t 131)) 130,bB 133 (.bin .eql (.t 132) (aW 0)) 130,and 134 130 133,m 135 134,cq 136 14 135,bB 137 (.len (.t 136)) 135,bB 138 (.bin .eql (.t 137) (aW 1)) 135,and 139 135 138,m 140 139,cq 141 16 140,bB 142 (.len (.t 141)) 140,bB 143 (.bin .eql (.t 142) (aW 0)) 140,and 144 140 143,m 145 144,cq 146 18 145,bB 147 (.len (.t 146)) 145,bB 148 (.bin .eql (.t 147) (aW 1)) 145,and 149 145 148,m 150 149,cW 151 0 0 17 150,cW 152 0 0 151 150,eH 153 152 150,cq 154 2 150,bB 155 (.bin .eql (.t 153) (.t 154)) 150,and 156 150 155,m 157 156,cW 158 1 2 17 157,cW 159 0 0 158 157,eH 160 159 157,cq 161 2 157,bB 162 (.bin .eql (.t 160) (.t 161)) 157,and 163 157 162,m 0 163]
def ze:bh:=(s (r QO) (s (r QP) (s (r QT) (s (r QU) (s (r QV) (s (r QW) (s (r QX) (s (r QY) (s (r QZ) (s (r Q0) (s (r QR) (s (r QS) .ret))))))))))))
def DO:List bp:=[.tmp 0]
theorem Kg:bQ Tryz.prog Tryz.f14 ze:=e (by kernel_rfl)
theorem LK:bN Tryz.prog Tryz.f14 DO:=e (by kernel_rfl)
theorem IU:bH Tryz.prog 14:=e (by kernel_rfl)
def Rb:=[o 2 (.mv (.c (.nils 8))),o 3 (.mv (.c (.ay ⟨#[]⟩)))]
def Rc:=[o 4 (.alloc (.nils 8))]
def Rf:=[o 5 (.alloc (.int .i64 0)),o 6 (.alloc (.int .i64 0)),p (.aS none (.t 5) (aW 1)),p (.aS none (.t 6) (aW 0))]
def Rg:=[m 11 0,o 12 (.call 69 [.t 11])]
def Rh:=[m 7 13]
def Ri:=[l 15 5,m 16 7,o 17 (.call 70 [.t 15,.t 16]),m 14 17,o 18 (.ext (.t 14) 0),o 19 (.ext (.t 14) 1),o 20 (.ext (.t 14) 2),o 8 (.alloc (.agg [.agg [.int .i64 0,.int .i64 0],.int .i64 0,.int .i64 0,.int .i64 0,.agg [.int .i64 0,.int .i64 0],.ay ⟨#[]⟩])),p (.aS (some 8) (.t 8) (.t 18)),m 9 19,m 10 20]
def Rj:=[m 21 10,no 22 21,m 23 22,eZ 24 4 23,on 25 (.ld (some 8) (.t 8)) 23,on 26 (.call 71 [.t 24,.t 25]) 23,on 27 (.un .not (.t 26)) 23,or 28 23 27]
def Rk:=[l 29 4,ao 30 8 8,o 31 (.bs 50 8 [.t 30]),o 32 (.du 50 8 72 (.agg [.agg [.int .i64 0,.int .i64 0],.int .i64 0,.int .i64 0,.int .i64 0,.agg [.int .i64 0,.int .i64 0],.ay ⟨#[]⟩]) (.t 29) (.t 31)),p (.aS none (.t 4) (.t 32))]
def Rl:=[m 33 9,p (.aS none (.t 5) (.t 33))]
def Rm:=[l 34 6,m 35 7,o 36 (.lenT (.t 35)),o 37 (.bin .add (.t 34) (.t 36)),p (.aS none (.t 6) (.t 37))]
def Re:=[l 38 4,m 39 0,l 40 6,o 41 (.prim (.ss false true) [.t 39,.t 40]),m 2 38,m 3 41]
def MY:=some [[],[],[],[1,2],[0,0],[3,4,0,1,2,3,4]]
def zh:bh:=(s (r Rb) (s (r Rc) (s (r Rf) (s (s (r Rg) (.block 0 (.jN (.t 12) [13] (r Rh) (.block 1 (s (r Ri) (s (s (r Rj) (.cond (.t 28) (.exit 0) .skip)) (s (r Rk) (s (r Rl) (r Rm))))))))) (s (.bW MY Re) .ret)))))
def DS:List bp:=[.tmp 2,.tmp 3]
theorem Kk:bQ Tryz.prog Tryz.f15 zh:=e (by kernel_rfl)
theorem LO:bN Tryz.prog Tryz.f15 DS:=e (by kernel_rfl)
theorem IY:bH Tryz.prog 15:=e (by kernel_rfl)
def RT:=[o 4 (.mv bj)]
def RU:=[m 7 0,o 8 (.len (.t 7)),m 9 1,o 10 (.len (.t 9)),o 11 (.bin .eql (.t 8) (.t 10)),m 5 11]
def RV:=[bg 6 0]
def RW:=[m 12 6,m 13 0,o 14 (.len (.t 13)),lt 15 12 14,m 16 15,cq 17 5 16,and 18 16 17]
def RX:=[m 21 0,m 22 6,o 23 (.is 8 (.t 21) (.t 22)),ao 24 8 23,m 25 1,m 26 6,o 27 (.is 8 (.t 25) (.t 26)),ao 28 8 27,o 29 (.eqv (.aS [(.aS [(.i .i64),(.i .i64)]),(.i .i64),(.i .i64),(.i .i64),(.aS [(.i .i64),(.i .i64)]),.s]) false (.t 24) (.t 28)),m 5 29]
def M0:=some [[],[],[0,1],[2],[],[],[4,5],[6],[3,7],[8,0,1,2,3,4,5,6,7,8]]
def RY:=[m 19 6,ad 20 19 1,m 6 20]
def RZ:=[m 30 5,m 4 30]
def zn:bh:=(s (r RT) (s (r RU) (s (s (r RV) (.block 0 (.loop (s (s (r RW) (.cond (.t 18) .skip (.exit 0))) (s (.block 1 (.bW M0 RX)) (r RY)))))) (s (r RZ) .ret))))
def DY:List bp:=[.tmp 4]
theorem Kq:bQ Tryz.prog Tryz.f17 zn:=e (by kernel_rfl)
theorem LV:bN Tryz.prog Tryz.f17 DY:=e (by kernel_rfl)
theorem I5:bH Tryz.prog 17:=e (by kernel_rfl)
def Sz:=[b 1 0,o 2 (.alloc (.agg [.agg [.ay ⟨#[]⟩,.ay ⟨#[]⟩],.agg [.ay ⟨#[]⟩,.ay ⟨#[]⟩]])),o 3 (.mv (.c (.nils 8)))]
def SA:=[f 10 0 0 1,ao 11 2 10,o 12 (.call 73 [.t 11]),o 13 (.call 15 [.t 12]),m 9 13,o 14 (.ext (.t 9) 0),o 15 (.ext (.t 9) 1),m 4 14,m 5 15]
def SB:=[f 17 1 2 1,ao 18 2 17,o 19 (.call 73 [.t 18]),o 20 (.call 15 [.t 19]),m 16 20,o 21 (.ext (.t 16) 0),o 22 (.ext (.t 16) 1),m 6 21,m 7 22]
def SC:=[m 23 6,o 24 (.len (.t 23)),m 25 4,o 26 (.len (.t 25)),o 27 (.bin .gtr (.t 24) (.t 26))]
def SD:=[m 28 6,m 29 7,m 4 28,m 5 29]
def SE:=[m 30 5,o 31 (.call 74 [.t 30]),o 32 (.bld [.ay ⟨#[]⟩,.ay ⟨#[]⟩] [(0,(.t 31))]),o 8 (.alloc (.agg [.ay ⟨#[]⟩,.ay ⟨#[]⟩])),p (.aS (some 2) (.t 8) (.t 32))]
def SF:=[ao 33 2 8,ao 34 2 8,o 35 (.bld [.agg [.ay ⟨#[]⟩,.ay ⟨#[]⟩],.agg [.ay ⟨#[]⟩,.ay ⟨#[]⟩]] [(0,(.t 33)),(1,(.t 34))]),m 36 4,p (.aS (some 4) (.t 2) (.t 35)),m 3 36]
def zp:bh:=(s (r Sz) (s (r SA) (s (s (r SB) (s (r SC) (.cond (.t 27) (r SD) .skip))) (s (r SE) (s (r SF) .ret)))))
def D5:List bp:=[.cell 2 (some 4),.tmp 3]
theorem Kt:bQ Tryz.prog Tryz.f18 zp:=e (by kernel_rfl)
theorem LY:bN Tryz.prog Tryz.f18 D5:=e (by kernel_rfl)
theorem I7:bH Tryz.prog 18:=e (by kernel_rfl)
def SG:=[b 1 0,o 2 (.alloc (.agg [.agg [.ay ⟨#[]⟩,.ay ⟨#[]⟩],.agg [.ay ⟨#[]⟩,.ay ⟨#[]⟩]]))]
def SH:=[f 4 0 0 1,ao 5 2 4,o 6 (.call 73 [.t 5]),o 7 (.bld [.ay ⟨#[]⟩,.ay ⟨#[]⟩] [(0,(.t 6))]),o 3 (.alloc (.agg [.ay ⟨#[]⟩,.ay ⟨#[]⟩])),p (.aS (some 2) (.t 3) (.t 7))]
def SI:=[ao 8 2 3,ao 9 2 3,o 10 (.bld [.agg [.ay ⟨#[]⟩,.ay ⟨#[]⟩],.agg [.ay ⟨#[]⟩,.ay ⟨#[]⟩]] [(0,(.t 8)),(1,(.t 9))]),p (.aS (some 4) (.t 2) (.t 10))]
def c20:bh:=(s (r SG) (s (r SH) (s (r SI) .ret)))
def D7:List bp:=[.cell 2 (some 4)]
theorem Kv:bQ Tryz.prog Tryz.f20 c20:=e (by kernel_rfl)
theorem L0:bN Tryz.prog Tryz.f20 D7:=e (by kernel_rfl)
theorem I9:bH Tryz.prog 20:=e (by kernel_rfl)
def SJ:=[b 2 0,o 4 (.alloc (.agg [.agg [.ay ⟨#[]⟩,.ay ⟨#[]⟩],.agg [.ay ⟨#[]⟩,.ay ⟨#[]⟩]]))]
def SK:=[f 5 0 0 2,ao 6 2 5,m 7 1,o 8 (.call 75 [.t 6,.t 7,(aW 0)]),f 9 1 2 2,ao 10 2 9,m 11 1,o 12 (.call 75 [.t 10,.t 11,(aW 3)]),o 13 (.bld [.agg [.ay ⟨#[]⟩,.ay ⟨#[]⟩],.agg [.ay ⟨#[]⟩,.ay ⟨#[]⟩]] [(0,(.t 8)),(1,(.t 12))]),p (.aS (some 4) (.t 4) (.t 13))]
def M2:=some [[],[0],[],[1,2],[],[4],[],[5,6,3],[3,7],[8,7,0,1,2,3,4,5,6,7,8]]
def zr:bh:=(s (r SJ) (s (.bW M2 SK) .ret))
def D8:List bp:=[.cell 4 (some 4)]
theorem Kx:bQ Tryz.prog Tryz.f22 zr:=e (by kernel_rfl)
theorem L1:bN Tryz.prog Tryz.f22 D8:=e (by kernel_rfl)
theorem Ja:bH Tryz.prog 22:=e (by kernel_rfl)
def SL:=[b 2 0,o 4 (.alloc (.agg [.agg [.ay ⟨#[]⟩,.ay ⟨#[]⟩],.agg [.ay ⟨#[]⟩,.ay ⟨#[]⟩]]))]
def SM:=[m 5 1]
def SN:=[o 6 (.bld [.ay ⟨#[]⟩,.ay ⟨#[]⟩] []),f 7 1 2 2,p (.aS (some 2) (.t 7) (.t 6))]
def SO:=[o 8 (.bld [.ay ⟨#[]⟩,.ay ⟨#[]⟩] []),f 9 0 0 2,p (.aS (some 2) (.t 9) (.t 8))]
def SP:=[ao 10 4 2,p (.aS (some 4) (.t 4) (.t 10))]
def zt:bh:=(s (r SL) (s (s (r SM) (.cond (.t 5) (r SN) (r SO))) (s (r SP) .ret)))
def D9:List bp:=[.cell 4 (some 4)]
theorem Ky:bQ Tryz.prog Tryz.f24 zt:=e (by kernel_rfl)
theorem L2:bN Tryz.prog Tryz.f24 D9:=e (by kernel_rfl)
theorem Jb:bH Tryz.prog 24:=e (by kernel_rfl)
def SQ:=[o 2 (.mv (.c (.ay ⟨#[]⟩))),o 3 (.mv bj)]
def SR:=[o 4 (.mv (.c (.ay ⟨#[]⟩)))]
def SV:=[bg 5 1]
def SX:=[bg 6 0]
def SY:=[m 10 6,m 11 0,o 12 (.len (.t 11)),lt 13 10 12]
def SZ:=[m 17 5,m 18 0,m 19 6,o 20 (.is 8 (.t 18) (.t 19)),ao 21 8 20,o 22 (.call 29 [.t 17,.t 21]),m 16 22,o 23 (.ext (.t 16) 0),o 24 (.ext (.t 16) 1),o 25 (.ext (.t 16) 2),m 7 23,m 8 24,m 9 25]
def S0:=[m 26 9,o 27 (.bin .neq (.t 26) (aW 0))]
def S1:=[o 2 (.mv (.c (.ay ⟨#[]⟩))),o 3 (.mv bj)]
def S2:=[m 28 4,m 29 7,o 30 (.bin .add (.t 28) (.t 29)),m 4 30]
def S3:=[m 31 8,m 5 31]
def SS:=[m 14 6,ad 15 14 1,m 6 15]
def SU:=[m 32 4,m 2 32,o 3 (.mv T)]
def zu:bh:=(s (r SQ) (s (r SR) (s (r SV) (s (s (r SX) (.block 0 (.loop (s (s (r SY) (.cond (.t 13) .skip (.exit 0))) (s (.block 1 (s (r SZ) (s (s (r S0) (.cond (.t 27) (s (r S1) .ret) .skip)) (s (r S2) (r S3))))) (r SS)))))) (s (r SU) .ret)))))
def Ea:List bp:=[.tmp 2,.tmp 3]
theorem Kz:bQ Tryz.prog Tryz.f27 zu:=e (by kernel_rfl)
theorem L3:bN Tryz.prog Tryz.f27 Ea:=e (by kernel_rfl)
theorem Jc:bH Tryz.prog 27:=e (by kernel_rfl)
def S4:=[bg 4 0]
def S5:=[m 5 0,m 6 1,o 7 (.bin .rem (.t 5) (.t 6)),m 8 1,o 9 (.bin .add (.t 7) (.t 8)),m 10 1,o 11 (.bin .rem (.t 9) (.t 10)),m 4 11]
def zw:bh:=(s (r S4) (s (r S5) .ret))
def Eb:List bp:=[.tmp 4]
theorem KA:bQ Tryz.prog Tryz.f28 zw:=e (by kernel_rfl)
theorem L4:bN Tryz.prog Tryz.f28 Eb:=e (by kernel_rfl)
theorem Jd:bH Tryz.prog 28:=e (by kernel_rfl)
def S6:=[b 3 1,o 4 (.mv (.c (.ay ⟨#[]⟩))),bg 5 0,bg 6 0]
def S7:=[m 10 0,o 11 (.call 79 [.t 10]),no 12 11,m 9 12]
def S8:=[o 4 (.mv (.c (.ay ⟨#[]⟩))),bg 5 0,bg 6 1]
def S9:=[ao 14 8 3,o 15 (.call 80 [.t 14]),no 16 15,m 13 16]
def Ta:=[o 4 (.mv (.c (.ay ⟨#[]⟩))),bg 5 0,bg 6 80]
def Tb:=[m 18 0,ao 19 8 3,o 20 (.call 81 [.t 18,.t 19]),m 17 20,o 21 (.ext (.t 17) 0),o 22 (.ext (.t 17) 1),m 7 21,m 8 22]
def Tc:=[m 23 7,m 24 8,m 4 23,m 5 24,bg 6 0]
def zx:bh:=(s (r S6) (s (.block 0 (s (r S7) (.cond (.t 9) (s (r S8) .ret) (s (r S9) (.cond (.t 13) (s (r Ta) .ret) .skip))))) (s (r Tb) (s (r Tc) .ret))))
def Ec:List bp:=[.tmp 4,.tmp 5,.tmp 6]
theorem KB:bQ Tryz.prog Tryz.f29 zx:=e (by kernel_rfl)
theorem L5:bN Tryz.prog Tryz.f29 Ec:=e (by kernel_rfl)
theorem Je:bH Tryz.prog 29:=e (by kernel_rfl)
def Td:=[o 4 (.alloc (.agg [.agg [.int .i64 0,.int .i64 0],.int .i64 0,.int .i64 0,.int .i64 0,.agg [.int .i64 0,.int .i64 0],.ay ⟨#[]⟩])),bg 5 0,bg 6 0]
def Te:=[m 10 0,o 11 (.call 79 [.t 10]),no 12 11]
def Tf:=[o 13 (.bld [.agg [.int .i64 0,.int .i64 0],.int .i64 0,.int .i64 0,.int .i64 0,.agg [.int .i64 0,.int .i64 0],.ay ⟨#[]⟩] []),p (.aS (some 8) (.t 4) (.t 13)),bg 5 0,bg 6 1]
def Tg:=[m 15 0,m 16 1,o 17 (.call 70 [.t 15,.t 16]),m 14 17,o 18 (.ext (.t 14) 0),o 19 (.ext (.t 14) 1),o 20 (.ext (.t 14) 2),o 7 (.alloc (.agg [.agg [.int .i64 0,.int .i64 0],.int .i64 0,.int .i64 0,.int .i64 0,.agg [.int .i64 0,.int .i64 0],.ay ⟨#[]⟩])),p (.aS (some 8) (.t 7) (.t 18)),m 8 19,m 9 20]
def Th:=[m 21 9,no 22 21]
def Ti:=[o 23 (.bld [.agg [.int .i64 0,.int .i64 0],.int .i64 0,.int .i64 0,.int .i64 0,.agg [.int .i64 0,.int .i64 0],.ay ⟨#[]⟩] []),p (.aS (some 8) (.t 4) (.t 23)),bg 5 0,bg 6 87]
def Tj:=[ao 24 8 7,m 25 8,p (.aS (some 8) (.t 4) (.t 24)),m 5 25,bg 6 0]
def zy:bh:=(s (r Td) (s (s (r Te) (.cond (.t 12) (s (r Tf) .ret) .skip)) (s (r Tg) (s (s (r Th) (.cond (.t 22) (s (r Ti) .ret) .skip)) (s (r Tj) .ret)))))
def Ed:List bp:=[.cell 4 (some 8),.tmp 5,.tmp 6]
theorem KC:bQ Tryz.prog Tryz.f31 zy:=e (by kernel_rfl)
theorem L6:bN Tryz.prog Tryz.f31 Ed:=e (by kernel_rfl)
theorem Jf:bH Tryz.prog 31:=e (by kernel_rfl)
def Tk:=[b 1 0,bg 2 0]
def Tl:=[f 3 0 0 1,ao 4 2 3,o 5 (.call 85 [.t 4]),no 6 5,m 7 6,fn 8 1 2 1 7,eZ 9 8 7,on 10 (.call 82 [.t 9,(aW 0),(aW 40)]) 7,on 11 (.un .not (.t 10)) 7,or 12 7 11,m 13 12,fn 14 2 3 1 13,eZ 15 14 13,on 16 (.call 82 [.t 15,(aW 0),(aW 100000)]) 13,on 17 (.un .not (.t 16)) 13,or 18 13 17,m 19 18,fn 20 3 4 1 19,eZ 21 20 19,on 22 (.call 82 [.t 21,(aW 0),(aW 100000)]) 19,on 23 (.un .not (.t 22)) 19,or 24 19 23,m 25 24,fn 26 5 7 1 25,eZ 27 26 25,on 28 (.call 86 [.t 27]) 25,on 29 (.un .not (.t 28)) 25,or 30 25 29]
def Tm:=[bg 2 80]
def Tn:=[f 31 1 2 1,l 32 31,o 33 (.bin .eql (.t 32) (aW 0))]
def Tp:=[f 34 2 3 1,l 35 34,o 36 (.bin .neq (.t 35) (aW 0)),m 37 36,fn 38 5 7 1 37,eZ 39 38 37,on 40 (.bin .neq (.t 39) (.c (.ay ⟨#[]⟩))) 37,or 41 37 40,m 42 41,fn 43 4 5 1 42,on 44 (.ld (some 2) (.t 43)) 42,on 45 (.call 85 [.t 44]) 42,on 46 (.un .not (.t 45)) 42,or 47 42 46,m 48 47,fn 49 4 5 1 48,fn 50 0 0 49 48,eZ 51 50 48,fn 52 0 0 1 48,fn 53 0 0 52 48,eZ 54 53 48,on 55 (.bin .neq (.t 51) (.t 54)) 48,or 56 48 55,m 57 56,fn 58 4 5 1 57,fn 59 1 1 58 57,eZ 60 59 57,fn 61 0 0 1 57,fn 62 1 1 61 57,eZ 63 62 57,on 64 (.bin .geq (.t 60) (.t 63)) 57,or 65 57 64]
def Tq:=[bg 2 80]
def Tr:=[bg 2 0]
def Ts:=[f 66 4 5 1,ao 67 2 66,o 68 (.bld [.int .i64 0,.int .i64 0] []),o 69 (.eqv (.aS [(.i .i64),(.i .i64)]) true (.t 67) (.t 68))]
def Tt:=[bg 2 80]
def Tu:=[bg 2 0]
def zA:bh:=(s (r Tk) (s (s (r Tl) (.cond (.t 30) (s (r Tm) .ret) .skip)) (s (s (r Tn) (.cond (.t 33) (s (s (r Tp) (.cond (.t 65) (s (r Tq) .ret) .skip)) (s (r Tr) .ret)) .skip)) (s (s (r Ts) (.cond (.t 69) (s (r Tt) .ret) .skip)) (s (r Tu) .ret)))))
def Ee:List bp:=[.tmp 2]
theorem KD:bQ Tryz.prog Tryz.f34 zA:=e (by kernel_rfl)
theorem L7:bN Tryz.prog Tryz.f34 Ee:=e (by kernel_rfl)
theorem Jg:bH Tryz.prog 34:=e (by kernel_rfl)
def Tv:=[b 3 0,b 5 2,o 6 (.alloc (.agg [.agg [.ay ⟨#[]⟩,.ay ⟨#[]⟩],.agg [.ay ⟨#[]⟩,.ay ⟨#[]⟩]])),o 7 (.mv (.c (.nils 8))),bg 8 0]
def Tw:=[ao 9 4 3,m 10 1,o 11 (.call 87 [.t 9,.t 10]),no 12 11]
def Tx:=[o 13 (.bld [.agg [.ay ⟨#[]⟩,.ay ⟨#[]⟩],.agg [.ay ⟨#[]⟩,.ay ⟨#[]⟩]] []),p (.aS (some 4) (.t 6) (.t 13)),o 7 (.mv (.c (.nils 8))),bg 8 84]
def Ty:=[ao 14 4 3,m 15 1,ao 16 8 5,o 17 (.call 88 [.t 14,.t 15,.t 16]),o 18 (.ext (.t 17) 0),o 19 (.ext (.t 17) 1),o 20 (.ext (.t 17) 2),p (.aS (some 4) (.t 6) (.t 18)),m 7 19,m 8 20]
def zB:bh:=(s (r Tv) (s (s (r Tw) (.cond (.t 12) (s (r Tx) .ret) .skip)) (s (r Ty) .ret)))
def Ef:List bp:=[.cell 6 (some 4),.tmp 7,.tmp 8]
theorem KE:bQ Tryz.prog Tryz.f35 zB:=e (by kernel_rfl)
theorem L8:bN Tryz.prog Tryz.f35 Ef:=e (by kernel_rfl)
theorem Jh:bH Tryz.prog 35:=e (by kernel_rfl)
def Tz:=[b 2 0,b 3 1,o 4 (.alloc (.agg [.nils 8])),bg 5 0]
def TA:=[ao 9 1 2,o 10 (.call 92 [.t 9]),no 11 10,m 8 11]
def TF:=[o 12 (.bld [.nils 8] []),p (.aS (some 1) (.t 4) (.t 12)),bg 5 81]
def TG:=[ao 14 8 3,o 15 (.call 80 [.t 14]),no 16 15,m 13 16]
def TH:=[o 17 (.bld [.nils 8] []),p (.aS (some 1) (.t 4) (.t 17)),bg 5 80]
def TI:=[ao 19 1 2,f 20 0 0 3,ao 21 2 20,o 22 (.call 94 [.t 19,.t 21]),m 18 22,o 23 (.ext (.t 18) 0),o 24 (.ext (.t 18) 1),m 6 23,m 7 24]
def TJ:=[m 26 7,m 27 26,cW 28 0 0 2 27,eH 29 28 27,cq 30 6 27,bB 31 (.is 8 (.t 29) (.t 30)) 27,bB 32 (.ld (some 8) (.t 31)) 27,bB 33 (.ld (some 8) (.t 3)) 27,bB 34 (.eqv (.aS [(.aS [(.i .i64),(.i .i64)]),(.i .i64),(.i .i64),(.i .i64),(.aS [(.i .i64),(.i .i64)]),.s]) false (.t 32) (.t 33)) 27,and 35 27 34,m 25 35]
def M5:=some [[],[0],[1],[2,1],[1],[3,4,1],[5,1],[1],[6,7,1],[1,8],[9,1]]
def TK:=[f 36 0 0 2,l 37 36,o 38 (.call 93 [.t 37]),o 39 (.bld [.nils 8] [(0,(.t 38))]),p (.aS (some 1) (.t 4) (.t 39)),bg 5 0]
def TL:=[m 41 7,m 40 41]
def TM:=[o 42 (.bld [.nils 8] []),p (.aS (some 1) (.t 4) (.t 42)),bg 5 82]
def TB:=[f 44 0 0 2,l 45 44,o 46 (.call 100 [.t 45]),f 47 0 0 3,f 48 0 0 47,l 49 48,o 50 (.ix 6 1 none (.t 46) (.t 49)),f 51 0 0 3,f 52 1 1 51,l 53 52,lt 54 50 53,m 43 54]
def M3:=some [[],[0],[1],[],[3],[4],[2,5],[],[7],[8],[6,9],[10,2]]
def TC:=[o 55 (.bld [.nils 8] []),p (.aS (some 1) (.t 4) (.t 55)),bg 5 83]
def TD:=[f 57 0 0 2,l 58 57,o 59 (.len (.t 58)),o 60 (.bin .eql (.t 59) (aW 60)),m 56 60]
def TE:=[o 61 (.bld [.nils 8] []),p (.aS (some 1) (.t 4) (.t 61)),bg 5 2]
def vB:=[f 62 0 0 2,l 63 62,o 64 (.call 93 [.t 63]),m 65 6,ao 66 8 3,o 67 (.bs 50 8 [.t 66]),o 68 (.call 101 [.t 64,.t 65,.t 67]),o 69 (.bld [.nils 8] [(0,(.t 68))]),p (.aS (some 1) (.t 4) (.t 69)),bg 5 0]
def M4:=some [[],[0],[1],[],[],[4],[2,3,5,2],[6],[7,6,0,1,2,3,4,5,6,7],[8,0,1,2,3,4,5,6,7,8]]
def zC:bh:=(s (r Tz) (s (.block 0 (s (r TA) (.cond (.t 8) (s (r TF) .ret) (s (r TG) (.cond (.t 13) (s (r TH) .ret) .skip))))) (s (r TI) (s (.block 1 (s (.bW M5 TJ) (.cond (.t 25) (s (r TK) .ret) (s (r TL) (.cond (.t 40) (s (r TM) .ret) (s (.bW M3 TB) (.cond (.t 43) (s (r TC) .ret) (s (r TD) (.cond (.t 56) (s (r TE) .ret) .skip))))))))) (s (.bW M4 vB) .ret)))))
def Eg:List bp:=[.cell 4 (some 1),.tmp 5]
theorem KF:bQ Tryz.prog Tryz.f44 zC:=e (by kernel_rfl)
theorem L9:bN Tryz.prog Tryz.f44 Eg:=e (by kernel_rfl)
theorem Ji:bH Tryz.prog 44:=e (by kernel_rfl)
def TN:=[b 1 0,bg 2 0]
def TO:=[ao 3 1 1,o 4 (.call 92 [.t 3]),no 5 4]
def TP:=[bg 2 81]
def TQ:=[bg 2 0]
def zD:bh:=(s (r TN) (s (s (r TO) (.cond (.t 5) (s (r TP) .ret) .skip)) (s (r TQ) .ret)))
def Ei:List bp:=[.tmp 2]
theorem KG:bQ Tryz.prog Tryz.f45 zD:=e (by kernel_rfl)
theorem Ma:bN Tryz.prog Tryz.f45 Ei:=e (by kernel_rfl)
theorem Jj:bH Tryz.prog 45:=e (by kernel_rfl)
def TR:=[b 2 0,b 3 1,o 4 (.alloc (.agg [.nils 8])),bg 5 0]
def TS:=[ao 8 1 2,o 9 (.call 53 [.t 8]),o 10 (.bin .neq (.t 9) (aW 0))]
def TT:=[o 11 (.bld [.nils 8] []),p (.aS (some 1) (.t 4) (.t 11)),bg 5 81]
def TU:=[f 13 0 0 2,l 14 13,ao 15 8 3,o 16 (.call 89 [.t 14,.t 15]),m 12 16,o 17 (.ext (.t 12) 0),o 18 (.ext (.t 12) 1),m 6 17,m 7 18]
def TV:=[m 19 7,o 20 (.bin .neq (.t 19) (aW 0))]
def TW:=[o 21 (.bld [.nils 8] []),m 22 7,p (.aS (some 1) (.t 4) (.t 21)),m 5 22]
def TX:=[m 23 6,no 24 23]
def TY:=[o 25 (.bs0 8),f 26 0 0 2,l 27 26,o 28 (.du 50 8 72 (.agg [.agg [.int .i64 0,.int .i64 0],.int .i64 0,.int .i64 0,.int .i64 0,.agg [.int .i64 0,.int .i64 0],.ay ⟨#[]⟩]) (.t 25) (.t 27)),o 29 (.bld [.nils 8] [(0,(.t 28))]),p (.aS (some 1) (.t 4) (.t 29)),bg 5 0]
def TZ:=[f 30 0 0 2,l 31 30,ao 32 8 3,o 33 (.call 97 [.t 31,.t 32]),o 34 (.bld [.nils 8] [(0,(.t 33))]),p (.aS (some 1) (.t 4) (.t 34)),bg 5 0]
def c46:bh:=(s (r TR) (s (s (r TS) (.cond (.t 10) (s (r TT) .ret) .skip)) (s (r TU) (s (s (r TV) (.cond (.t 20) (s (r TW) .ret) .skip)) (s (s (r TX) (.cond (.t 24) (s (r TY) .ret) .skip)) (s (r TZ) .ret))))))
def Ej:List bp:=[.cell 4 (some 1),.tmp 5]
theorem KH:bQ Tryz.prog Tryz.f46 c46:=e (by kernel_rfl)
theorem Mb:bN Tryz.prog Tryz.f46 Ej:=e (by kernel_rfl)
theorem Jk:bH Tryz.prog 46:=e (by kernel_rfl)
def T0:=[b 1 0,o 2 (.alloc (.agg [.int .i64 0,.int .i64 0,.int .i64 0,.int .i64 0,.int .i64 0,.int .i64 0])),bg 3 0]
def T6:=[ao 4 1 1,o 5 (.call 92 [.t 4]),no 6 5]
def T7:=[o 7 (.bld [.int .i64 0,.int .i64 0,.int .i64 0,.int .i64 0,.int .i64 0,.int .i64 0] []),p (.aS (some 6) (.t 2) (.t 7)),bg 3 81]
def T8:=[f 8 0 0 1,l 9 8,o 10 (.call 100 [.t 9]),p (.aS (some 6) (.t 2) (.t 10)),bg 3 0]
def zE:bh:=(s (r T0) (s (s (r T6) (.cond (.t 6) (s (r T7) .ret) .skip)) (s (r T8) .ret)))
def Ek:List bp:=[.cell 2 (some 6),.tmp 3]
theorem KI:bQ Tryz.prog Tryz.f47 zE:=e (by kernel_rfl)
theorem Mc:bN Tryz.prog Tryz.f47 Ek:=e (by kernel_rfl)
theorem Jl:bH Tryz.prog 47:=e (by kernel_rfl)
def T9:=[b 1 0,o 2 (.alloc (.agg [.int .i64 0,.int .i64 0,.int .i64 0,.int .i64 0,.int .i64 0,.int .i64 0])),bg 3 0]
def Ua:=[ao 4 1 1,o 5 (.call 53 [.t 4]),o 6 (.bin .neq (.t 5) (aW 0))]
def Ub:=[o 7 (.bld [.int .i64 0,.int .i64 0,.int .i64 0,.int .i64 0,.int .i64 0,.int .i64 0] []),p (.aS (some 6) (.t 2) (.t 7)),bg 3 81]
def Uc:=[f 8 0 0 1,l 9 8,o 10 (.call 102 [.t 9]),p (.aS (some 6) (.t 2) (.t 10)),bg 3 0]
def zF:bh:=(s (r T9) (s (s (r Ua) (.cond (.t 6) (s (r Ub) .ret) .skip)) (s (r Uc) .ret)))
def El:List bp:=[.cell 2 (some 6),.tmp 3]
theorem KJ:bQ Tryz.prog Tryz.f48 zF:=e (by kernel_rfl)
theorem Md:bN Tryz.prog Tryz.f48 El:=e (by kernel_rfl)
theorem Jm:bH Tryz.prog 48:=e (by kernel_rfl)
def Ud:=[b 2 0,b 3 1,o 4 (.mv bj),bg 5 0]
def Ue:=[ao 8 1 2,o 9 (.call 92 [.t 8]),no 10 9]
def Uf:=[o 4 (.mv bj),bg 5 81]
def Ug:=[f 12 0 0 2,l 13 12,o 14 (.call 103 [.t 13,(aW 100000)]),ao 15 2 3,o 16 (.lk (.aS [(.i .i64),(.i .i64)]) (.bool false) true (.t 14) (.t 15)),m 11 16,o 17 (.ext (.t 11) 0),o 18 (.ext (.t 11) 1),m 6 17,m 7 18]
def M6:=some [[],[0],[1],[],[2,3],[4],[5],[5],[6,2,0,1,2,3,4,5,6],[7,8,0,1,2,3,4,5,6,7,8]]
def Uh:=[m 19 7,no 20 19]
def Ui:=[o 4 (.mv bj),bg 5 3]
def Uj:=[m 21 6,m 4 21,bg 5 0]
def zG:bh:=(s (r Ud) (s (s (r Ue) (.cond (.t 10) (s (r Uf) .ret) .skip)) (s (.bW M6 Ug) (s (s (r Uh) (.cond (.t 20) (s (r Ui) .ret) .skip)) (s (r Uj) .ret)))))
def Em:List bp:=[.tmp 4,.tmp 5]
theorem KK:bQ Tryz.prog Tryz.f49 zG:=e (by kernel_rfl)
theorem Me:bN Tryz.prog Tryz.f49 Em:=e (by kernel_rfl)
theorem Jn:bH Tryz.prog 49:=e (by kernel_rfl)
def Uk:=[b 2 0,b 3 1,o 4 (.mv bj),bg 5 0]
def Ul:=[ao 7 1 2,o 8 (.call 53 [.t 7]),o 9 (.bin .neq (.t 8) (aW 0))]
def Um:=[o 4 (.mv bj),bg 5 81]
def Un:=[f 10 0 0 2,l 11 10,ao 12 2 3,o 13 (.call 96 [.t 11,.t 12]),m 6 13]
def Uo:=[m 14 6,o 15 (.bin .lss (.t 14) (aW 0))]
def Up:=[o 4 (.mv bj),bg 5 3]
def Uq:=[f 16 0 0 2,l 17 16,o 18 (.call 104 [.t 17,(aW 100000)]),m 19 6,o 20 (.is 1 (.t 18) (.t 19)),l 21 20,m 4 21,bg 5 0]
def zH:bh:=(s (r Uk) (s (s (r Ul) (.cond (.t 9) (s (r Um) .ret) .skip)) (s (r Un) (s (s (r Uo) (.cond (.t 15) (s (r Up) .ret) .skip)) (s (r Uq) .ret)))))
def En:List bp:=[.tmp 4,.tmp 5]
theorem KL:bQ Tryz.prog Tryz.f50 zH:=e (by kernel_rfl)
theorem Mf:bN Tryz.prog Tryz.f50 En:=e (by kernel_rfl)
theorem Jo:bH Tryz.prog 50:=e (by kernel_rfl)
def Ur:=[b 2 0,b 3 1,o 4 (.mv (.c (.nils 8))),bg 5 0]
def Us:=[ao 8 1 2,o 9 (.call 92 [.t 8]),no 10 9,m 7 10]
def Ut:=[o 4 (.mv (.c (.nils 8))),bg 5 81]
def Uu:=[l 12 3,o 13 (.call 105 [.t 12]),no 14 13,m 11 14]
def Uv:=[o 4 (.mv (.c (.nils 8))),bg 5 6]
def Uw:=[f 15 0 0 2,l 16 15,l 17 3,o 18 (.call 103 [.t 16,.t 17]),o 6 (.alloc (.raw (.map none))),p (.aS none (.t 6) (.t 18))]
def Ux:=[f 19 0 0 2,l 20 19,o 21 (.call 93 [.t 20]),o 22 (.mk 107 [.t 3,.t 6]),o 23 (.call 106 [.t 21,.t 22]),m 4 23,bg 5 0]
def c51:bh:=(s (r Ur) (s (.block 0 (s (r Us) (.cond (.t 7) (s (r Ut) .ret) (s (r Uu) (.cond (.t 11) (s (r Uv) .ret) .skip))))) (s (r Uw) (s (r Ux) .ret))))
def Eo:List bp:=[.tmp 4,.tmp 5]
theorem KM:bQ Tryz.prog Tryz.f51 c51:=e (by kernel_rfl)
theorem Mg:bN Tryz.prog Tryz.f51 Eo:=e (by kernel_rfl)
theorem Jp:bH Tryz.prog 51:=e (by kernel_rfl)
def Uy:=[b 2 0,o 4 (.mv (.c (.nils 8))),bg 5 0]
def Uz:=[ao 9 1 2,o 10 (.call 53 [.t 9]),o 11 (.bin .neq (.t 10) (aW 0))]
def UD:=[o 4 (.mv (.c (.nils 8))),bg 5 81]
def UE:=[m 12 1,o 13 (.call 82 [.t 12,(aW 0),(aW 100000)]),no 14 13]
def UF:=[o 4 (.mv (.c (.nils 8))),bg 5 6]
def UG:=[f 15 0 0 2,l 16 15,m 17 1,o 18 (.call 104 [.t 16,.t 17]),m 6 18]
def UH:=[o 7 (.mv (.c (.nils 8)))]
def UI:=[bg 8 0]
def UJ:=[m 19 8,m 20 6,o 21 (.len (.t 20)),lt 22 19 21]
def UK:=[m 25 6,m 26 8,o 27 (.is 1 (.t 25) (.t 26)),l 28 27,m 29 28,cW 30 0 0 2 29,eH 31 30 29,cq 32 8 29,bB 33 (.is 8 (.t 31) (.t 32)) 29,cW 34 3 4 33 29,eH 35 34 29,cq 36 1 29,bB 37 (.bin .leq (.t 35) (.t 36)) 29,and 38 29 37,m 39 38,cW 40 0 0 2 39,eH 41 40 39,cq 42 8 39,bB 43 (.is 8 (.t 41) (.t 42)) 39,cW 44 1 2 43 39,eH 45 44 39,bB 46 (.bin .neq (.t 45) (aW 0)) 39,and 47 39 46]
def UA:=[m 48 7,f 49 0 0 2,l 50 49,m 51 8,o 52 (.is 8 (.t 50) (.t 51)),ao 53 8 52,o 54 (.bs 50 8 [.t 53]),o 55 (.du 50 8 72 (.agg [.agg [.int .i64 0,.int .i64 0],.int .i64 0,.int .i64 0,.int .i64 0,.agg [.int .i64 0,.int .i64 0],.ay ⟨#[]⟩]) (.t 48) (.t 54)),m 7 55]
def UB:=[m 23 8,ad 24 23 1,m 8 24]
def UC:=[m 56 7,m 4 56,bg 5 0]
def zI:bh:=(s (r Uy) (s (s (r Uz) (.cond (.t 11) (s (r UD) .ret) .skip)) (s (s (r UE) (.cond (.t 14) (s (r UF) .ret) .skip)) (s (r UG) (s (r UH) (s (s (r UI) (.block 0 (.loop (s (s (r UJ) (.cond (.t 22) .skip (.exit 0))) (s (.block 1 (s (r UK) (.cond (.t 47) (r UA) .skip))) (r UB)))))) (s (r UC) .ret)))))))
def Ep:List bp:=[.tmp 4,.tmp 5]
theorem KN:bQ Tryz.prog Tryz.f52 zI:=e (by kernel_rfl)
theorem Mh:bN Tryz.prog Tryz.f52 Ep:=e (by kernel_rfl)
theorem Jq:bH Tryz.prog 52:=e (by kernel_rfl)
def UL:=[b 1 0,bg 2 0]
def UM:=[f 5 0 0 1,l 6 5,o 7 (.len (.t 6)),o 8 (.bin .gtr (.t 7) (aW 60))]
def UN:=[bg 2 81]
def UO:=[bg 3 0]
def UP:=[m 9 3,f 10 0 0 1,l 11 10,o 12 (.len (.t 11)),lt 13 9 12]
def UQ:=[f 16 0 0 1,l 17 16,m 18 3,o 19 (.is 8 (.t 17) (.t 18)),ao 20 8 19,o 4 (.alloc (.agg [.agg [.int .i64 0,.int .i64 0],.int .i64 0,.int .i64 0,.int .i64 0,.agg [.int .i64 0,.int .i64 0],.ay ⟨#[]⟩])),p (.aS (some 8) (.t 4) (.t 20))]
def UR:=[ao 21 8 4,o 22 (.call 34 [.t 21]),o 23 (.bin .neq (.t 22) (aW 0)),m 24 23,fN 25 3 24,on 26 (.bin .gtr (.t 25) (aW 0)) 24,fN 27 26 24,cW 28 0 0 1 27,eH 29 28 27,cq 30 3 27,bB 31 (.bin .sub (.t 30) (aW 1)) 27,bB 32 (.is 8 (.t 29) (.t 31)) 27,cW 33 0 0 32 27,bB 34 (.ld (some 2) (.t 33)) 27,cW 35 0 0 4 27,bB 36 (.ld (some 2) (.t 35)) 27,bB 37 (.call 108 [.t 34,.t 36]) 27,bB 38 (.un .not (.t 37)) 27,on 39 (.pick (.t 27) (.t 38) bj) 24,or 40 24 39,m 41 40,fn 42 0 0 1 41,eZ 43 42 41,fN 44 3 41,fN 45 3 41,on 46 (.sl 8 (.t 43) none (some (.t 44)) (some (.t 45))) 41,on 47 (.call 102 [.t 46]) 41,fn 48 0 0 4 41,fn 49 0 0 48 41,eZ 50 49 41,on 51 (.ix 6 1 none (.t 47) (.t 50)) 41,fn 52 0 0 4 41,fn 53 1 1 52 41,eZ 54 53 41,on 55 (.bin .neq (.t 51) (.t 54)) 41,or 56 41 55]
def M7:=some [[],[0],[1],[2,1],[3],[4,3],[5,3,3],[6],[7,6],[6],[9,6],[8,10,6],[11,6],[12,6],[6],[14,6],[13,15,6,6],[16,6],[6,17,3],[3,18],[19,16],[20],[21,20],[20],[20],[22,23,24,20],[25,20,20],[20],[27,20],[28,20],[26,29,20],[20],[31,20],[32,20],[30,33,20],[20,34]]
def US:=[bg 2 81]
def UT:=[m 14 3,ad 15 14 1,m 3 15]
def UU:=[bg 2 0]
def c53:bh:=(s (r UL) (s (s (r UM) (.cond (.t 8) (s (r UN) .ret) .skip)) (s (s (r UO) (.block 0 (.loop (s (s (r UP) (.cond (.t 13) .skip (.exit 0))) (s (.block 1 (s (r UQ) (s (.bW M7 UR) (.cond (.t 56) (s (r US) .ret) .skip)))) (r UT)))))) (s (r UU) .ret))))
def Er:List bp:=[.tmp 2]
theorem KO:bQ Tryz.prog Tryz.f53 c53:=e (by kernel_rfl)
theorem Mi:bN Tryz.prog Tryz.f53 Er:=e (by kernel_rfl)
theorem Jr:bH Tryz.prog 53:=e (by kernel_rfl)
def UW:=[b 1 0,o 2 (.mv (.c (.cZ)))]
def UX:=[o 3 (.mk 122 [.t 1]),m 2 3]
def zJ:bh:=(s (r UW) (s (r UX) .ret))
def Es:List bp:=[.tmp 2]
theorem KP:bQ Tryz.prog Tryz.f69 zJ:=e (by kernel_rfl)
theorem Mj:bN Tryz.prog Tryz.f69 Es:=e (by kernel_rfl)
theorem Js:bH Tryz.prog 69:=e (by kernel_rfl)
def BH:=[o 4 (.alloc (.agg [.agg [.int .i64 0,.int .i64 0],.int .i64 0,.int .i64 0,.int .i64 0,.agg [.int .i64 0,.int .i64 0],.ay ⟨#[]⟩])),o 5 (.alloc (.int .i64 0)),o 6 (.alloc (.bool false))]
def UY:=[m 15 1,o 16 (.call 125 [.t 15,(.c (.ay ⟨#[10]⟩))]),m 14 16,o 17 (.ext (.t 14) 0),o 18 (.ext (.t 14) 1),m 7 17,m 8 18]
def U7:=[m 19 8,no 20 19]
def BK:=[o 21 (.bld [] []),o 22 (.prim (.mF 176) [.t 21]),p (.prim .kO [.t 22])]
def U8:=[bg 9 0]
def U9:=[o 10 (.alloc (.agg [.int .i64 0,.int .i64 0,.int .i64 0,.int .i64 0,.int .i64 0,.int .i64 0,.int .i64 0]))]
def BL:=[m 24 7,o 25 (.call 126 [.t 24]),m 23 25,o 26 (.ext (.t 23) 0),o 27 (.ext (.t 23) 1),m 9 26,m 7 27]
def Va:=[bg 28 0]
def Vb:=[o 29 (.bin .lss (.t 28) (aW 7))]
def Vc:=[m 30 28,m 11 30]
def BI:=[m 32 11,m 33 7,o 34 (.call 126 [.t 33]),m 31 34,o 35 (.ext (.t 31) 0),o 36 (.ext (.t 31) 1),o 37 (.ia 7 1 (.t 10) (.t 32)),p (.aS none (.t 37) (.t 35)),m 7 36]
def UZ:=[ad 38 28 1,m 28 38]
def U0:=[o 39 (.ia 7 1 (.t 10) (aW 0)),l 40 39,o 41 (.ia 7 1 (.t 10) (aW 1)),l 42 41,o 43 (.bld [.int .i64 0,.int .i64 0] [(0,(.t 40)),(1,(.t 42))]),o 44 (.ia 7 1 (.t 10) (aW 2)),l 45 44,o 46 (.ia 7 1 (.t 10) (aW 3)),l 47 46,o 48 (.ia 7 1 (.t 10) (aW 4)),l 49 48,o 50 (.ia 7 1 (.t 10) (aW 5)),l 51 50,o 52 (.ia 7 1 (.t 10) (aW 6)),l 53 52,o 54 (.bld [.int .i64 0,.int .i64 0] [(0,(.t 51)),(1,(.t 53))]),m 55 7,o 56 (.bld [.agg [.int .i64 0,.int .i64 0],.int .i64 0,.int .i64 0,.int .i64 0,.agg [.int .i64 0,.int .i64 0],.ay ⟨#[]⟩] [(0,(.t 43)),(1,(.t 45)),(2,(.t 47)),(3,(.t 49)),(4,(.t 54)),(5,(.t 55))]),p (.aS (some 8) (.t 4) (.t 56))]
def U4:=[ao 57 8 4,o 58 (.call 80 [.t 57]),no 59 58]
def BJ:=[o 60 (.bld [] []),o 61 (.prim (.mF 176) [.t 60]),p (.prim .kO [.t 61])]
def U5:=[m 63 0,ao 64 8 4,o 65 (.call 81 [.t 63,.t 64]),m 62 65,o 66 (.ext (.t 62) 0),o 67 (.ext (.t 62) 1),m 12 66,p (.aS none (.t 5) (.t 67))]
def U6:=[m 68 12,m 69 1,o 70 (.bin .neq (.t 68) (.t 69)),m 71 70,fN 72 9 71,eZ 73 5 71,on 74 (.bin .neq (.t 72) (.t 73)) 71,or 75 71 74]
def vC:=[o 76 (.bld [] []),o 77 (.prim (.mF 176) [.t 76]),p (.prim .kO [.t 77])]
def vD:=[ao 78 8 4,l 79 5,p (.aS (some 8) (.t 4) (.t 78)),p (.aS none (.t 5) (.t 79)),p (.aS none (.t 6) T)]
def M8:=some [[],[],[0,0],[1,2,0,1,2],[3,0,1,2,3]] -- DRAW BAD
def tH:List bp:=[.cell 4 (some 8),.cell 5 none,.cell 6 none]
theorem Mk:bN Tryz.prog Tryz.f70 tH:=e (by kernel_rfl)
theorem Jt:bH Tryz.prog 70:=e (by kernel_rfl)
def Vd:=[b 3 1,o 4 (.mv bj)]
def Ve:=[m 5 0,o 6 (.len (.t 5)),o 7 (.bin .lss (.t 6) (aW 60)),m 8 7,cq 9 0 8,bB 10 (.call 100 [.t 9]) 8,cW 11 0 0 3 8,cW 12 0 0 11 8,eH 13 12 8,bB 14 (.ix 6 1 none (.t 10) (.t 13)) 8,cW 15 0 0 3 8,cW 16 1 1 15 8,eH 17 16 8,bB 18 (.bin .eql (.t 14) (.t 17)) 8,and 19 8 18,m 4 19]
def M9:=some [[],[0],[1],[2],[3],[4,3,3],[3],[6,3],[7,3],[5,8,3],[3],[10,3],[11,3],[9,12,3],[3,13],[14,5,0,1,2,3,4,5,6,7,8,9,10,11,12,13,14]]
def zK:bh:=(s (r Vd) (s (.bW M9 Ve) .ret))
def Et:List bp:=[.tmp 4]
theorem KQ:bQ Tryz.prog Tryz.f71 zK:=e (by kernel_rfl)
theorem Ml:bN Tryz.prog Tryz.f71 Et:=e (by kernel_rfl)
theorem Ju:bH Tryz.prog 71:=e (by kernel_rfl)
def Vf:=[b 1 0,o 2 (.mv (.c (.ay ⟨#[]⟩)))]
def Vg:=[f 3 0 0 1,l 4 3,f 5 1 1 1,l 6 5,o 7 (.bin .add (.t 4) (.t 6)),m 2 7]
def zL:bh:=(s (r Vf) (s (r Vg) .ret))
def Eu:List bp:=[.tmp 2]
theorem KR:bQ Tryz.prog Tryz.f73 zL:=e (by kernel_rfl)
theorem Mm:bN Tryz.prog Tryz.f73 Eu:=e (by kernel_rfl)
theorem Jv:bH Tryz.prog 73:=e (by kernel_rfl)
def Vh:=[o 2 (.mv (.c (.ay ⟨#[]⟩)))]
def Vi:=[m 3 0,o 4 (.call 127 [.t 3]),m 2 4]
def zM:bh:=(s (r Vh) (s (r Vi) .ret))
def Ev:List bp:=[.tmp 2]
theorem KS:bQ Tryz.prog Tryz.f74 zM:=e (by kernel_rfl)
theorem Mn:bN Tryz.prog Tryz.f74 Ev:=e (by kernel_rfl)
theorem Jw:bH Tryz.prog 74:=e (by kernel_rfl)
def Vj:=[b 3 0,o 6 (.alloc (.agg [.ay ⟨#[]⟩,.ay ⟨#[]⟩]))]
def lD:=[f 9 1 1 3,l 10 9,m 11 1,m 12 2,f 13 1 1 3,l 14 13,o 15 (.lenT (.t 14)),ad 16 15 1,o 17 (.call 121 [.t 11,.t 12,.t 16]),o 18 (.prim (.ss false true) [.t 10,.t 17]),o 19 (.eT (.t 18)),m 7 19]
def Na:=some [[],[0],[],[],[],[4],[5],[6],[2,3,7],[1,8],[9],[10,8,0,1,2,3,4,5,6,7,8,9,10]]
def Vk:=[m 20 1,m 21 2,ad 22 21 1,o 23 (.call 121 [.t 20,.t 22,(aW 2)]),o 24 (.bin .eql (.t 23) (aW 1)),m 25 24,cq 26 7 25,bB 27 (.len (.t 26)) 25,bB 28 (.bin .gtr (.t 27) (aW 0)) 25,and 29 25 28]
def Vl:=[m 30 7,m 31 1,m 32 2,ad 33 32 2,m 34 7,o 35 (.len (.t 34)),o 36 (.call 121 [.t 31,.t 33,.t 35]),o 37 (.is 1 (.t 30) (.t 36)),p (.aS none (.t 37) (.c (.int .u8 63)))]
def Vm:=[f 38 0 0 3,l 39 38,o 40 (.lenT (.t 39)),m 41 7,o 42 (.len (.t 41)),o 43 (.bin .add (.t 40) (.t 42)),o 44 (.jl 5 1 (.int .u8 0) (.t 43)),m 8 44]
def Vn:=[m 45 8,f 46 0 0 3,l 47 46,o 48 (.gl 1 (.t 45) (.t 47))]
def Vo:=[m 49 8,f 50 0 0 3,l 51 50,o 52 (.lenT (.t 51)),o 53 (.sl 1 (.t 49) (some (.t 52)) none none),m 54 7,o 55 (.gl 1 (.t 53) (.t 54))]
def Vp:=[m 56 8,o 57 (.b2s (.t 56)),o 58 (.bld [.ay ⟨#[]⟩,.ay ⟨#[]⟩] [(0,(.t 57))]),p (.aS (some 2) (.t 6) (.t 58))]
def c75:bh:=(s (r Vj) (s (.bW Na lD) (s (s (r Vk) (.cond (.t 29) (r Vl) .skip)) (s (r Vm) (s (r Vn) (s (r Vo) (s (r Vp) .ret)))))))
def Ew:List bp:=[.cell 6 (some 2)]
theorem KT:bQ Tryz.prog Tryz.f75 c75:=e (by kernel_rfl)
theorem Mo:bN Tryz.prog Tryz.f75 Ew:=e (by kernel_rfl)
theorem Jx:bH Tryz.prog 75:=e (by kernel_rfl)
def Vq:=[o 2 (.mv bj)]
def Vr:=[m 3 0,o 4 (.call 128 [.t 3,(aW 0),(aW 1000002)]),m 2 4]
def zN:bh:=(s (r Vq) (s (r Vr) .ret))
def Ey:List bp:=[.tmp 2]
theorem KU:bQ Tryz.prog Tryz.f79 zN:=e (by kernel_rfl)
theorem Mp:bN Tryz.prog Tryz.f79 Ey:=e (by kernel_rfl)
theorem Jy:bH Tryz.prog 79:=e (by kernel_rfl)
def Vs:=[b 1 0,o 2 (.mv bj)]
def Vt:=[f 3 0 0 1,ao 4 2 3,o 5 (.call 129 [.t 4]),no 6 5,m 7 6,fn 8 1 2 1 7,eZ 9 8 7,on 10 (.call 128 [.t 9,(aW 0),(aW 40)]) 7,on 11 (.un .not (.t 10)) 7,or 12 7 11,m 13 12,fn 14 2 3 1 13,eZ 15 14 13,on 16 (.call 105 [.t 15]) 13,on 17 (.un .not (.t 16)) 13,or 18 13 17,m 19 18,fn 20 3 4 1 19,eZ 21 20 19,on 22 (.call 105 [.t 21]) 19,on 23 (.un .not (.t 22)) 19,or 24 19 23,m 25 24,fn 26 5 7 1 25,eZ 27 26 25,on 28 (.call 130 [.t 27]) 25,on 29 (.un .not (.t 28)) 25,or 30 25 29]
def Vu:=[o 2 (.mv bj)]
def Vv:=[f 31 1 2 1,l 32 31,o 33 (.bin .eql (.t 32) (aW 0))]
def Vw:=[f 34 2 3 1,l 35 34,o 36 (.bin .eql (.t 35) (aW 0)),m 37 36,cW 38 5 7 1 37,eH 39 38 37,bB 40 (.bin .eql (.t 39) (.c (.ay ⟨#[]⟩))) 37,and 41 37 40,m 42 41,cW 43 4 5 1 42,bB 44 (.ld (some 2) (.t 43)) 42,bB 45 (.call 129 [.t 44]) 42,and 46 42 45,m 47 46,cW 48 4 5 1 47,cW 49 0 0 48 47,eH 50 49 47,cW 51 0 0 1 47,cW 52 0 0 51 47,eH 53 52 47,bB 54 (.bin .eql (.t 50) (.t 53)) 47,and 55 47 54,m 56 55,cW 57 4 5 1 56,cW 58 1 1 57 56,eH 59 58 56,cW 60 0 0 1 56,cW 61 1 1 60 56,eH 62 61 56,bB 63 (.bin .lss (.t 59) (.t 62)) 56,and 64 56 63,m 2 64]
def Vx:=[f 65 4 5 1,ao 66 2 65,o 67 (.bld [.int .i64 0,.int .i64 0] []),o 68 (.eqv (.aS [(.i .i64),(.i .i64)]) false (.t 66) (.t 67)),m 2 68]
def c80:bh:=(s (r Vs) (s (s (r Vt) (.cond (.t 30) (s (r Vu) .ret) .skip)) (s (s (r Vv) (.cond (.t 33) (s (r Vw) .ret) .skip)) (s (r Vx) .ret))))
def Ez:List bp:=[.tmp 2]
theorem KV:bQ Tryz.prog Tryz.f80 c80:=e (by kernel_rfl)
theorem Mq:bN Tryz.prog Tryz.f80 Ez:=e (by kernel_rfl)
theorem Jz:bH Tryz.prog 80:=e (by kernel_rfl)
def Vy:=[b 3 1,o 4 (.mv (.c (.ay ⟨#[]⟩))),bg 5 0]
def Vz:=[ao 9 8 3,o 10 (.call 131 [.t 9]),m 6 10]
def VA:=[m 11 6,o 12 (.eT (.t 11)),o 13 (.len (.t 12)),bg 14 0]
def VB:=[lt 15 14 13]
def VC:=[o 16 (.is 1 (.t 12) (.t 14)),l 17 16,m 8 17]
def VD:=[m 18 0,o 19 (.bin .mul (aW 257) (.t 18)),m 20 8,o 21 (.conv .i64 (.t 20)),o 22 (.bin .add (.t 19) (.t 21)),ad 23 22 1,o 24 (.bin .rem (.t 23) (aW 1000003)),m 0 24]
def VE:=[ad 25 14 1,m 14 25]
def VF:=[m 26 0,o 27 (.call 132 [.t 26]),o 28 (.bin .add (.t 27) (.c (.ay ⟨#[32]⟩))),m 29 6,o 30 (.bin .add (.t 28) (.t 29)),o 31 (.bin .add (.t 30) (.c (.ay ⟨#[10]⟩))),m 32 0,m 4 31,m 5 32]
def zO:bh:=(s (r Vy) (s (r Vz) (s (s (r VA) (.block 0 (.loop (s (r VB) (s (.cond (.t 15) .skip (.exit 0)) (s (.block 1 (s (r VC) (r VD))) (r VE))))))) (s (r VF) .ret))))
def EA:List bp:=[.tmp 4,.tmp 5]
theorem KW:bQ Tryz.prog Tryz.f81 zO:=e (by kernel_rfl)
theorem Mr:bN Tryz.prog Tryz.f81 EA:=e (by kernel_rfl)
theorem JA:bH Tryz.prog 81:=e (by kernel_rfl)
def VG:=[o 6 (.mv bj)]
def VH:=[m 7 0,m 8 1,o 9 (.bin .geq (.t 7) (.t 8)),m 10 9,cq 11 0 10,cq 12 2 10,bB 13 (.bin .leq (.t 11) (.t 12)) 10,and 14 10 13,m 6 14]
def zP:bh:=(s (r VG) (s (r VH) .ret))
def EB:List bp:=[.tmp 6]
theorem KX:bQ Tryz.prog Tryz.f82 zP:=e (by kernel_rfl)
theorem Ms:bN Tryz.prog Tryz.f82 EB:=e (by kernel_rfl)
theorem JB:bH Tryz.prog 82:=e (by kernel_rfl)
def VI:=[b 3 1,o 4 (.mv (.c (.ay ⟨#[]⟩))),bg 5 0]
def VJ:=[ao 8 8 3,o 9 (.call 133 [.t 8]),m 6 9]
def VK:=[bg 7 0]
def VL:=[m 10 7,m 11 6,o 12 (.lenT (.t 11)),lt 13 10 12]
def VM:=[m 16 0,o 17 (.bin .mul (aW 257) (.t 16)),m 18 6,m 19 7,o 20 (.prim .dS [.t 18,.t 19]),o 21 (.conv .i64 (.t 20)),o 22 (.bin .add (.t 17) (.t 21)),ad 23 22 1,o 24 (.bin .rem (.t 23) (aW 1000003)),m 0 24]
def VN:=[m 14 7,ad 15 14 1,m 7 15]
def VO:=[m 25 0,o 26 (.call 134 [.t 25]),o 27 (.bin .add (.t 26) (.c (.ay ⟨#[32]⟩))),m 28 6,o 29 (.bin .add (.t 27) (.t 28)),o 30 (.bin .add (.t 29) (.c (.ay ⟨#[10]⟩))),m 31 0,m 4 30,m 5 31]
def zQ:bh:=(s (r VI) (s (r VJ) (s (s (r VK) (.block 0 (.loop (s (s (r VL) (.cond (.t 13) .skip (.exit 0))) (s (.block 1 (r VM)) (r VN)))))) (s (r VO) .ret))))
def EC:List bp:=[.tmp 4,.tmp 5]
theorem KY:bQ Tryz.prog Tryz.f83 zQ:=e (by kernel_rfl)
theorem Mt:bN Tryz.prog Tryz.f83 EC:=e (by kernel_rfl)
theorem JC:bH Tryz.prog 83:=e (by kernel_rfl)
def VP:=[b 1 0,o 2 (.mv bj)]
def VQ:=[f 3 0 0 1,l 4 3,o 5 (.call 82 [.t 4,(aW 0),(aW 5)]),m 6 5,cW 7 1 1 1 6,eH 8 7 6,bB 9 (.call 82 [.t 8,(aW 0),(aW 9999)]) 6,and 10 6 9,m 2 10]
def c85:bh:=(s (r VP) (s (r VQ) .ret))
def ED:List bp:=[.tmp 2]
theorem KZ:bQ Tryz.prog Tryz.f85 c85:=e (by kernel_rfl)
theorem Mu:bN Tryz.prog Tryz.f85 ED:=e (by kernel_rfl)
theorem JD:bH Tryz.prog 85:=e (by kernel_rfl)
def VR:=[o 2 (.mv bj)]
def VS:=[m 4 0,o 5 (.lenT (.t 4)),o 6 (.bin .gtr (.t 5) (aW 160))]
def VT:=[o 2 (.mv bj)]
def VU:=[bg 3 0]
def VV:=[m 7 3,m 8 0,o 9 (.lenT (.t 8)),lt 10 7 9]
def VW:=[m 13 0,m 14 3,o 15 (.prim .dS [.t 13,.t 14]),o 16 (.bin .lss (.t 15) (.c (.int .u8 32))),m 17 16,fN 18 0 17,fN 19 3 17,on 20 (.prim .dS [.t 18,.t 19]) 17,on 21 (.bin .gtr (.t 20) (.c (.int .u8 126))) 17,or 22 17 21,m 23 22,fN 24 0 23,fN 25 3 23,on 26 (.prim .dS [.t 24,.t 25]) 23,on 27 (.bin .eql (.t 26) (.c (.int .u8 63))) 23,or 28 23 27]
def VX:=[o 2 (.mv bj)]
def VY:=[m 11 3,ad 12 11 1,m 3 12]
def VZ:=[o 2 (.mv T)]
def zR:bh:=(s (r VR) (s (s (r VS) (.cond (.t 6) (s (r VT) .ret) .skip)) (s (s (r VU) (.block 0 (.loop (s (s (r VV) (.cond (.t 10) .skip (.exit 0))) (s (.block 1 (s (r VW) (.cond (.t 28) (s (r VX) .ret) .skip))) (r VY)))))) (s (r VZ) .ret))))
def EE:List bp:=[.tmp 2]
theorem K0:bQ Tryz.prog Tryz.f86 zR:=e (by kernel_rfl)
theorem Mv:bN Tryz.prog Tryz.f86 EE:=e (by kernel_rfl)
theorem JE:bH Tryz.prog 86:=e (by kernel_rfl)
def V0:=[b 2 0,o 4 (.mv bj)]
def V1:=[m 6 1,o 7 (.call 98 [.t 6]),no 8 7,m 9 8,fn 10 0 0 2 9,on 11 (.ld (some 2) (.t 10)) 9,on 12 (.call 73 [.t 11]) 9,fN 13 1 9,on 14 (.call 135 [.t 13]) 9,on 15 (.bin .neq (.t 12) (.t 14)) 9,or 16 9 15]
def V2:=[o 4 (.mv bj)]
def V3:=[m 17 1,o 18 (.len (.t 17)),ad 19 18 1,bg 20 0]
def V4:=[lt 21 20 19]
def V5:=[m 22 20,m 5 22]
def V6:=[f 23 1 2 2,ao 24 2 23,o 25 (.call 73 [.t 24]),m 26 1,m 27 5,o 28 (.sl 8 (.t 26) none (some (.t 27)) none),o 29 (.call 135 [.t 28]),o 30 (.bin .eql (.t 25) (.t 29))]
def Nb:=some [[],[0],[1],[],[],[3,4],[5,2],[2,6]]
def V7:=[o 4 (.mv T)]
def V8:=[ad 31 20 1,m 20 31]
def V9:=[o 4 (.mv bj)]
def zS:bh:=(s (r V0) (s (s (r V1) (.cond (.t 16) (s (r V2) .ret) .skip)) (s (s (r V3) (.block 0 (.loop (s (r V4) (s (.cond (.t 21) .skip (.exit 0)) (s (.block 1 (s (r V5) (s (.bW Nb V6) (.cond (.t 30) (s (r V7) .ret) .skip)))) (r V8))))))) (s (r V9) .ret))))
def EF:List bp:=[.tmp 4]
theorem K1:bQ Tryz.prog Tryz.f87 zS:=e (by kernel_rfl)
theorem Mw:bN Tryz.prog Tryz.f87 EF:=e (by kernel_rfl)
theorem JF:bH Tryz.prog 87:=e (by kernel_rfl)
def Wa:=[b 3 0,b 5 2,o 6 (.alloc (.agg [.agg [.ay ⟨#[]⟩,.ay ⟨#[]⟩],.agg [.ay ⟨#[]⟩,.ay ⟨#[]⟩]])),o 7 (.mv (.c (.nils 8))),bg 8 0]
def Wb:=[m 13 1,ao 14 8 5,o 15 (.call 136 [.t 13,.t 14])]
def vE:=[ao 16 4 3,m 17 1,o 18 (.call 93 [.t 17]),p (.aS (some 4) (.t 6) (.t 16)),m 7 18,bg 8 0]
def Nc:=some [[],[],[1],[0,2,0],[2,3,0,1,2,3],[4,0,1,2,3,4]]
def Wc:=[m 20 1,o 21 (.call 95 [.t 20]),ao 22 8 5,o 23 (.call 44 [.t 21,.t 22]),m 19 23,o 24 (.ext (.t 19) 0),o 25 (.ext (.t 19) 1),o 9 (.alloc (.agg [.nils 8])),p (.aS (some 1) (.t 9) (.t 24)),m 10 25]
def Nd:=some [[],[0],[],[1,2,1],[3],[4],[4],[],[7,5,3,0,1,2,3,4,5,7],[6,8,0,1,2,3,4,5,6,7,8]]
def Wd:=[m 26 10,o 27 (.bin .neq (.t 26) (aW 0))]
def We:=[o 28 (.bld [.agg [.ay ⟨#[]⟩,.ay ⟨#[]⟩],.agg [.ay ⟨#[]⟩,.ay ⟨#[]⟩]] []),m 29 10,p (.aS (some 4) (.t 6) (.t 28)),o 7 (.mv (.c (.nils 8))),m 8 29]
def Wf:=[m 31 1,o 32 (.call 137 [.t 31]),ao 33 8 5,o 34 (.call 81 [.t 32,.t 33]),m 30 34,o 35 (.ext (.t 30) 0),o 36 (.ext (.t 30) 1),m 11 35,m 12 36]
def Nf:=some [[],[0],[],[1,2,1],[3],[4],[4],[5,3,0,1,2,3,4,5],[6,7,0,1,2,3,4,5,6,7]]
def Wg:=[f 37 0 0 3,f 38 1 1 37,l 39 38,m 40 11,o 41 (.bin .add (.t 39) (.t 40)),f 42 0 0 3,f 43 1 1 42,p (.aS none (.t 43) (.t 41))]
def vF:=[ao 44 4 3,m 45 1,o 46 (.call 93 [.t 45]),ao 47 8 5,o 48 (.bs 50 8 [.t 47]),o 49 (.du 50 8 72 (.agg [.agg [.int .i64 0,.int .i64 0],.int .i64 0,.int .i64 0,.int .i64 0,.agg [.int .i64 0,.int .i64 0],.ay ⟨#[]⟩]) (.t 46) (.t 48)),p (.aS (some 4) (.t 6) (.t 44)),m 7 49,bg 8 0]
def Ng:=some [[],[],[1],[],[3],[2,4,2],[0,5,0],[5,6,0,1,2,3,4,5,6],[7,0,1,2,3,4,5,6,7]] -- DRAW BAD
def zT:bh:=(s (r Wa) (s (s (r Wb) (.cond (.t 15) (s (.bW Nc vE) .ret) .skip)) (s (s (.bW Nd Wc) (s (r Wd) (.cond (.t 27) (s (r We) .ret) .skip))) (s (.bW Nf Wf) (s (r Wg) (s (.bW Ng vF) .ret))))))
def EG:List bp:=[.cell 6 (some 4),.tmp 7,.tmp 8]
theorem K2:bQ Tryz.prog Tryz.f88 zT:=e (by kernel_rfl)
theorem Mx:bN Tryz.prog Tryz.f88 EG:=e (by kernel_rfl)
theorem JG:bH Tryz.prog 88:=e (by kernel_rfl)
def Wh:=[b 3 1,o 4 (.mv bj),bg 5 0]
def Wi:=[ao 7 8 3,o 8 (.call 34 [.t 7]),o 9 (.bin .neq (.t 8) (aW 0))]
def Wm:=[o 4 (.mv bj),bg 5 80]
def Wn:=[m 10 0,f 11 0 0 3,ao 12 2 11,o 13 (.call 96 [.t 10,.t 12]),m 6 13]
def Wo:=[m 14 6,o 15 (.bin .geq (.t 14) (aW 0)),m 16 15,cq 17 0 16,cq 18 6 16,bB 19 (.is 8 (.t 17) (.t 18)) 16,bB 20 (.ld (some 8) (.t 19)) 16,bB 21 (.ld (some 8) (.t 3)) 16,bB 22 (.eqv (.aS [(.aS [(.i .i64),(.i .i64)]),(.i .i64),(.i .i64),(.i .i64),(.aS [(.i .i64),(.i .i64)]),.s]) false (.t 20) (.t 21)) 16,and 23 16 22]
def Nh:=some [[],[0],[1],[2],[2],[3,4,2],[5,2],[2],[6,7,2],[2,8]]
def Wp:=[o 4 (.mv bj),bg 5 0]
def Wq:=[m 24 6,o 25 (.bin .geq (.t 24) (aW 0))]
def Wr:=[o 4 (.mv bj),bg 5 82]
def Ws:=[f 26 0 0 3,f 27 1 1 26,l 28 27,m 29 0,o 30 (.call 102 [.t 29]),f 31 0 0 3,f 32 0 0 31,l 33 32,o 34 (.ix 6 1 none (.t 30) (.t 33)),o 35 (.bin .gtr (.t 28) (.t 34))]
def Ni:=some [[],[0],[1],[],[3],[],[5],[6],[4,7],[2,8]]
def Wt:=[o 4 (.mv bj),bg 5 83]
def Wj:=[m 36 0,o 37 (.len (.t 36)),o 38 (.bin .eql (.t 37) (aW 60))]
def Wk:=[o 4 (.mv bj),bg 5 2]
def Wl:=[o 4 (.mv T),bg 5 0]
def zU:bh:=(s (r Wh) (s (s (r Wi) (.cond (.t 9) (s (r Wm) .ret) .skip)) (s (r Wn) (s (s (.bW Nh Wo) (.cond (.t 23) (s (r Wp) .ret) .skip)) (s (s (r Wq) (.cond (.t 25) (s (r Wr) .ret) .skip)) (s (s (.bW Ni Ws) (.cond (.t 35) (s (r Wt) .ret) .skip)) (s (s (r Wj) (.cond (.t 38) (s (r Wk) .ret) .skip)) (s (r Wl) .ret))))))))
def EH:List bp:=[.tmp 4,.tmp 5]
theorem K3:bQ Tryz.prog Tryz.f89 zU:=e (by kernel_rfl)
theorem My:bN Tryz.prog Tryz.f89 EH:=e (by kernel_rfl)
theorem JH:bH Tryz.prog 89:=e (by kernel_rfl)
def Wu:=[o 2 (.mv (.c (.ay ⟨#[]⟩)))]
def Wv:=[o 3 (.mv (.c (.ay ⟨#[]⟩)))]
def Ww:=[bg 4 1]
def Wx:=[bg 5 0]
def Wy:=[m 8 5,m 9 0,o 10 (.len (.t 9)),lt 11 8 10]
def Wz:=[m 15 4,m 16 0,m 17 5,o 18 (.is 8 (.t 16) (.t 17)),ao 19 8 18,o 20 (.call 83 [.t 15,.t 19]),m 14 20,o 21 (.ext (.t 14) 0),o 22 (.ext (.t 14) 1),m 6 21,m 7 22]
def WA:=[m 23 3,m 24 6,o 25 (.bin .add (.t 23) (.t 24)),m 3 25]
def WB:=[m 26 7,m 4 26]
def WC:=[m 12 5,ad 13 12 1,m 5 13]
def WD:=[m 27 3,m 2 27]
def zV:bh:=(s (r Wu) (s (r Wv) (s (r Ww) (s (s (r Wx) (.block 0 (.loop (s (s (r Wy) (.cond (.t 11) .skip (.exit 0))) (s (.block 1 (s (r Wz) (s (r WA) (r WB)))) (r WC)))))) (s (r WD) .ret)))))
def EI:List bp:=[.tmp 2]
theorem K4:bQ Tryz.prog Tryz.f90 zV:=e (by kernel_rfl)
theorem Mz:bN Tryz.prog Tryz.f90 EI:=e (by kernel_rfl)
theorem JI:bH Tryz.prog 90:=e (by kernel_rfl)
def WE:=[b 1 0,o 2 (.mv bj)]
def WG:=[f 6 0 0 1,l 7 6,o 8 (.len (.t 7)),bg 9 0]
def WK:=[lt 10 9 8]
def WL:=[m 11 9,o 12 (.is 8 (.t 7) (.t 9)),ao 13 8 12,o 4 (.alloc (.agg [.agg [.int .i64 0,.int .i64 0],.int .i64 0,.int .i64 0,.int .i64 0,.agg [.int .i64 0,.int .i64 0],.ay ⟨#[]⟩])),m 3 11,p (.aS (some 8) (.t 4) (.t 13))]
def WM:=[ao 14 8 4,o 15 (.call 80 [.t 14]),no 16 15]
def WN:=[o 2 (.mv bj)]
def WO:=[o 17 (.bld [.int .i64 0,.int .i64 0] [(0,(.c (.int .i64 (-1))))]),o 5 (.alloc (.agg [.int .i64 0,.int .i64 0])),p (.aS (some 2) (.t 5) (.t 17))]
def WQ:=[m 18 3,o 19 (.bin .gtr (.t 18) (aW 0))]
def WR:=[f 20 0 0 1,l 21 20,m 22 3,o 23 (.bin .sub (.t 22) (aW 1)),o 24 (.is 8 (.t 21) (.t 23)),f 25 0 0 24,ao 26 2 25,p (.aS (some 2) (.t 5) (.t 26))]
def WS:=[f 27 0 0 4,ao 28 2 27,f 29 0 0 5,l 30 29,f 31 1 1 5,l 32 31,ad 33 32 1,o 34 (.bld [.int .i64 0,.int .i64 0] [(0,(.t 30)),(1,(.t 33))]),o 35 (.eqv (.aS [(.i .i64),(.i .i64)]) true (.t 28) (.t 34)),m 36 35,cW 37 0 0 4 36,cW 38 0 0 37 36,eH 39 38 36,cW 40 0 0 5 36,eH 41 40 36,bB 42 (.bin .leq (.t 39) (.t 41)) 36,cq 43 42 36,fn 44 0 0 4 43,fn 45 1 1 44 43,eZ 46 45 43,on 47 (.bin .neq (.t 46) (aW 0)) 43,bB 48 (.pick (.t 43) T (.t 47)) 36,and 49 36 48]
def WH:=[o 2 (.mv bj)]
def WI:=[ad 50 9 1,m 9 50]
def WJ:=[f 51 0 0 1,l 52 51,o 53 (.len (.t 52)),o 54 (.bin .leq (.t 53) (aW 60)),m 2 54]
def zW:bh:=(s (r WE) (s (s (r WG) (.block 0 (.loop (s (r WK) (s (.cond (.t 10) .skip (.exit 0)) (s (.block 1 (s (r WL) (s (s (r WM) (.cond (.t 16) (s (r WN) .ret) .skip)) (s (r WO) (s (s (r WQ) (.cond (.t 19) (r WR) .skip)) (s (r WS) (.cond (.t 49) (s (r WH) .ret) .skip))))))) (r WI))))))) (s (r WJ) .ret)))
def EJ:List bp:=[.tmp 2]
theorem K5:bQ Tryz.prog Tryz.f92 zW:=e (by kernel_rfl)
theorem MA:bN Tryz.prog Tryz.f92 EJ:=e (by kernel_rfl)
theorem JJ:bH Tryz.prog 92:=e (by kernel_rfl)
def vG:=[o 2 (.mv (.c (.nils 8)))]
def qi:=[m 3 0,o 4 (.nilS false (.t 3))]
def vH:=[o 2 (.mv (.c (.nils 8)))]
def qj:=[o 5 (.bs0 8),m 6 0,o 7 (.du 50 8 72 (.agg [.agg [.int .i64 0,.int .i64 0],.int .i64 0,.int .i64 0,.int .i64 0,.agg [.int .i64 0,.int .i64 0],.ay ⟨#[]⟩]) (.t 5) (.t 6)),m 2 7]
def uZ:bh:=(s (r vG) (s (s (r qi) (.cond (.t 4) (s (r vH) .ret) .skip)) (s (r qj) .ret)))
def wQ:List bp:=[.tmp 2]
theorem An:bQ Tryz.prog Tryz.f93 uZ:=e (by kernel_rfl)
theorem Ax:bN Tryz.prog Tryz.f93 wQ:=e (by kernel_rfl)
theorem Ah:bH Tryz.prog 93:=e (by kernel_rfl)
def WT:=[b 2 0,b 3 1,bg 4 0,o 5 (.mv bj)]
def WU:=[f 6 0 0 2,l 7 6,ao 8 2 3,o 9 (.call 138 [.t 7,.t 8,(.c (.func 139 []))]),o 10 (.ext (.t 9) 0),o 11 (.ext (.t 9) 1),m 4 10,m 5 11]
def zX:bh:=(s (r WT) (s (r WU) .ret))
def EK:List bp:=[.tmp 4,.tmp 5]
theorem K6:bQ Tryz.prog Tryz.f94 zX:=e (by kernel_rfl)
theorem MB:bN Tryz.prog Tryz.f94 EK:=e (by kernel_rfl)
theorem JK:bH Tryz.prog 94:=e (by kernel_rfl)
def WV:=[o 2 (.alloc (.agg [.nils 8]))]
def WW:=[m 4 0,o 5 (.call 93 [.t 4]),m 3 5]
def WX:=[m 6 3,o 7 (.call 141 [.t 6,(.c (.func 142 []))])]
def WY:=[m 8 3,o 9 (.bld [.nils 8] [(0,(.t 8))]),p (.aS (some 1) (.t 2) (.t 9))]
def zY:bh:=(s (r WV) (s (r WW) (s (r WX) (s (r WY) .ret))))
def EL:List bp:=[.cell 2 (some 1)]
theorem K7:bQ Tryz.prog Tryz.f95 zY:=e (by kernel_rfl)
theorem MC:bN Tryz.prog Tryz.f95 EL:=e (by kernel_rfl)
theorem JL:bH Tryz.prog 95:=e (by kernel_rfl)
def WZ:=[b 3 1,bg 4 0]
def W5:=[bg 5 0]
def W6:=[m 6 5,m 7 0,o 8 (.len (.t 7)),lt 9 6 8]
def W7:=[m 12 0,m 13 5,o 14 (.is 8 (.t 12) (.t 13)),f 15 0 0 14,ao 16 2 15,ao 17 2 3,o 18 (.eqv (.aS [(.i .i64),(.i .i64)]) false (.t 16) (.t 17))]
def Nj:=some [[],[],[0,1],[2],[3],[],[4,5]]
def W8:=[m 19 5,m 4 19]
def W9:=[m 10 5,ad 11 10 1,m 5 11]
def Xa:=[bg 4 (-1)]
def zZ:bh:=(s (r WZ) (s (s (r W5) (.block 0 (.loop (s (s (r W6) (.cond (.t 9) .skip (.exit 0))) (s (.block 1 (s (.bW Nj W7) (.cond (.t 18) (s (r W8) .ret) .skip))) (r W9)))))) (s (r Xa) .ret)))
def EM:List bp:=[.tmp 4]
theorem K8:bQ Tryz.prog Tryz.f96 zZ:=e (by kernel_rfl)
theorem MD:bN Tryz.prog Tryz.f96 EM:=e (by kernel_rfl)
theorem JM:bH Tryz.prog 96:=e (by kernel_rfl)
def Xb:=[b 3 1,o 4 (.mv (.c (.nils 8)))]
def Xc:=[bg 5 0]
def Xd:=[m 6 5,m 7 0,o 8 (.len (.t 7)),lt 9 6 8,m 10 9,cq 11 0 10,cq 12 5 10,bB 13 (.is 8 (.t 11) (.t 12)) 10,cW 14 0 0 13 10,bB 15 (.ld (some 2) (.t 14)) 10,cW 16 0 0 3 10,bB 17 (.ld (some 2) (.t 16)) 10,bB 18 (.call 108 [.t 15,.t 17]) 10,and 19 10 18]
def Nk:=some [[],[],[1],[0,2],[3],[4],[4],[5,6,4],[7,4],[8,4],[4],[10,4],[9,11,4,4],[4,12]]
def Xe:=[m 20 5,ad 21 20 1,m 5 21]
def sv:=[o 22 (.bs0 8),m 23 0,m 24 5,o 25 (.sl 8 (.t 23) none (some (.t 24)) none),o 26 (.du 50 8 72 (.agg [.agg [.int .i64 0,.int .i64 0],.int .i64 0,.int .i64 0,.int .i64 0,.agg [.int .i64 0,.int .i64 0],.ay ⟨#[]⟩]) (.t 22) (.t 25)),ao 27 8 3,o 28 (.bs 50 8 [.t 27]),o 29 (.du 50 8 72 (.agg [.agg [.int .i64 0,.int .i64 0],.int .i64 0,.int .i64 0,.int .i64 0,.agg [.int .i64 0,.int .i64 0],.ay ⟨#[]⟩]) (.t 26) (.t 28)),m 30 0,m 31 5,o 32 (.sl 8 (.t 30) (some (.t 31)) none none),o 33 (.du 50 8 72 (.agg [.agg [.int .i64 0,.int .i64 0],.int .i64 0,.int .i64 0,.int .i64 0,.agg [.int .i64 0,.int .i64 0],.ay ⟨#[]⟩]) (.t 29) (.t 32)),m 4 33]
def AB:=some [[],[],[],[1,2],[0,3],[],[5],[4,6,4],[],[],[8,9],[7,10,7],[11,11,0,1,2,3,4,5,6,7,8,9,10,11]] -- DRAW BAD
def z6:bh:=(s (r Xb) (s (r Xc) (s (.block 0 (.loop (s (s (.bW Nk Xd) (.cond (.t 19) .skip (.exit 0))) (.block 1 (r Xe))))) (s (.bW AB sv) .ret))))
def EN:List bp:=[.tmp 4]
theorem K9:bQ Tryz.prog Tryz.f97 z6:=e (by kernel_rfl)
theorem ME:bN Tryz.prog Tryz.f97 EN:=e (by kernel_rfl)
theorem JN:bH Tryz.prog 97:=e (by kernel_rfl)
def Xf:=[o 2 (.mv bj)]
def Xg:=[m 5 0,o 6 (.len (.t 5)),bg 7 0]
def Xh:=[lt 8 7 6]
def Xi:=[m 9 7,o 10 (.is 8 (.t 5) (.t 7)),ao 11 8 10,o 4 (.alloc (.agg [.agg [.int .i64 0,.int .i64 0],.int .i64 0,.int .i64 0,.int .i64 0,.agg [.int .i64 0,.int .i64 0],.ay ⟨#[]⟩])),m 3 9,p (.aS (some 8) (.t 4) (.t 11))]
def Xj:=[ao 12 8 4,o 13 (.call 80 [.t 12]),no 14 13,m 15 14,fN 16 0 15,fN 17 3 15,on 18 (.sl 8 (.t 16) none (some (.t 17)) none) 15,on 19 (.ld (some 8) (.t 4)) 15,on 20 (.call 71 [.t 18,.t 19]) 15,on 21 (.un .not (.t 20)) 15,or 22 15 21]
def Nl:=some [[],[0],[1],[2,1],[3],[3],[4,5,3],[3],[6,7,3,3],[8,3],[3,9]]
def Xk:=[o 2 (.mv bj)]
def Xl:=[ad 23 7 1,m 7 23]
def Xm:=[o 2 (.mv T)]
def z7:bh:=(s (r Xf) (s (s (r Xg) (.block 0 (.loop (s (r Xh) (s (.cond (.t 8) .skip (.exit 0)) (s (.block 1 (s (r Xi) (s (.bW Nl Xj) (.cond (.t 22) (s (r Xk) .ret) .skip)))) (r Xl))))))) (s (r Xm) .ret)))
def EO:List bp:=[.tmp 2]
theorem La:bQ Tryz.prog Tryz.f98 z7:=e (by kernel_rfl)
theorem MF:bN Tryz.prog Tryz.f98 EO:=e (by kernel_rfl)
theorem JO:bH Tryz.prog 98:=e (by kernel_rfl)
def OC:=[o 2 (.alloc (.agg [.int .i64 0,.int .i64 0,.int .i64 0,.int .i64 0,.int .i64 0,.int .i64 0]))]
def OD:=[o 3 (.alloc (.agg [.int .i64 0,.int .i64 0,.int .i64 0,.int .i64 0,.int .i64 0,.int .i64 0]))]
def OE:=[m 6 0,o 7 (.len (.t 6)),bg 8 0]
def OF:=[lt 9 8 7]
def OG:=[o 10 (.is 8 (.t 6) (.t 8)),ao 11 8 10,o 5 (.alloc (.agg [.agg [.int .i64 0,.int .i64 0],.int .i64 0,.int .i64 0,.int .i64 0,.agg [.int .i64 0,.int .i64 0],.ay ⟨#[]⟩])),p (.aS (some 8) (.t 5) (.t 11))]
def OH:=[f 12 0 0 5,f 13 0 0 12,l 14 13,o 15 (.ia 6 1 (.t 3) (.t 14)),l 16 15,ad 17 16 1,o 18 (.ia 6 1 (.t 3) (.t 14)),p (.aS none (.t 18) (.t 17))]
def OI:=[ad 19 8 1,m 8 19]
def OJ:=[ao 20 6 3,p (.aS (some 6) (.t 2) (.t 20))]
def yP:bh:=(s (r OC) (s (r OD) (s (s (r OE) (.block 0 (.loop (s (r OF) (s (.cond (.t 9) .skip (.exit 0)) (s (.block 1 (s (r OG) (r OH))) (r OI))))))) (s (r OJ) .ret))))
def Ds:List bp:=[.cell 2 (some 6)]
theorem JX:bQ Tryz.prog Tryz.f100 yP:=e (by kernel_rfl)
theorem Lp:bN Tryz.prog Tryz.f100 Ds:=e (by kernel_rfl)
theorem It:bH Tryz.prog 100:=e (by kernel_rfl)
def si:=[o 6 (.mv (.c (.nils 8)))]
def sj:=[m 10 0,m 11 1,o 12 (.sl 8 (.t 10) (some (.t 11)) none none)]
def sk:=[m 13 2,o 14 (.len (.t 13)),m 7 14]
def sn:=[m 15 7,o 16 (.bin .eql (.t 15) (aW 0))]
def ON:=[m 17 0,m 6 17]
def sq:=[m 18 0,o 19 (.len (.t 18)),m 8 19]
def sr:=[m 20 1,m 21 8,o 22 (.bin .eql (.t 20) (.t 21))]
def qh:=[m 23 0,m 24 2,o 25 (.du 50 8 72 (.agg [.agg [.int .i64 0,.int .i64 0],.int .i64 0,.int .i64 0,.int .i64 0,.agg [.int .i64 0,.int .i64 0],.ay ⟨#[]⟩]) (.t 23) (.t 24)),m 6 25]
def Bu:=[m 26 8,m 27 7,o 28 (.bin .add (.t 26) (.t 27)),m 29 0,o 30 (.cap (.t 29)),o 31 (.bin .gtr (.t 28) (.t 30))]
def Bv:=[m 32 0,m 33 1,o 34 (.sl 8 (.t 32) none (some (.t 33)) none),m 35 8,m 36 7,o 37 (.bin .add (.t 35) (.t 36)),m 38 1,o 39 (.bin .sub (.t 37) (.t 38)),o 40 (.jU 50 8 72 (.agg [.agg [.int .i64 0,.int .i64 0],.int .i64 0,.int .i64 0,.int .i64 0,.agg [.int .i64 0,.int .i64 0],.ay ⟨#[]⟩]) (.t 34) (.t 39)),m 9 40]
def Bl:=[m 41 9,m 42 1,o 43 (.sl 8 (.t 41) (some (.t 42)) none none),m 44 2,o 45 (.gl 8 (.t 43) (.t 44))]
def Bm:=[m 46 9,m 47 1,m 48 7,o 49 (.bin .add (.t 47) (.t 48)),o 50 (.sl 8 (.t 46) (some (.t 49)) none none),m 51 0,m 52 1,o 53 (.sl 8 (.t 51) (some (.t 52)) none none),o 54 (.gl 8 (.t 50) (.t 53))]
def MN:=some [[],[],[],[1,2],[0,3],[],[],[5,6],[4,7]]
def Bn:=[m 55 9,m 6 55]
def Bo:=[m 56 0,m 57 8,m 58 7,o 59 (.bin .add (.t 57) (.t 58)),o 60 (.sl 8 (.t 56) none (some (.t 59)) none),m 0 60]
def Bp:=[m 61 2,m 62 0,m 63 1,m 64 7,o 65 (.bin .add (.t 63) (.t 64)),o 66 (.sl 8 (.t 62) (some (.t 65)) none none),o 67 (.gK 143 [.t 61,.t 66]),no 68 67]
def Bq:=[m 69 0,m 70 1,m 71 7,o 72 (.bin .add (.t 70) (.t 71)),o 73 (.sl 8 (.t 69) (some (.t 72)) none none),m 74 0,m 75 1,o 76 (.sl 8 (.t 74) (some (.t 75)) none none),o 77 (.gl 8 (.t 73) (.t 76))]
def MO:=some [[],[],[],[1,2],[0,3],[],[],[5,6],[4,7]]
def Br:=[m 78 0,m 79 1,o 80 (.sl 8 (.t 78) (some (.t 79)) none none),m 81 2,o 82 (.gl 8 (.t 80) (.t 81))]
def Bt:=[m 83 0,m 6 83]
def OK:=[m 84 0,m 85 8,o 86 (.sl 8 (.t 84) (some (.t 85)) none none),m 87 2,o 88 (.gl 8 (.t 86) (.t 87))]
def OL:=[m 89 0,m 90 1,o 91 (.sl 8 (.t 89) (some (.t 90)) none none),m 92 7,o 93 (.call 144 [.t 91,.t 92])]
def OM:=[m 94 0,m 6 94]
def rY:bh:=(s (r si) (s (r sj) (s (r sk) (s (s (r sn) (.cond (.t 16) (s (r ON) .ret) .skip)) (s (r sq) (s (s (r sr) (.cond (.t 22) (s (r qh) .ret) .skip)) (s (s (r Bu) (.cond (.t 31) (s (r Bv) (s (r Bl) (s (.bW MN Bm) (s (r Bn) .ret)))) .skip)) (s (r Bo) (s (s (r Bp) (.cond (.t 68) (s (.bW MO Bq) (s (r Br) (s (r Bt) .ret))) .skip)) (s (r OK) (s (r OL) (s (r OM) .ret))))))))))))
def tF:List bp:=[.tmp 6]
theorem u4:bQ Tryz.prog Tryz.f101 rY:=e (by kernel_rfl)
theorem vc:bN Tryz.prog Tryz.f101 tF:=e (by kernel_rfl)
theorem u1:bH Tryz.prog 101:=e (by kernel_rfl)
def OO:=[o 2 (.alloc (.agg [.int .i64 0,.int .i64 0,.int .i64 0,.int .i64 0,.int .i64 0,.int .i64 0]))]
def OP:=[o 3 (.alloc (.agg [.int .i64 0,.int .i64 0,.int .i64 0,.int .i64 0,.int .i64 0,.int .i64 0]))]
def OQ:=[bg 4 0]
def OR:=[m 5 4,m 6 0,o 7 (.len (.t 6)),lt 8 5 7]
def OS:=[m 11 0,m 12 4,o 13 (.is 8 (.t 11) (.t 12)),f 14 0 0 13,f 15 0 0 14,l 16 15,o 17 (.ia 6 1 (.t 3) (.t 16)),l 18 17,ad 19 18 1,o 20 (.ia 6 1 (.t 3) (.t 16)),p (.aS none (.t 20) (.t 19))]
def OT:=[m 9 4,ad 10 9 1,m 4 10]
def OU:=[ao 21 6 3,p (.aS (some 6) (.t 2) (.t 21))]
def yQ:bh:=(s (r OO) (s (r OP) (s (s (r OQ) (.block 0 (.loop (s (s (r OR) (.cond (.t 8) .skip (.exit 0))) (s (.block 1 (r OS)) (r OT)))))) (s (r OU) .ret))))
def Dt:List bp:=[.cell 2 (some 6)]
theorem JY:bQ Tryz.prog Tryz.f102 yQ:=e (by kernel_rfl)
theorem Lq:bN Tryz.prog Tryz.f102 Dt:=e (by kernel_rfl)
theorem Iu:bH Tryz.prog 102:=e (by kernel_rfl)
def Bw:=[b 3 1,o 4 (.mv (.c (.raw (.map none))))]
def Bx:=[o 9 (.jK),o 5 (.alloc (.raw (.map none))),p (.aS none (.t 5) (.t 9))]
def By:=[o 10 (.jK),o 6 (.alloc (.raw (.map none))),p (.aS none (.t 6) (.t 10))]
def Bz:=[m 11 0,o 12 (.call 145 [.t 11])]
def OV:=[o 8 (.alloc (.agg [.agg [.int .i64 0,.int .i64 0],.int .i64 0,.int .i64 0,.int .i64 0,.agg [.int .i64 0,.int .i64 0],.ay ⟨#[]⟩])),p (.aS (some 8) (.t 8) (.t 14))]
def OW:=[l 15 5,f 16 0 0 8,ao 17 2 16,l 18 6,f 19 0 0 8,ao 20 2 19,o 21 (.lk (.aS [(.i .i64),(.i .i64)]) (.bool false) false (.t 18) (.t 20)),no 22 21,p (.jm (.aS [(.i .i64),(.i .i64)]) (.t 15) (.t 17) (.t 22))]
def MP:=some [[],[],[1],[],[],[4],[3,5],[6],[0,2,7,0,1,2,3,4,5,6,7]]
def OX:=[f 23 1 2 8,l 24 23,o 25 (.bin .eql (.t 24) (aW 0)),m 26 25,eH 27 5 26,cW 28 0 0 8 26,bB 29 (.ld (some 2) (.t 28)) 26,bB 30 (.lk (.aS [(.i .i64),(.i .i64)]) (.bool false) false (.t 27) (.t 29)) 26,and 31 26 30,m 32 31,cW 33 3 4 8 32,eH 34 33 32,eH 35 3 32,bB 36 (.bin .leq (.t 34) (.t 35)) 32,and 37 32 36]
def OY:=[l 38 6,f 39 4 5 8,ao 40 2 39,p (.jm (.aS [(.i .i64),(.i .i64)]) (.t 38) (.t 40) T)]
def OZ:=[l 41 5,m 4 41]
def yR:bh:=(s (r Bw) (s (r Bx) (s (r By) (s (s (r Bz) (.block 0 (.jN (.t 12) [13,14] (r OV) (.block 1 (s (.bW MP OW) (s (r OX) (.cond (.t 37) (r OY) .skip))))))) (s (r OZ) .ret)))))
def Du:List bp:=[.tmp 4]
theorem JZ:bQ Tryz.prog Tryz.f103 yR:=e (by kernel_rfl)
theorem Lr:bN Tryz.prog Tryz.f103 Du:=e (by kernel_rfl)
theorem Iv:bH Tryz.prog 103:=e (by kernel_rfl)
def O0:=[o 4 (.mv (.c (.nils 1)))]
def O1:=[m 8 0,o 9 (.len (.t 8)),o 10 (.jl 4 1 (.bool false) (.t 9)),m 5 10]
def O4:=[m 11 0,o 12 (.len (.t 11)),o 13 (.bin .sub (.t 12) (aW 1)),m 6 13]
def O5:=[m 14 6,o 15 (.bin .geq (.t 14) (aW 0))]
def O6:=[m 18 5,m 19 6,o 20 (.is 1 (.t 18) (.t 19)),p (.aS none (.t 20) T)]
def O7:=[m 21 6,ad 22 21 1,m 7 22]
def O8:=[m 23 7,m 24 0,o 25 (.len (.t 24)),lt 26 23 25]
def O9:=[m 29 0,m 30 7,o 31 (.is 8 (.t 29) (.t 30)),f 32 1 2 31,l 33 32,o 34 (.bin .eql (.t 33) (aW 0)),m 35 34,cq 36 0 35,cq 37 7 35,bB 38 (.is 8 (.t 36) (.t 37)) 35,cW 39 3 4 38 35,eH 40 39 35,cq 41 1 35,bB 42 (.bin .leq (.t 40) (.t 41)) 35,and 43 35 42,m 44 43,cq 45 0 44,cq 46 7 44,bB 47 (.is 8 (.t 45) (.t 46)) 44,cW 48 4 5 47 44,bB 49 (.ld (some 2) (.t 48)) 44,cq 50 0 44,cq 51 6 44,bB 52 (.is 8 (.t 50) (.t 51)) 44,cW 53 0 0 52 44,bB 54 (.ld (some 2) (.t 53)) 44,bB 55 (.eqv (.aS [(.i .i64),(.i .i64)]) false (.t 49) (.t 54)) 44,and 56 44 55,m 57 56,cq 58 5 57,cq 59 7 57,bB 60 (.is 1 (.t 58) (.t 59)) 57,eH 61 60 57,and 62 57 61]
def MQ:=some [[],[],[0,1],[2],[3],[4],[5],[6],[6],[7,8,6],[9,6],[10,6],[6],[11,12,6],[6,13],[14,6],[15],[15],[16,17,15],[18,15],[19,15],[15],[15],[21,22,15],[23,15],[24,15],[20,25,15],[15,26],[27,15],[28],[28],[29,30,28],[31,28],[28,32]]
def Pa:=[m 63 5,m 64 6,o 65 (.is 1 (.t 63) (.t 64)),p (.aS none (.t 65) bj)]
def Pb:=[m 27 7,ad 28 27 1,m 7 28]
def O2:=[m 16 6,o 17 (.bin .sub (.t 16) (aW 1)),m 6 17]
def O3:=[m 66 5,m 4 66]
def yS:bh:=(s (r O0) (s (r O1) (s (s (r O4) (.block 0 (.loop (s (s (r O5) (.cond (.t 15) .skip (.exit 0))) (s (.block 1 (s (r O6) (s (r O7) (.block 2 (.loop (s (s (r O8) (.cond (.t 26) .skip (.exit 2))) (s (.block 3 (s (.bW MQ O9) (.cond (.t 62) (r Pa) .skip))) (r Pb)))))))) (r O2)))))) (s (r O3) .ret))))
def Dv:List bp:=[.tmp 4]
theorem J0:bQ Tryz.prog Tryz.f104 yS:=e (by kernel_rfl)
theorem Ls:bN Tryz.prog Tryz.f104 Dv:=e (by kernel_rfl)
theorem Iw:bH Tryz.prog 104:=e (by kernel_rfl)
def Pc:=[o 2 (.mv bj)]
def Pd:=[m 3 0,o 4 (.call 128 [.t 3,(aW 0),(aW 100000)]),m 2 4]
def yT:bh:=(s (r Pc) (s (r Pd) .ret))
def Dw:List bp:=[.tmp 2]
theorem J1:bQ Tryz.prog Tryz.f105 yT:=e (by kernel_rfl)
theorem Lt:bN Tryz.prog Tryz.f105 Dw:=e (by kernel_rfl)
theorem Iy:bH Tryz.prog 105:=e (by kernel_rfl)
def Pe:=[o 4 (.mv (.c (.nils 8)))]
def Pf:=[m 8 0,m 9 1,o 10 (.call 146 [.t 8,.t 9]),m 5 10]
def Ph:=[m 11 5,o 12 (.bin .eql (.t 11) (.c (.int .i64 (-1))))]
def Pj:=[m 13 0,m 4 13]
def Pk:=[m 14 5,ad 15 14 1,m 6 15]
def BC:=[m 16 6,m 17 0,o 18 (.len (.t 17)),lt 19 16 18]
def Pl:=[m 22 0,m 23 6,o 24 (.is 8 (.t 22) (.t 23)),ao 25 8 24,o 7 (.alloc (.agg [.agg [.int .i64 0,.int .i64 0],.int .i64 0,.int .i64 0,.int .i64 0,.agg [.int .i64 0,.int .i64 0],.ay ⟨#[]⟩])),p (.aS (some 8) (.t 7) (.t 25))]
def Pm:=[m 26 1,ao 27 8 7,o 28 (.eV (.t 26) [.t 27]),no 29 28]
def Pn:=[m 30 0,m 31 5,ao 32 8 7,o 33 (.is 8 (.t 30) (.t 31)),p (.aS (some 8) (.t 33) (.t 32))]
def Po:=[m 34 5,ad 35 34 1,m 5 35]
def Pg:=[m 20 6,ad 21 20 1,m 6 21]
def BA:=[m 36 0,m 37 5,o 38 (.sl 8 (.t 36) (some (.t 37)) none none),p (.jc 8 (.agg [.agg [.int .i64 0,.int .i64 0],.int .i64 0,.int .i64 0,.int .i64 0,.agg [.int .i64 0,.int .i64 0],.ay ⟨#[]⟩]) (.t 38))]
def BB:=[m 39 0,m 40 5,o 41 (.sl 8 (.t 39) none (some (.t 40)) none),m 4 41]
def uX:bh:=(s (r Pe) (s (r Pf) (s (s (r Ph) (.cond (.t 12) (s (r Pj) .ret) .skip)) (s (s (r Pk) (.block 0 (.loop (s (s (r BC) (.cond (.t 19) .skip (.exit 0))) (s (.block 1 (s (r Pl) (s (r Pm) (.cond (.t 29) (s (r Pn) (r Po)) .skip)))) (r Pg)))))) (s (r BA) (s (r BB) .ret))))))
def wP:List bp:=[.tmp 4]
theorem Al:bQ Tryz.prog Tryz.f106 uX:=e (by kernel_rfl)
theorem Aw:bN Tryz.prog Tryz.f106 wP:=e (by kernel_rfl)
theorem Ab:bH Tryz.prog 106:=e (by kernel_rfl)
def Pp:=[b 3 0,o 4 (.mv bj)]
def Pq:=[f 5 1 2 3,l 6 5,o 7 (.bin .eql (.t 6) (aW 0)),m 8 7,fn 9 3 4 3 8,eZ 10 9 8,eZ 11 1 8,on 12 (.bin .gtr (.t 10) (.t 11)) 8,or 13 8 12,m 14 13,eZ 15 2 14,fn 16 0 0 3 14,on 17 (.ld (some 2) (.t 16)) 14,on 18 (.lk (.aS [(.i .i64),(.i .i64)]) (.bool false) false (.t 15) (.t 17)) 14,on 19 (.un .not (.t 18)) 14,or 20 14 19,m 4 20]
def yU:bh:=(s (r Pp) (s (r Pq) .ret))
def Dy:List bp:=[.tmp 4]
theorem J2:bQ Tryz.prog Tryz.f107 yU:=e (by kernel_rfl)
theorem Lu:bN Tryz.prog Tryz.f107 Dy:=e (by kernel_rfl)
theorem Iz:bH Tryz.prog 107:=e (by kernel_rfl)
def Pr:=[b 2 0,b 3 1,o 4 (.mv bj)]
def Ps:=[f 5 0 0 2,l 6 5,f 7 0 0 3,l 8 7,lt 9 6 8,m 10 9,fn 11 0 0 2 10,eZ 12 11 10,fn 13 0 0 3 10,eZ 14 13 10,on 15 (.bin .eql (.t 12) (.t 14)) 10,fN 16 15 10,cW 17 1 1 2 16,eH 18 17 16,cW 19 1 1 3 16,eH 20 19 16,bB 21 (.bin .lss (.t 18) (.t 20)) 16,on 22 (.pick (.t 16) (.t 21) bj) 10,or 23 10 22,m 4 23]
def yV:bh:=(s (r Pr) (s (r Ps) .ret))
def Dz:List bp:=[.tmp 4]
theorem J3:bQ Tryz.prog Tryz.f108 yV:=e (by kernel_rfl)
theorem Lv:bN Tryz.prog Tryz.f108 Dz:=e (by kernel_rfl)
theorem IA:bH Tryz.prog 108:=e (by kernel_rfl)
def PG:=[bg 6 0]
def PH:=[m 7 0,o 8 (.len (.t 7)),o 9 (.bin .eql (.t 8) (aW 0))]
def PI:=[bg 6 0]
def PJ:=[m 10 0,m 11 1,m 12 0,o 13 (.len (.t 12)),o 14 (.bin .rem (.t 11) (.t 13)),o 15 (.is 1 (.t 10) (.t 14)),l 16 15,m 17 2,o 18 (.bin .rem (.t 16) (.t 17)),m 19 2,o 20 (.bin .add (.t 18) (.t 19)),m 21 2,o 22 (.bin .rem (.t 20) (.t 21)),m 6 22]
def yX:bh:=(s (r PG) (s (s (r PH) (.cond (.t 9) (s (r PI) .ret) .skip)) (s (r PJ) .ret)))
def DB:List bp:=[.tmp 6]
theorem J5:bQ Tryz.prog Tryz.f121 yX:=e (by kernel_rfl)
theorem Lx:bN Tryz.prog Tryz.f121 DB:=e (by kernel_rfl)
theorem IC:bH Tryz.prog 121:=e (by kernel_rfl)
def PK:=[l 4 1,o 5 (.bin .neq (.t 4) (.c (.ay ⟨#[]⟩)))]
def PL:=[l 6 1,o 7 (.call 123 [.t 6,(.c (.int .u8 10))]),m 3 7]
def PM:=[m 8 3,o 9 (.bin .lss (.t 8) (aW 0)),m 10 9,fN 11 0 10,eZ 12 1 10,fN 13 3 10,on 14 (.bin .add (.t 13) (aW 1)) 10,on 15 (.prim (.ss false true) [.t 12,.t 14]) 10,on 16 (.eV (.t 11) [.t 15]) 10,on 17 (.un .not (.t 16)) 10,or 18 10 17]
def PN:=[l 19 1,m 20 3,ad 21 20 1,o 22 (.prim (.ss true false) [.t 19,.t 21]),p (.aS none (.t 1) (.t 22))]
def yY:bh:=(.block 0 (.loop (s (s (r PK) (.cond (.t 5) .skip (.exit 0))) (.block 1 (s (r PL) (s (s (r PM) (.cond (.t 18) .ret .skip)) (r PN)))))))
def DC:List bp:=[]
theorem J6:bQ Tryz.prog Tryz.f122 yY:=e (by kernel_rfl)
theorem Ly:bN Tryz.prog Tryz.f122 DC:=e (by kernel_rfl)
theorem Ac:bH Tryz.prog 122:=e (by kernel_rfl)
theorem ID:bH Tryz.prog 123:=e (by kernel_rfl)
theorem Ad:bH Tryz.prog 124:=e (by kernel_rfl)
theorem IE:bH Tryz.prog 125:=e (by kernel_rfl)
def PO:=[bg 2 0,o 3 (.mv (.c (.ay ⟨#[]⟩)))]
def PQ:=[m 10 0,o 11 (.call 154 [.t 10,(.c (.ay ⟨#[32]⟩))]),m 9 11,o 12 (.ext (.t 9) 0),o 13 (.ext (.t 9) 1),o 14 (.ext (.t 9) 2),m 4 12,m 5 13,m 6 14]
def PR:=[m 16 4,o 17 (.call 155 [.t 16]),m 15 17,o 18 (.ext (.t 15) 0),o 19 (.ext (.t 15) 1),m 7 18,m 8 19]
def PS:=[m 20 6,no 21 20,m 22 21,fN 23 8 22,on 24 (.prim (.ny true) [.t 23]) 22,or 25 22 24]
def su:=[o 26 (.bld [] []),o 27 (.prim (.mF 176) [.t 26]),p (.prim .kO [.t 27])]
def PT:=[m 28 7,m 29 5,m 2 28,m 3 29]
def uY:bh:=(s (r PO) (s (r PQ) (s (r PR) (s (s (r PS) (.cond (.t 25) (r su) .skip)) (s (r PT) .ret)))))
def DE:List bp:=[.tmp 2,.tmp 3]
theorem Am:bQ Tryz.prog Tryz.f126 uY:=e (by kernel_rfl)
theorem Lz:bN Tryz.prog Tryz.f126 DE:=e (by kernel_rfl)
theorem Ae:bH Tryz.prog 126:=e (by kernel_rfl)
theorem IF:bH Tryz.prog 127:=e (by kernel_rfl)
def PU:=[o 6 (.mv bj)]
def PV:=[m 7 1,m 8 0,o 9 (.bin .leq (.t 7) (.t 8)),m 10 9,cq 11 0 10,cq 12 2 10,bB 13 (.bin .leq (.t 11) (.t 12)) 10,and 14 10 13,m 6 14]
def yZ:bh:=(s (r PU) (s (r PV) .ret))
def DF:List bp:=[.tmp 6]
theorem J7:bQ Tryz.prog Tryz.f128 yZ:=e (by kernel_rfl)
theorem LA:bN Tryz.prog Tryz.f128 DF:=e (by kernel_rfl)
theorem IG:bH Tryz.prog 128:=e (by kernel_rfl)
def PW:=[b 1 0,o 2 (.mv bj)]
def PX:=[f 3 0 0 1,l 4 3,o 5 (.call 128 [.t 4,(aW 0),(aW 5)]),m 6 5,cW 7 1 1 1 6,eH 8 7 6,bB 9 (.call 128 [.t 8,(aW 0),(aW 9999)]) 6,and 10 6 9,m 2 10]
def y5:bh:=(s (r PW) (s (r PX) .ret))
def DG:List bp:=[.tmp 2]
theorem J8:bQ Tryz.prog Tryz.f129 y5:=e (by kernel_rfl)
theorem LB:bN Tryz.prog Tryz.f129 DG:=e (by kernel_rfl)
theorem IH:bH Tryz.prog 129:=e (by kernel_rfl)
def PY:=[o 2 (.mv bj)]
def PZ:=[m 5 0,o 6 (.lenT (.t 5)),o 7 (.bin .gtr (.t 6) (aW 160))]
def P0:=[o 2 (.mv bj)]
def P1:=[m 8 0,o 9 (.eT (.t 8)),o 10 (.len (.t 9)),bg 11 0]
def P2:=[lt 12 11 10]
def P3:=[o 13 (.is 1 (.t 9) (.t 11)),l 14 13,m 4 14]
def P4:=[m 15 4,o 16 (.bin .lss (.t 15) (.c (.int .u8 32))),m 17 16,fN 18 4 17,on 19 (.bin .gtr (.t 18) (.c (.int .u8 126))) 17,or 20 17 19,m 21 20,fN 22 4 21,on 23 (.bin .eql (.t 22) (.c (.int .u8 63))) 21,or 24 21 23]
def P5:=[o 2 (.mv bj)]
def P6:=[ad 25 11 1,m 11 25]
def P7:=[o 2 (.mv T)]
def y7:bh:=(s (r PY) (s (s (r PZ) (.cond (.t 7) (s (r P0) .ret) .skip)) (s (s (r P1) (.block 0 (.loop (s (r P2) (s (.cond (.t 12) .skip (.exit 0)) (s (.block 1 (s (r P3) (s (r P4) (.cond (.t 24) (s (r P5) .ret) .skip)))) (r P6))))))) (s (r P7) .ret))))
def DH:List bp:=[.tmp 2]
theorem J9:bQ Tryz.prog Tryz.f130 y7:=e (by kernel_rfl)
theorem LC:bN Tryz.prog Tryz.f130 DH:=e (by kernel_rfl)
theorem II:bH Tryz.prog 130:=e (by kernel_rfl)
theorem IJ:bH Tryz.prog 131:=e (by kernel_rfl)
theorem IK:bH Tryz.prog 132:=e (by kernel_rfl)
def P8:=[b 1 0,o 2 (.mv (.c (.ay ⟨#[]⟩)))]
def P9:=[f 4 0 0 1,f 5 0 0 4,l 6 5,o 7 (.call 134 [.t 6]),o 8 (.bin .add (.t 7) (.c (.ay ⟨#[32]⟩))),f 9 0 0 1,f 10 1 1 9,l 11 10,o 12 (.call 134 [.t 11]),o 13 (.bin .add (.t 8) (.t 12)),o 14 (.bin .add (.t 13) (.c (.ay ⟨#[32]⟩))),f 15 1 2 1,l 16 15,o 17 (.call 134 [.t 16]),o 18 (.bin .add (.t 14) (.t 17)),o 19 (.bin .add (.t 18) (.c (.ay ⟨#[32]⟩))),f 20 2 3 1,l 21 20,o 22 (.call 134 [.t 21]),o 23 (.bin .add (.t 19) (.t 22)),o 24 (.bin .add (.t 23) (.c (.ay ⟨#[32]⟩))),f 25 3 4 1,l 26 25,o 27 (.call 134 [.t 26]),o 28 (.bin .add (.t 24) (.t 27)),o 29 (.bin .add (.t 28) (.c (.ay ⟨#[32]⟩))),m 3 29]
def MS:=some [[],[0],[1],[2],[3],[],[5],[6],[7,3],[4,8],[9],[],[11],[12,8],[10,13],[14],[],[16],[17,13],[15,18],[19],[],[21],[22,18],[20,23],[24],[25,23,0,1,2,3,4,5,6,7,8,9,10,11,12,13,14,15,16,17,18,19,20,21,22,23,24,25]]
def Qa:=[m 30 3,f 31 4 5 1,f 32 0 0 31,l 33 32,o 34 (.call 134 [.t 33]),o 35 (.bin .add (.t 30) (.t 34)),o 36 (.bin .add (.t 35) (.c (.ay ⟨#[32]⟩))),f 37 4 5 1,f 38 1 1 37,l 39 38,o 40 (.call 134 [.t 39]),o 41 (.bin .add (.t 36) (.t 40)),o 42 (.bin .add (.t 41) (.c (.ay ⟨#[32]⟩))),f 43 5 7 1,l 44 43,o 45 (.bin .add (.t 42) (.t 44)),m 2 45]
def MT:=some [[],[],[1],[2],[3],[0,4],[5],[],[7],[8],[9,4],[6,10],[11],[],[13],[12,14],[15,10,0,1,2,3,4,5,6,7,8,9,10,11,12,13,14,15]]
def y8:bh:=(s (r P8) (s (.bW MS P9) (s (.bW MT Qa) .ret)))
def DI:List bp:=[.tmp 2]
theorem Ka:bQ Tryz.prog Tryz.f133 y8:=e (by kernel_rfl)
theorem LD:bN Tryz.prog Tryz.f133 DI:=e (by kernel_rfl)
theorem IL:bH Tryz.prog 133:=e (by kernel_rfl)
def Qb:=[o 2 (.mv (.c (.ay ⟨#[]⟩)))]
def Qc:=[m 4 0,o 5 (.bin .rem (.t 4) (aW 10)),o 6 (.bin .add (aW 48) (.t 5)),o 7 (.conv .u8 (.t 6)),o 8 (.bs 5 1 [.t 7]),o 9 (.b2s (.t 8)),m 3 9]
def Qd:=[m 10 0,o 11 (.bin .geq (.t 10) (aW 10))]
def Qe:=[m 12 0,o 13 (.bin .quo (.t 12) (aW 10)),m 0 13]
def Qf:=[m 14 0,o 15 (.bin .rem (.t 14) (aW 10)),o 16 (.bin .add (aW 48) (.t 15)),o 17 (.conv .u8 (.t 16)),o 18 (.bs 5 1 [.t 17]),o 19 (.b2s (.t 18)),m 20 3,o 21 (.bin .add (.t 19) (.t 20)),m 3 21]
def Qg:=[m 22 3,m 2 22]
def y9:bh:=(s (r Qb) (s (r Qc) (s (.block 0 (.loop (s (s (r Qd) (.cond (.t 11) .skip (.exit 0))) (.block 1 (s (r Qe) (r Qf)))))) (s (r Qg) .ret))))
def DJ:List bp:=[.tmp 2]
theorem Kb:bQ Tryz.prog Tryz.f134 y9:=e (by kernel_rfl)
theorem LF:bN Tryz.prog Tryz.f134 DJ:=e (by kernel_rfl)
theorem IM:bH Tryz.prog 134:=e (by kernel_rfl)
theorem IN:bH Tryz.prog 135:=e (by kernel_rfl)
def Qh:=[b 3 1,o 4 (.mv bj)]
def Qi:=[m 5 0,ao 6 8 3,o 7 (.call 159 [.t 5,.t 6]),o 8 (.bin .geq (.t 7) (aW 0)),m 4 8]
def za:bh:=(s (r Qh) (s (r Qi) .ret))
def DK:List bp:=[.tmp 4]
theorem Kc:bQ Tryz.prog Tryz.f136 za:=e (by kernel_rfl)
theorem LG:bN Tryz.prog Tryz.f136 DK:=e (by kernel_rfl)
theorem IP:bH Tryz.prog 136:=e (by kernel_rfl)
def Qj:=[bg 2 0]
def Qk:=[bg 3 1]
def Ql:=[m 6 0,o 7 (.len (.t 6)),bg 8 0]
def Qm:=[lt 9 8 7]
def Qn:=[o 10 (.is 8 (.t 6) (.t 8)),ao 11 8 10,o 5 (.alloc (.agg [.agg [.int .i64 0,.int .i64 0],.int .i64 0,.int .i64 0,.int .i64 0,.agg [.int .i64 0,.int .i64 0],.ay ⟨#[]⟩])),p (.aS (some 8) (.t 5) (.t 11))]
def Qo:=[m 13 3,ao 14 8 5,o 15 (.call 81 [.t 13,.t 14]),m 12 15,o 16 (.ext (.t 12) 0),o 17 (.ext (.t 12) 1),m 3 17]
def Qp:=[ad 18 8 1,m 8 18]
def Qq:=[m 19 3,m 2 19]
def zb:bh:=(s (r Qj) (s (r Qk) (s (s (r Ql) (.block 0 (.loop (s (r Qm) (s (.cond (.t 9) .skip (.exit 0)) (s (.block 1 (s (r Qn) (r Qo))) (r Qp))))))) (s (r Qq) .ret))))
def DL:List bp:=[.tmp 2]
theorem Kd:bQ Tryz.prog Tryz.f137 zb:=e (by kernel_rfl)
theorem LH:bN Tryz.prog Tryz.f137 DL:=e (by kernel_rfl)
theorem IQ:bH Tryz.prog 137:=e (by kernel_rfl)
def Qr:=[b 4 1,bg 6 0,o 7 (.mv bj)]
def Qs:=[m 12 0,o 13 (.len (.t 12)),m 8 13]
def Qt:=[m 14 8,bg 9 0,m 10 14]
def Qu:=[m 15 9,m 16 10,lt 17 15 16]
def Qv:=[m 18 9,m 19 10,o 20 (.bin .add (.t 18) (.t 19)),o 21 (.conv .u64 (.t 20)),o 22 (.bin .shr (.t 21) (.c (.int .u64 1))),o 23 (.conv .i64 (.t 22)),m 11 23]
def Qw:=[m 24 2,m 25 0,m 26 11,o 27 (.is 8 (.t 25) (.t 26)),ao 28 8 27,ao 29 2 4,o 30 (.eV (.t 24) [.t 28,.t 29]),o 31 (.bin .lss (.t 30) (aW 0))]
def MU:=some [[],[],[],[1,2],[3],[],[0,4,5],[6]]
def Qx:=[m 32 11,ad 33 32 1,m 9 33]
def Qy:=[m 34 11,m 10 34]
def Qz:=[m 35 9,m 36 9,m 37 8,lt 38 36 37,m 39 38,cq 40 2 39,cq 41 0 39,cq 42 9 39,bB 43 (.is 8 (.t 41) (.t 42)) 39,bB 44 (.ld (some 8) (.t 43)) 39,bB 45 (.ld (some 2) (.t 4)) 39,bB 46 (.eV (.t 40) [.t 44,.t 45]) 39,bB 47 (.bin .eql (.t 46) (aW 0)) 39,and 48 39 47,m 6 35,m 7 48]
def MV:=some [[],[],[],[1,2],[3],[4],[4],[4],[6,7,4],[8,4],[4],[5,9,10,4,4],[11,4],[4,12],[0,11,0],[13,14,0,1,2,3,4,5,6,7,8,9,10,11,12,13,14]]
def zc:bh:=(s (r Qr) (s (r Qs) (s (r Qt) (s (.block 0 (.loop (s (s (r Qu) (.cond (.t 17) .skip (.exit 0))) (.block 1 (s (r Qv) (s (.bW MU Qw) (.cond (.t 31) (r Qx) (r Qy)))))))) (s (.bW MV Qz) .ret)))))
def DM:List bp:=[.tmp 6,.tmp 7]
theorem Ke:bQ Tryz.prog Tryz.f138 zc:=e (by kernel_rfl)
theorem LI:bN Tryz.prog Tryz.f138 DM:=e (by kernel_rfl)
theorem IS:bH Tryz.prog 138:=e (by kernel_rfl)
def QA:=[b 2 0,b 3 1,bg 4 0]
def QB:=[f 5 0 0 2,ao 6 2 5,ao 7 2 3,o 8 (.call 140 [.t 6,.t 7]),m 4 8]
def zd:bh:=(s (r QA) (s (r QB) .ret))
def DN:List bp:=[.tmp 4]
theorem Kf:bQ Tryz.prog Tryz.f139 zd:=e (by kernel_rfl)
theorem LJ:bN Tryz.prog Tryz.f139 DN:=e (by kernel_rfl)
theorem IT:bH Tryz.prog 139:=e (by kernel_rfl)
def QC:=[b 2 0,b 3 1,bg 4 0]
def QD:=[f 5 0 0 2,l 6 5,f 7 0 0 3,l 8 7,o 9 (.call 161 [.t 6,.t 8]),f 10 1 1 2,l 11 10,f 12 1 1 3,l 13 12,o 14 (.call 161 [.t 11,.t 13]),o 15 (.bs 3 1 [.t 9,.t 14]),o 16 (.call 160 [.t 15]),m 4 16]
def MW:=some [[],[0],[],[2],[1,3],[],[5],[],[7],[6,8,4],[4,9],[10,9],[11,11,0,1,2,3,4,5,6,7,8,9,10,11]]
def zf:bh:=(s (r QC) (s (.bW MW QD) .ret))
def DP:List bp:=[.tmp 4]
theorem Kh:bQ Tryz.prog Tryz.f140 zf:=e (by kernel_rfl)
theorem LL:bN Tryz.prog Tryz.f140 DP:=e (by kernel_rfl)
theorem IV:bH Tryz.prog 140:=e (by kernel_rfl)
def QE:=[b 1 0,o 2 (.mv (.c (.cZ)))]
def QF:=[o 3 (.mk 165 [.t 1]),m 2 3]
def c145:bh:=(s (r QE) (s (r QF) .ret))
def DQ:List bp:=[.tmp 2]
theorem Ki:bQ Tryz.prog Tryz.f145 c145:=e (by kernel_rfl)
theorem LM:bN Tryz.prog Tryz.f145 DQ:=e (by kernel_rfl)
theorem IW:bH Tryz.prog 145:=e (by kernel_rfl)
def QG:=[bg 4 0]
def QH:=[m 6 0,o 7 (.len (.t 6)),bg 8 0]
def QI:=[lt 9 8 7]
def QJ:=[m 10 8,m 5 10]
def QK:=[m 11 1,m 12 0,m 13 5,o 14 (.is 8 (.t 12) (.t 13)),ao 15 8 14,o 16 (.eV (.t 11) [.t 15])]
def QL:=[m 17 5,m 4 17]
def QM:=[ad 18 8 1,m 8 18]
def QN:=[bg 4 (-1)]
def zg:bh:=(s (r QG) (s (s (r QH) (.block 0 (.loop (s (r QI) (s (.cond (.t 9) .skip (.exit 0)) (s (.block 1 (s (r QJ) (s (r QK) (.cond (.t 16) (s (r QL) .ret) .skip)))) (r QM))))))) (s (r QN) .ret)))
def DR:List bp:=[.tmp 4]
theorem Kj:bQ Tryz.prog Tryz.f146 zg:=e (by kernel_rfl)
theorem LN:bN Tryz.prog Tryz.f146 DR:=e (by kernel_rfl)
theorem IX:bH Tryz.prog 146:=e (by kernel_rfl)
theorem IZ:bH Tryz.prog 152:=e (by kernel_rfl)
def Q1:=[o 4 (.mv (.c (.ay ⟨#[]⟩))),o 5 (.mv (.c (.ay ⟨#[]⟩))),o 6 (.mv bj)]
def Q2:=[m 7 0,m 8 1,o 9 (.call 170 [.t 7,.t 8]),o 10 (.ext (.t 9) 0),o 11 (.ext (.t 9) 1),o 12 (.ext (.t 9) 2),m 4 10,m 5 11,m 6 12]
def zi:bh:=(s (r Q1) (s (r Q2) .ret))
def DT:List bp:=[.tmp 4,.tmp 5,.tmp 6]
theorem Kl:bQ Tryz.prog Tryz.f154 zi:=e (by kernel_rfl)
theorem LP:bN Tryz.prog Tryz.f154 DT:=e (by kernel_rfl)
theorem I0:bH Tryz.prog 154:=e (by kernel_rfl)
theorem I1:bH Tryz.prog 155:=e (by kernel_rfl)
def Q3:=[b 3 1,bg 4 0]
def Q4:=[m 6 0,o 7 (.len (.t 6)),bg 8 0]
def Q5:=[lt 9 8 7]
def Q6:=[m 10 8,m 5 10]
def Q7:=[ao 11 8 3,m 12 0,m 13 5,o 14 (.is 8 (.t 12) (.t 13)),ao 15 8 14,o 16 (.eqv (.aS [(.aS [(.i .i64),(.i .i64)]),(.i .i64),(.i .i64),(.i .i64),(.aS [(.i .i64),(.i .i64)]),.s]) false (.t 11) (.t 15))]
def MX:=some [[],[],[],[1,2],[3],[0,4]]
def Q8:=[m 17 5,m 4 17]
def Q9:=[ad 18 8 1,m 8 18]
def Ra:=[bg 4 (-1)]
def zj:bh:=(s (r Q3) (s (s (r Q4) (.block 0 (.loop (s (r Q5) (s (.cond (.t 9) .skip (.exit 0)) (s (.block 1 (s (r Q6) (s (.bW MX Q7) (.cond (.t 16) (s (r Q8) .ret) .skip)))) (r Q9))))))) (s (r Ra) .ret)))
def DU:List bp:=[.tmp 4]
theorem Km:bQ Tryz.prog Tryz.f159 zj:=e (by kernel_rfl)
theorem LQ:bN Tryz.prog Tryz.f159 DU:=e (by kernel_rfl)
theorem I2:bH Tryz.prog 159:=e (by kernel_rfl)
def Rn:=[bg 2 0]
def Ro:=[bg 3 0]
def Rp:=[m 6 0,o 7 (.len (.t 6)),bg 8 0]
def Rq:=[lt 9 8 7]
def Rr:=[o 10 (.is 1 (.t 6) (.t 8)),l 11 10,m 5 11]
def Rs:=[m 12 5,m 13 3,o 14 (.bin .neq (.t 12) (.t 13))]
def Rt:=[m 15 5,m 2 15]
def Ru:=[ad 16 8 1,m 8 16]
def Rv:=[m 17 3,m 2 17]
def zk:bh:=(s (r Rn) (s (r Ro) (s (s (r Rp) (.block 0 (.loop (s (r Rq) (s (.cond (.t 9) .skip (.exit 0)) (s (.block 1 (s (r Rr) (s (r Rs) (.cond (.t 14) (s (r Rt) .ret) .skip)))) (r Ru))))))) (s (r Rv) .ret))))
def DV:List bp:=[.tmp 2]
theorem Kn:bQ Tryz.prog Tryz.f160 zk:=e (by kernel_rfl)
theorem LR:bN Tryz.prog Tryz.f160 DV:=e (by kernel_rfl)
theorem I3:bH Tryz.prog 160:=e (by kernel_rfl)
def Rw:=[bg 4 0]
def Rx:=[m 7 0,o 8 (.call 175 [.t 7]),m 5 8]
def RC:=[m 9 1,o 10 (.call 175 [.t 9]),m 6 10]
def RD:=[m 11 5]
def RE:=[m 12 6]
def RF:=[bg 4 0]
def RG:=[bg 4 (-1)]
def RH:=[m 13 6]
def RI:=[bg 4 1]
def RJ:=[m 14 0,m 15 1,lt 16 14 15]
def Ry:=[bg 4 (-1)]
def Rz:=[m 17 0,m 18 1,o 19 (.bin .gtr (.t 17) (.t 18))]
def RA:=[bg 4 1]
def RB:=[bg 4 0]
def zl:bh:=(s (r Rw) (s (r Rx) (s (r RC) (s (s (r RD) (.cond (.t 11) (s (s (r RE) (.cond (.t 12) (s (r RF) .ret) .skip)) (s (r RG) .ret)) .skip)) (s (s (r RH) (.cond (.t 13) (s (r RI) .ret) .skip)) (s (s (r RJ) (.cond (.t 16) (s (r Ry) .ret) .skip)) (s (s (r Rz) (.cond (.t 19) (s (r RA) .ret) .skip)) (s (r RB) .ret))))))))
def DW:List bp:=[.tmp 4]
theorem Ko:bQ Tryz.prog Tryz.f161 zl:=e (by kernel_rfl)
theorem LS:bN Tryz.prog Tryz.f161 DW:=e (by kernel_rfl)
theorem I4:bH Tryz.prog 161:=e (by kernel_rfl)
def BD:=[l 4 1,o 5 (.len (.t 4)),o 6 (.bin .sub (.t 5) (aW 1)),m 3 6]
def BE:=[m 7 3,o 8 (.bin .geq (.t 7) (aW 0))]
def BF:=[m 11 0,m 12 3,l 13 1,m 14 3,o 15 (.is 8 (.t 13) (.t 14)),ao 16 8 15,o 17 (.eV (.t 11) [.t 12,.t 16]),no 18 17]
def BG:=[m 9 3,o 10 (.bin .sub (.t 9) (aW 1)),m 3 10]
def zm:bh:=(s (r BD) (.block 0 (.loop (s (s (r BE) (.cond (.t 8) .skip (.exit 0))) (s (.block 1 (s (r BF) (.cond (.t 18) .ret .skip))) (r BG))))))
def DX:List bp:=[]
theorem Kp:bQ Tryz.prog Tryz.f165 zm:=e (by kernel_rfl)
theorem LU:bN Tryz.prog Tryz.f165 DX:=e (by kernel_rfl)
theorem Af:bH Tryz.prog 165:=e (by kernel_rfl)
def RL:=[o 4 (.mv (.c (.ay ⟨#[]⟩))),o 5 (.mv (.c (.ay ⟨#[]⟩))),o 6 (.mv bj)]
def RM:=[m 8 0,m 9 1,o 10 (.call 188 [.t 8,.t 9]),m 7 10]
def RN:=[m 11 7,o 12 (.bin .geq (.t 11) (aW 0))]
def RO:=[m 13 0,m 14 7,o 15 (.prim (.ss false true) [.t 13,.t 14]),m 16 0,m 17 7,m 18 1,o 19 (.lenT (.t 18)),o 20 (.bin .add (.t 17) (.t 19)),o 21 (.prim (.ss true false) [.t 16,.t 20]),m 4 15,m 5 21,o 6 (.mv T)]
def MZ:=some [[],[],[0,1],[],[],[],[5],[4,6],[3,7],[2,0,1,2],[8,9,0,1,2,3,4,5,6,7,8,9],[10,0,1,2,3,4,5,6,7,8,9,10]]
def RP:=[m 22 0,m 4 22,o 5 (.mv (.c (.ay ⟨#[]⟩))),o 6 (.mv bj)]
def zo:bh:=(s (r RL) (s (s (r RM) (s (r RN) (.cond (.t 12) (s (.bW MZ RO) .ret) .skip))) (s (r RP) .ret)))
def DZ:List bp:=[.tmp 4,.tmp 5,.tmp 6]
theorem Kr:bQ Tryz.prog Tryz.f170 zo:=e (by kernel_rfl)
theorem LW:bN Tryz.prog Tryz.f170 DZ:=e (by kernel_rfl)
theorem Ag:bH Tryz.prog 170:=e (by kernel_rfl)
def RQ:=[o 2 (.mv bj)]
def RS:=[m 3 0,m 4 0,o 5 (.bin .neq (.t 3) (.t 4)),m 2 5]
def c175:bh:=(s (r RQ) (s (r RS) .ret))
def D0:List bp:=[.tmp 2]
theorem Ks:bQ Tryz.prog Tryz.f175 c175:=e (by kernel_rfl)
theorem LX:bN Tryz.prog Tryz.f175 D0:=e (by kernel_rfl)
theorem I6:bH Tryz.prog 175:=e (by kernel_rfl)
def R0:=[bg 4 0]
def R1:=[m 14 1,o 15 (.lenT (.t 14)),m 5 15]
def Sc:=[m 17 5,o 18 (.bin .eql (.t 17) (aW 0)),m 19 18,fN 20 1 19,fN 21 0 19,on 22 (.bin .eql (.t 20) (.t 21)) 19,or 23 19 22,m 16 23]
def Sn:=[bg 4 0]
def St:=[m 25 5,o 26 (.bin .eql (.t 25) (aW 1)),m 24 26]
def Su:=[m 27 0,m 28 1,o 29 (.prim .dS [.t 28,(aW 0)]),o 30 (.call 152 [.t 27,.t 29]),m 4 30]
def Sv:=[m 32 5,m 33 0,o 34 (.lenT (.t 33)),o 35 (.bin .geq (.t 32) (.t 34)),m 31 35]
def Sw:=[bg 4 (-1)]
def Sx:=[m 45 0,m 46 1,o 47 (.gK 204 [.t 45,.t 46]),m 4 47]
def Sy:=[m 48 1,o 49 (.prim .dS [.t 48,(aW 0)]),m 6 49]
def R2:=[m 50 1,o 51 (.prim .dS [.t 50,(aW 1)]),m 7 51]
def R3:=[bg 8 0]
def R4:=[m 52 0,o 53 (.lenT (.t 52)),m 54 5,o 55 (.bin .sub (.t 53) (.t 54)),ad 56 55 1,m 9 56]
def R5:=[bg 10 0]
def R6:=[m 57 8,m 58 9,lt 59 57 58]
def R7:=[m 60 0,m 61 8,o 62 (.prim .dS [.t 60,.t 61]),m 63 6,o 64 (.bin .neq (.t 62) (.t 63))]
def R8:=[m 65 0,m 66 8,ad 67 66 1,m 68 9,o 69 (.prim (.ss true true) [.t 65,.t 67,.t 68]),m 70 6,o 71 (.call 152 [.t 69,.t 70]),m 11 71]
def R9:=[m 72 11,o 73 (.bin .lss (.t 72) (aW 0))]
def Sa:=[bg 4 (-1)]
def Sb:=[m 74 8,m 75 11,ad 76 75 1,o 77 (.bin .add (.t 74) (.t 76)),m 8 77]
def Sd:=[m 78 0,m 79 8,ad 80 79 1,o 81 (.prim .dS [.t 78,.t 80]),m 82 7,o 83 (.bin .eql (.t 81) (.t 82)),m 84 83,cq 85 0 84,cq 86 8 84,cq 87 8 84,cq 88 5 84,bB 89 (.bin .add (.t 87) (.t 88)) 84,bB 90 (.prim (.ss true true) [.t 85,.t 86,.t 89]) 84,cq 91 1 84,bB 92 (.bin .eql (.t 90) (.t 91)) 84,and 93 84 92]
def Se:=[m 94 8,m 4 94]
def Sf:=[m 95 8,ad 96 95 1,m 8 96]
def Sg:=[m 97 10,ad 98 97 1,m 10 98]
def Sh:=[m 108 0,m 109 8,o 110 (.prim (.ss true false) [.t 108,.t 109]),m 111 1,o 112 (.gK 204 [.t 110,.t 111]),m 12 112]
def Si:=[m 113 12,o 114 (.bin .geq (.t 113) (aW 0))]
def Sj:=[m 115 12,m 116 8,o 117 (.bin .add (.t 115) (.t 116)),m 4 117]
def Sk:=[bg 4 (-1)]
def Sl:=[m 133 0,m 134 8,o 135 (.prim (.ss true false) [.t 133,.t 134]),m 136 1,o 137 (.call 206 [.t 135,.t 136]),m 13 137]
def Sm:=[m 138 13,o 139 (.bin .lss (.t 138) (aW 0))]
def Sp:=[bg 4 (-1)]
def Sq:=[m 140 8,m 141 13,o 142 (.bin .add (.t 140) (.t 141)),m 4 142]
def Sr:=[bg 4 (-1)]
def zq:bh:=(s (r R0) (s (r R1) (s (.block 0 (s (r Sc) (.cond (.t 16) (s (r Sn) .ret) (s (r St) (.cond (.t 24) (s (r Su) .ret) (s (r Sv) (.cond (.t 31) (s (r Sw) .ret) (s .pQ (.cond (.t 36) (s (r Sx) .ret) .skip))))))))) (s (r Sy) (s (r R2) (s (r R3) (s (r R4) (s (r R5) (s (.block 1 (.loop (s (s (r R6) (.cond (.t 59) .skip (.exit 1))) (.block 2 (s (s (r R7) (.cond (.t 64) (s (r R8) (s (s (r R9) (.cond (.t 73) (s (r Sa) .ret) .skip)) (r Sb))) .skip)) (s (s (r Sd) (.cond (.t 93) (s (r Se) .ret) .skip)) (s (r Sf) (s (r Sg) (s .pQ (.cond (.t 107) (s (r Sh) (s (s (r Si) (.cond (.t 114) (s (r Sj) .ret) .skip)) (s (r Sk) .ret))) (s .pQ (.cond (.t 132) (s (r Sl) (s (s (r Sm) (.cond (.t 139) (s (r Sp) .ret) .skip)) (s (r Sq) .ret))) .skip)))))))))))) (s (r Sr) .ret))))))))))
def D6:List bp:=[.tmp 4]
theorem Ku:bQ Tryz.prog Tryz.f188 zq:=e (by kernel_rfl)
theorem LZ:bN Tryz.prog Tryz.f188 D6:=e (by kernel_rfl)
theorem I8:bH Tryz.prog 188:=e (by kernel_rfl)
end Go.Proofs.YtoffnnjbplgnaaaGreatDoor
namespace Go.Abs
open Go Go.RowKit
open Enc (enc)
def aj(x:I)(p q:Prop):Prop:=match x with
 | .bool t=>(t=true→p)∧(t=false→q)
 |_=>False
theorem U.fM{c:ct}{A:ab}{Q:Exit→ab→Prop}{b:aF}{x y:bh}(h:aj (af A b) (U c x Q A) (U c y Q A)):U c (.cond b x y) Q A:=by
 generalize hb:af A b=v at h;unfold aj at h;split at h
 ·exact U.cond hb h.1 h.2
 ·exact h.elim
def nL(r:I):Option (List I)→Prop
 |some xs=>kb xs=r
 |none=>False
theorem abr(rs:List bp)(r:I)(A:ab):jr rs r .ret A=nL r (eD A rs):=by
 simp only[jr,nL];cases eD A rs <;>simp
theorem abq(rs:List bp)(r:I)(A:ab):jr rs r .normal A=nL r (eD A rs):=by
 simp only[jr,nL];cases eD A rs <;>simp
def qW(s:Option Nat)(A:ab):Option I→Option I
 |some x=>if bT s x=true then bf true A x else none
 |none=>none
def lu:Option I→Option (List I)→Option (List I)
 |some x,some xs=>some (x::xs)
 |_,_=>none
theorem abj(A:ab):eD A []=some []:=rfl
theorem abk(A:ab)(t:Nat)(rs:List bp):eD A (.tmp t::rs)=lu (bf true A (A.t t)) (eD A rs):=by
 simp only[eD,tQ];cases bf true A (A.t t) <;>cases eD A rs <;>rfl
theorem abi(A:ab)(a:Nat)(s:Option Nat)(rs:List bp):eD A (.cell a s::rs)=lu (qW s A (fH A (A.t a))) (eD A rs):=by
 simp only[eD,tQ,j0];cases fH A (A.t a) with
 |none=>cases eD A rs <;>rfl
 |some x =>
  by_cases h:bT s x=true
  ·simp only[qW,if_pos h];cases bf true A x <;>cases eD A rs <;>rfl
  ·simp only[qW,if_neg h];cases eD A rs <;>rfl
def lz(aE:Bool)(A:ab):Option I→Option I
 |some x=>if x.bw=true then some (.ref x) else (fI A 9 x).map .ref
 |none=>none
theorem oI(A:ab)(n:Nat)(p:List Nat):bf true A (.ptr n p)=lz true A (dv p (A.o n)):=by
 simp only[bf,j0,fH,if_true,lz];cases dv p (A.o n) <;>rfl
open Classical in
noncomputable def jD(sz lo k:Nat):Option (List I)→Option I
 |some fs=>if I.b7 ((fs.drop lo).take k)=true then some (.slice sz ((fs.drop lo).take k)) else none
 |none=>none
theorem vz(A:ab)(n:Nat)(p:List Nat)(sz lo k:Nat):bf true A (.view n p sz lo k)=jD sz lo k (eG (dv p (A.o n))):=by
 simp only[bf,j0,fH,if_true];cases dv p (A.o n) with
 |none=>rfl
 |some c=>cases c <;>simp only[eG,I.c7,jD] <;>(split <;>simp_all)
open Classical in
noncomputable def kF(k:Nat):Option ai→Option I
 |some (.bM _ sz es)=>if k=es.length∧I.b7 es=true then some (.slice sz es) else none
 |_=>none
theorem On(aE:Bool)(A:ab)(n k:Nat):bf aE A (.own n k)=kF k (A.o n):=by
 simp only[bf];cases A.o n with
 |none=>rfl
 |some y=>cases y <;>simp only[kF] <;>(split <;>simp_all)
theorem Of(aE:Bool)(A:ab)(fs:List I):bf aE A (.agg fs)=(bL aE A fs).map .agg:=by simp only[bf]
theorem Oh(aE:Bool)(A:ab)(f:FuncId)(fs:List I):bf aE A (.func f fs)=if f<1000000 then (bL aE A fs).map (.func f) else some .any:=by simp only[bf]
theorem Oi(aE:Bool)(A:ab)(k:IntKind)(n:Int):bf aE A (.int k n)=some (.int k n):=by simp only[bf]
theorem Og(aE:Bool)(A:ab)(n:Bool):bf aE A (.bool n)=some (.bool n):=by simp only[bf]
theorem Ot(aE:Bool)(A:ab)(n:ByteArray):bf aE A (.ay n)=some (.ay n):=by simp only[bf]
theorem Om(aE:Bool)(A:ab)(n:Nat):bf aE A (.nils n)=some (.slice n []):=by simp only[bf]
theorem Oq(aE:Bool)(A:ab)(n:Nat)(es:List I):bf aE A (.slice n es)=if I.b7 es=true then some (.slice n es) else none:=by simp only[bf]
theorem Oo(aE:Bool)(A:ab)(x:I):bf aE A (.ref x)=if x.bw=true then some (.ref x) else none:=by simp only[bf]
theorem Ox(aE:Bool)(A:ab):bL aE A []=some []:=by simp only[bL]
theorem Ow(aE:Bool)(A:ab)(x:I)(xs:List I):bL aE A (x::xs)=lu (bf aE A x) (bL aE A xs):=by
 simp only[bL];cases bf aE A x <;>cases bL aE A xs <;>rfl
theorem Lc(fs:List I):(I.agg fs).bw=I.b7 fs:=by simp only[I.bw]
theorem Lh(n:Nat)(fs:List I):(I.slice n fs).bw=I.b7 fs:=by simp only[I.bw]
theorem Lg(x:I):(I.ref x).bw=x.bw:=by simp only[I.bw]
theorem Lf(k:IntKind)(n:Int):(I.int k n).bw=true:=by simp only[I.bw]
theorem Ld(n:Bool):(I.bool n).bw=true:=by simp only[I.bw]
theorem Li(n:ByteArray):(I.ay n).bw=true:=by simp only[I.bw]
theorem Le(f:FuncId)(fs:List I):(I.func f fs).bw=I.b7 fs:=by simp only[I.bw]
theorem Lk:I.b7 []=true:=by simp only[I.b7]
theorem Lj(x:I)(xs:List I):I.b7 (x::xs)=(x.bw&&I.b7 xs):=by simp only[I.b7]
theorem HZ(k:IntKind)(a b:Int):bS .add (.int k a) (.int k b)=some (.int k (k.wrap (a+b))):=by simp[bS]
theorem Ih(k:IntKind)(a b:Int):bS .sub (.int k a) (.int k b)=some (.int k (k.wrap (a-b))):=by simp[bS]
theorem H8(k:IntKind)(a b:Int):bS .mul (.int k a) (.int k b)=some (.int k (k.wrap (a*b))):=by simp[bS]
theorem Ic(k:IntKind)(a b:Int):bS .quo (.int k a) (.int k b)=if b=0 then none else some (.int k (k.wrap (a.tdiv b))):=by simp[bS]
theorem Ie(k:IntKind)(a b:Int):bS .rem (.int k a) (.int k b)=if b=0 then none else some (.int k (a.tmod b)):=by simp[bS]
theorem H0(k:IntKind)(a b:Int):bS .and (.int k a) (.int k b)=some (.int k (k.wrap ((BitVec.ofInt k.bits a &&& BitVec.ofInt k.bits b).toNat:Int))):=by simp[bS]
theorem Ib(k:IntKind)(a b:Int):bS .or (.int k a) (.int k b)=some (.int k (k.wrap ((BitVec.ofInt k.bits a ||| BitVec.ofInt k.bits b).toNat:Int))):=by simp[bS]
theorem Ii(k:IntKind)(a b:Int):bS .xor (.int k a) (.int k b)=some (.int k (k.wrap ((BitVec.ofInt k.bits a ^^^ BitVec.ofInt k.bits b).toNat:Int))):=by simp[bS]
theorem H2(k:IntKind)(a b:Int):bS .andNot (.int k a) (.int k b)=some (.int k (k.wrap ((BitVec.ofInt k.bits a &&& ~~~ BitVec.ofInt k.bits b).toNat:Int))):=by simp[bS]
theorem If(k k':IntKind)(a b:Int):bS .shl (.int k a) (.int k' b)=if 0≤b then some (.int k (k.wrap (a*2^(min b.toNat k.bits)))) else none:=by simp[bS]
theorem Ig(k k':IntKind)(a b:Int):bS .shr (.int k a) (.int k' b)=if 0≤b then some (.int k (a.fdiv (2^(min b.toNat k.bits)))) else none:=by simp[bS]
theorem H3(k:IntKind)(a b:Int):bS .eql (.int k a) (.int k b)=some (.bool (a==b)):=by simp[bS]
theorem H9(k:IntKind)(a b:Int):bS .neq (.int k a) (.int k b)=some (.bool (a != b)):=by simp[bS]
theorem H7(k:IntKind)(a b:Int):bS .lss (.int k a) (.int k b)=some (.bool (decide (a<b))):=by simp[bS]
theorem H6(k:IntKind)(a b:Int):bS .leq (.int k a) (.int k b)=some (.bool (decide (a≤b))):=by simp[bS]
theorem H5(k:IntKind)(a b:Int):bS .gtr (.int k a) (.int k b)=some (.bool (decide (b<a))):=by simp[bS]
theorem H4(k:IntKind)(a b:Int):bS .geq (.int k a) (.int k b)=some (.bool (decide (b≤a))):=by simp[bS]
theorem yn :
  (∀ ts os d v,(al ts os).put d v=al ((d,v)::ts) os)∧(∀ ts os d v,(al ts os).aP (some d) v=al ((d,v)::ts) os)∧(∀ (A:ab) v,A.aP none v=A) ∧
  (∀ ts os d x,(al ts os).aN d x=al ts ((d,x)::os))∧(∀ ts os k,(al ts os).t k=cw ts k)∧(∀ ts os k,(al ts os).o k=aG os k) ∧
  (∀ j v r k,cw ((j,v)::r) k=if k=j then v else cw r k)∧(∀ j v r k,aG ((j,v)::r) k=if k=j then some v else aG r k)∧(∀ k,aG [] k=none) ∧
  (∀ A k,af A (.t k)=A.t k)∧(∀ A x,af A (.c x)=x)∧(∀ d rest A v,cK d rest A v=aA rest (A.aP d v))∧(∀ v k,cv (some v) k=k v)∧(∀ A,aA [] A=.done A) :=
 ⟨wg,CH,Zr,s8,Zs,Zq,bI,cL,Zg,NZ,NY,YP,Ij,Hw⟩
theorem Dc :
  (∀ d rest A op,aA (⟨d,op,none⟩::rest) A=bq A d op rest)∧(∀ d rest A op t b,aA (⟨d,op,some (t,b)⟩::rest) A=gm (A.t t) b d op rest A) ∧
  (∀ d rest A op,gm (.bool true) true d op rest A=bq A d op rest)∧(∀ d rest A op,gm (.bool false) false d op rest A=bq A d op rest) ∧
  (∀ d rest A op,gm (.bool true) false d op rest A=aA rest (A.aP d .undef))∧(∀ d rest A op,gm (.bool false) true d op rest A=aA rest (A.aP d .undef))∧(∀ d rest A op b,gm .undef b d op rest A=aA rest (A.aP d .undef)) ∧
  (∀ d rest A x,bq A d (.mv x) rest=aA rest (A.aP d (af A x)))∧(∀ d rest A c a b,bq A d (.pick c a b) rest=qM A d a b rest (af A c)) ∧
  (∀ A d a b rest,qM A d a b rest (.bool true)=aA rest (A.aP d (af A a)))∧(∀ A d a b rest,qM A d a b rest (.bool false)=aA rest (A.aP d (af A b))) ∧
  (∀ d rest A op x y,bq A d (.bin op x y) rest=cv (bS op (af A x) (af A y)) (cK d rest A)) ∧
  (∀ d rest A ty neg x y,bq A d (.eqv ty neg x y) rest=cv ((bV ty (af A x) (af A y)).map fun b=>.bool (if neg then !b else b)) (cK d rest A)) ∧
  (∀ d rest A op x,bq A d (.un op x) rest=cv (ry op (af A x)) (cK d rest A))∧(∀ b,ry .not (.bool b)=some (.bool !b))∧(∀ k n,ry .neg (.int k n)=some (.int k (k.wrap (0-n))))∧(∀ k n,ry .xor (.int k n)=some (.int k (oy k n))) ∧
  (∀ d rest A k x,bq A d (.conv k x) rest=cv (vb k (af A x)) (cK d rest A))∧(∀ k k' n,vb k (.int k' n)=some (.int k (k.wrap n))) ∧
  (∀ d rest A s x,bq A d (.ld s x) rest=cv (fP s (fH A (af A x))) (cK d rest A))∧(∀ d rest A f off x,bq A d (.fa f off x) rest=cv (mw A f off (af A x)) (cK d rest A)) ∧
  (∀ d rest A f off s x,bq A d (.fl f off s x) rest=cv (sh f off s (af A x).c7) (cK d rest A))∧(∀ d rest A n esz x i,bq A d (.ia n esz x i) rest=cv (qk A n esz (af A x) (af A i)) (cK d rest A)) ∧
  (∀ d rest A esz x i,bq A d (.is esz x i) rest=cv (qq A esz (af A x) (af A i)) (cK d rest A))∧(∀ d rest A n esz s x i,bq A d (.ix n esz s x i) rest=cv (qw n esz s (af A x) (af A i)) (cK d rest A)) ∧
  (∀ d rest A x,bq A d (.len x) rest=cv (j6 A (af A x)) (cK d rest A))∧(∀ d rest A n esz x,bq A d (.va n esz x) rest=cv (nZ A n esz (af A x)) (cK d rest A)) ∧
  (∀ d rest A zs ps,bq A d (.bld zs ps) rest=cv ((fG zs (ps.map fun p=>(p.1,af A p.2))).map .agg) (cK d rest A))∧(∀ d rest A x i,bq A d (.ext x i) rest=cv (vp i (af A x)) (cK d rest A))∧(∀ i fs,vp i (.tuple fs)=fs[i]?) ∧
  (∀ d rest A f caps,bq A d (.mk f caps) rest=cv (if ((caps.map (af A)).all fun y=>y.cn)=true then some (.func f (caps.map (af A))) else none) (cK d rest A)) ∧
  (∀ rest A d z,bq A (some d) (.alloc z) rest=uH A d z rest (A.o d))∧(∀ A d z rest,uH A d z rest none=aA rest ((A.aN d (.box z)).put d (.ptr d []))) ∧
  (∀ rest A d x,bq A (some d) (.box x) rest=rW A d (af A x) rest (A.o d))∧(∀ A d z rest,rW A d z rest none=rX A d z rest z.cn)∧(∀ A d z rest,rX A d z rest true=aA rest ((A.aN d (.box z)).put d (.ptr d []))) ∧
  (∀ rest A s x v,bq A none (.aS s x v) rest=b9 A s (af A v) rest (af A x))∧(∀ A s v rest n p,b9 A s v rest (.ptr n p)=uc A s n p v rest (A.o n))∧(∀ A s n p v rest b,uc A s n p v rest (some (.box b))=dT A s n p b v rest (b.at p)) ∧
  (∀ d rest A f args,bq A d (.call f args) rest=.call f (args.map (af A)) (bL true A (args.map (af A))) (bL false A (args.map (af A))) d rest A) ∧
  (∀ d rest A x args,bq A d (.eV x args) rest=pU A d (args.map (af A)) rest (af A x))∧(∀ A d args rest f caps,pU A d args rest (.func f caps)=if f<1000000 then .call f (args++caps) (bL true A (args++caps)) (bL false A (args++caps)) d rest A else .call (kE f) (caps++args) (bL true A (caps++args)) (bL false A (caps++args)) d rest A) :=
 ⟨Hh,Hi,XP,XM,XO,XN,XQ,Z6,aaa,fun _ _ _ _ _=>rfl,fun _ _ _ _ _=>rfl,ZH,ZR,aaf,fun _=>rfl,fun _ _=>rfl,fun _ _=>rfl,ZP,fun _ _ _=>rfl,ZY,ZT,ZU,ZV,ZW,ZX,ZZ,aag,ZI,ZS,fun _ _=>rfl,Z2,
  ZE,fun _ _ _ _=>rfl,ZJ,fun _ _ _ _=>rfl,fun _ _ _ _=>rfl,aae,fun _ _ _ _ _ _=>rfl,fun _ _ _ _ _ _ _=>rfl,ZL,ZM,fun A d args rest f caps=>by
   simp only[pU];split
   ·rename_i h;rw[vt h,vr h]
   ·rename_i h;simp only[gR,if_neg h]⟩
theorem fg{A:ab}{s:Option Nat}{n:Nat}{p:List Nat}{b v old:I}{rest:List aC}(h1:v.cn=true)(h2:bT s v=true)(h3:v.aL=old.aL):dT A s n p b v rest (some old)=aA rest (A.aN n (.box (b.dm p v))):=by
 simp only[dT];rw[if_pos ⟨h1,h2,h3⟩]
theorem F5 :
  (∀ A x,fH A (.ref x)=some x)∧(∀ A n p,fH A (.ptr n p)=dv p (A.o n))∧(∀ p c,dv p (some (.box c))=c.at p)∧(∀ c:I,c.at []=some c)∧(∀ (c:I) i p,c.at (i::p)=jA i p c.c7) ∧
  (∀ i p fs,jA i p (some fs)=mZ p fs[i]?)∧(∀ p f,mZ p (some f)=f.at p)∧(∀ c v:I,c.dm [] v=v)∧(∀ (c:I) i p v,c.dm (i::p) v=pq c i p v c.c7)∧(∀ c i p v fs,pq c i p v (some fs)=ri fs i p v fs[i]?) ∧
  (∀ fs i p v f,ri fs i p v (some f)=.agg (fs.set i (f.dm p v)))∧(∀ fs,(I.agg fs).c7=some fs)∧(∀ x:I,eG (some x)=x.c7) ∧
  (∀ s x,fP s (some x)=if bT s x=true then some x else none) ∧
  (∀ A f off c,mw A f off (.ref c)=sd f off c.c7)∧(∀ A f off n p,mw A f off (.ptr n p)=p8 n p f off (eG (dv p (A.o n))))∧(∀ f off fs,sd f off (some fs)=p7 fs f off fs[f]?)∧(∀ fs f off v,p7 fs f off (some v)=fE fs f off (.ref v)) ∧
  (∀ n p f off fs,p8 n p f off (some fs)=fE fs f off (.ptr n (p++[f])))∧(∀ A n esz x kk k,qk A n esz x (.int kk k)=nl A n esz k x)∧(∀ A n esz k c,nl A n esz k (.ref c)=iO k n (oO n esz k c.c7)) ∧
  (∀ A n esz k m p,nl A n esz k (.ptr m p)=iO k n (ql n esz m p k (eG (dv p (A.o m)))))∧(∀ n esz k fs,oO n esz k (some fs)=jh n esz fs ((fs[k.toNat]?).map .ref))∧(∀ n esz m p k fs,ql n esz m p k (some fs)=jh n esz fs (some (.ptr m (p++[k.toNat])))) ∧
  (∀ A esz x kk k,qq A esz x (.int kk k)=ji A esz k x)∧(∀ n esz s x kk k,qw n esz s x (.int kk k)=np n esz s k x.c7)∧(∀ n esz s k fs,np n esz s k (some fs)=iO k n (jh n esz fs (fP s fs[k.toNat]?))) ∧
  (∀ A n esz m p,nZ A n esz (.ptr m p)=rA n esz m p (eG (dv p (A.o m))))∧(∀ n esz m p fs,rA n esz m p (some fs)=rz n esz fs (.view m p esz 0 n)) ∧
  (∀ A sz es,j6 A (.slice sz es)=some (.int .i64 es.length))∧(∀ A n,j6 A (.nils n)=some (.int .i64 0))∧(∀ A n,j6 A (.c0 n)=some (.int .i64 0)) :=
 ⟨fun _ _=>rfl,fun _ _ _=>rfl,fun _ _=>rfl,na,HP,fun _ _ _=>rfl,fun _ _=>rfl,ff,xg,fun _ _ _ _ _=>rfl,fun _ _ _ _ _=>rfl,fun _=>rfl,fun _=>rfl,fun _ _=>rfl,fun _ _ _ _=>rfl,fun _ _ _ _ _=>rfl,fun _ _ _=>rfl,fun _ _ _ _=>rfl,
  fun _ _ _ _ _=>rfl,fun _ _ _ _ _ _=>rfl,fun _ _ _ _ _=>rfl,fun _ _ _ _ _ _=>rfl,fun _ _ _ _=>rfl,fun _ _ _ _ _ _=>rfl,fun _ _ _ _ _=>rfl,fun _ _ _ _ _ _=>rfl,fun _ _ _ _ _=>rfl,fun _ _ _ _ _=>rfl,fun _ _ _ _ _=>rfl,fun _ _ _=>rfl,fun _ _=>rfl,fun _ _=>rfl⟩
theorem A5 :
  (∀ A n p,bf true A (.ptr n p)=lz true A (dv p (A.o n)))∧(∀ A x,lz true A (some x)=if x.bw=true then some (.ref x) else (fI A 9 x).map .ref)∧(∀ A n p sz lo k,bf true A (.view n p sz lo k)=jD sz lo k (eG (dv p (A.o n)))) ∧
  (∀ A n p,bf false A (.ptr n p)=none)∧(∀ A n p sz lo k,bf false A (.view n p sz lo k)=none)∧(∀ x,lu none x=none)∧(∀ x,lu x none=none) ∧
  (∀ aE A n k,bf aE A (.own n k)=kF k (A.o n))∧(∀ aE A fs,bf aE A (.agg fs)=(bL aE A fs).map .agg)∧(∀ aE A f fs,bf aE A (.func f fs)=if f<1000000 then (bL aE A fs).map (.func f) else some .any)∧(∀ aE A k n,bf aE A (.int k n)=some (.int k n))∧(∀ aE A b,bf aE A (.bool b)=some (.bool b)) ∧
  (∀ aE A s,bf aE A (.ay s)=some (.ay s))∧(∀ aE A n,bf aE A (.nils n)=some (.slice n []))∧(∀ aE A n es,bf aE A (.slice n es)=if I.b7 es=true then some (.slice n es) else none)∧(∀ aE A x,bf aE A (.ref x)=if x.bw=true then some (.ref x) else none) ∧
  (∀ aE A,bL aE A []=some [])∧(∀ aE A x xs,bL aE A (x::xs)=lu (bf aE A x) (bL aE A xs))∧(∀ x xs,lu (some x) (some xs)=some (x::xs)) ∧
  (∀ fs,(I.agg fs).bw=I.b7 fs)∧(∀ n fs,(I.slice n fs).bw=I.b7 fs)∧(∀ x,(I.ref x).bw=x.bw)∧(∀ k n,(I.int k n).bw=true)∧(∀ n,(I.bool n).bw=true)∧(∀ n,(I.ay n).bw=true)∧(∀ f fs,(I.func f fs).bw=I.b7 fs) ∧
  I.b7 []=true∧(∀ x xs,I.b7 (x::xs)=(x.bw&&I.b7 xs)) ∧
  (∀ rs r A,jr rs r .ret A=nL r (eD A rs))∧(∀ rs r A,jr rs r .normal A=nL r (eD A rs))∧(∀ r xs,nL r (some xs)=(kb xs=r))∧(∀ A,eD A []=some [])∧(∀ A t rs,eD A (.tmp t::rs)=lu (bf true A (A.t t)) (eD A rs)) ∧
  (∀ A a s rs,eD A (.cell a s::rs)=lu (qW s A (fH A (A.t a))) (eD A rs))∧(∀ s A x,qW s A (some x)=if bT s x=true then bf true A x else none)∧(∀ x,kb [x]=x)∧(∀ x y xs,kb (x::y::xs)=.tuple (x::y::xs)) :=
 ⟨oI,fun _ _=>rfl,vz,fun _ _ _=>rfl,fun _ _ _ _ _ _=>rfl,fun _=>rfl,fun x=>by cases x <;>rfl,On,Of,Oh,Oi,Og,Ot,Om,Oq,Oo,Ox,Ow,fun _ _=>rfl,Lc,Lh,Lg,Lf,Ld,Li,Le,Lk,Lj,
  abr,abq,fun _ _=>rfl,abj,abk,abi,fun _ _ _=>rfl,fun _=>rfl,fun _ _ _=>rfl⟩
theorem yH :
  (∀ k a b,bS .add (.int k a) (.int k b)=some (.int k (k.wrap (a+b))))∧(∀ k a b,bS .sub (.int k a) (.int k b)=some (.int k (k.wrap (a-b))))∧(∀ k a b,bS .mul (.int k a) (.int k b)=some (.int k (k.wrap (a*b)))) ∧
  (∀ k a b,bS .quo (.int k a) (.int k b)=if b=0 then none else some (.int k (k.wrap (a.tdiv b))))∧(∀ k a b,bS .rem (.int k a) (.int k b)=if b=0 then none else some (.int k (a.tmod b))) ∧
  (∀ k a b,bS .and (.int k a) (.int k b)=some (.int k (k.wrap ((BitVec.ofInt k.bits a &&& BitVec.ofInt k.bits b).toNat:Int))))∧(∀ k a b,bS .or (.int k a) (.int k b)=some (.int k (k.wrap ((BitVec.ofInt k.bits a ||| BitVec.ofInt k.bits b).toNat:Int)))) ∧
  (∀ k a b,bS .xor (.int k a) (.int k b)=some (.int k (k.wrap ((BitVec.ofInt k.bits a ^^^ BitVec.ofInt k.bits b).toNat:Int))))∧(∀ k a b,bS .andNot (.int k a) (.int k b)=some (.int k (k.wrap ((BitVec.ofInt k.bits a &&& ~~~ BitVec.ofInt k.bits b).toNat:Int)))) ∧
  (∀ k k' a b,bS .shl (.int k a) (.int k' b)=if 0≤b then some (.int k (k.wrap (a*2^(min b.toNat k.bits)))) else none)∧(∀ k k' a b,bS .shr (.int k a) (.int k' b)=if 0≤b then some (.int k (a.fdiv (2^(min b.toNat k.bits)))) else none) ∧
  (∀ k a b,bS .eql (.int k a) (.int k b)=some (.bool (a==b)))∧(∀ k a b,bS .neq (.int k a) (.int k b)=some (.bool (a != b)))∧(∀ k a b,bS .lss (.int k a) (.int k b)=some (.bool (decide (a<b))))∧(∀ k a b,bS .leq (.int k a) (.int k b)=some (.bool (decide (a≤b)))) ∧
  (∀ k a b,bS .gtr (.int k a) (.int k b)=some (.bool (decide (b<a))))∧(∀ k a b,bS .geq (.int k a) (.int k b)=some (.bool (decide (b≤a)))) :=
 ⟨HZ,Ih,H8,Ic,Ie,H0,Ib,Ii,H2,If,Ig,H3,H9,H7,H6,H5,H4⟩
end Go.Abs
namespace Go.Abs
open Go Go.RowKit
open Enc (enc)
section
variable {α:Type} [Enc α]
theorem Y7(A:ab)(l:List α):j6 A (enc l)=some (.int .i64 l.length):=by simp[gO,j6]
theorem YC{A:ab}(esz:Nat){k:Int}{l:List α}(h:0≤k∧k.toNat<l.length)(hs:Enc.sz α=esz):ji A esz k (enc l)=some (.ref (enc l[k.toNat])):=by
 simp only[gO,ji,hs,zz2,true_and];rw[if_pos ⟨h.1,by omega⟩];simp[h.2]
theorem dQ{A:ab}(esz:Nat){k:Nat}{l:List α}(h:k<l.length)(hs:Enc.sz α=esz):ji A esz k (enc l)=some (.ref (enc l[k])):=by
 have:=YC (A:=A) esz (k:=(k:Int)) (l:=l) ⟨by omega,by simpa using h⟩ hs;simpa using this
theorem ew.lt{α:Type}{n:Nat}(x:ew n α){k:Nat}(h:k<n):k<x.l.length:=by rw[x.h];exact h
theorem acH{n:Nat}(esz:Nat){k:Int}{x:ew n α}(h:0≤k∧k.toNat<n)(hs:Enc.sz α=esz):iO k n (oO n esz k (some (x.l.map enc)))=some (.ref (enc (x.l[k.toNat]'(x.lt h.2)))):=by
 have hl:=x.lt h.2;simp only[iO,oO,jh,vn n esz x.l x.h hs,if_true];rw[if_pos ⟨h.1,by omega⟩];simp[hl]
theorem sF{n:Nat}(esz:Nat){k:Int}(x:ew n α){y:Option I}(h:0≤k∧k<n)(hs:Enc.sz α=esz):iO k n (jh n esz (x.l.map enc) y)=y:=by
 simp only[iO,jh,vn n esz x.l x.h hs,if_true];rw[if_pos h]
theorem XS{n k:Nat}(x:ew n α)(h:k<n):(x.l.map enc)[k]?=some (enc (x.l[k]'(x.lt h))):=by
 simp[x.lt h]
theorem YL{n:Nat}(esz:Nat){s:Option Nat}{k:Int}{x:ew n α}(h:0≤k∧k.toNat<n)(hs:Enc.sz α=esz):np n esz s k (some (x.l.map enc))=fP s (some (enc (x.l[k.toNat]'(x.lt h.2)))):=by
 have hl:=x.lt h.2;simp only[np,iO,jh,vn n esz x.l x.h hs,if_true];rw[if_pos ⟨h.1,by omega⟩];simp[hl]
theorem HO{n k:Nat}{p:List Nat}{x:ew n α}(h:k<n):jA k p (some (x.l.map enc))=(enc (x.l[k]'(x.lt h))).at p:=by
 have hl:=x.lt h;simp[jA,mZ,hl]
theorem aar(k:IntKind)(n:Int):fP none (some (.int k n))=some (.int k n):=by simp[fP,mK,bT,I.isAgg]
theorem aap(b:Bool):fP none (some (.bool b))=some (.bool b):=by simp[fP,mK,bT,I.isAgg]
theorem aas(z:Nat)(es:List I):fP none (some (.slice z es))=some (.slice z es):=by simp[fP,mK,bT,I.isAgg]
theorem aaq(f:FuncId)(es:List I):fP none (some (.func f es))=some (.func f es):=by simp[fP,mK,bT,I.isAgg]
end
mutual
/-- What every value in memory keeps to: whole numbers within their kind,slices no longer than a slice can be. -/
def I.wf:I→Prop
 | .agg fs=>I.gJ fs
 | .int k n=>k.min≤n∧n≤k.max
 | .ay s=>s.size≤maxLen
 | .slice _ es=>es.length≤maxLen∧I.gJ es
 | .ref c=>c.wf
 | .func _ caps=>I.gJ caps
 | .iface _ v=>v.wf
 |_=>True
def I.gJ:List I→Prop
 | []=>True
 |x::xs=>x.wf∧I.gJ xs
end
mutual
theorem tJ{w:World}{D:aJ}{E:aO} : ∀ (x:I) (cs:List Value),ae w D E x cs→x.wf
 | .agg fs,cs,h=>by simp only[ae,I.wf] at *;exact wS fs cs h
 | .int k n,cs,h=>by simp only[ae,I.wf] at *;exact h.2
 | .ay s,cs,h=>by simp only[ae,I.wf] at *;exact h.2
 | .slice sz es,cs,h=>by
  simp only[ae,I.wf] at *;obtain ⟨a,cap,_,h1,h2,h3,_⟩:=h;refine ⟨by omega,?_⟩;rcases h3 with rfl | ⟨b,off,cs',_,_,h4⟩
  ·simp[I.gJ]
  ·exact wS es cs' h4
 | .ref c,cs,h=>by simp only[ae,I.wf] at *;obtain ⟨b,off,cs',_,_,h⟩:=h;exact tJ c cs' h
 | .func f caps,cs,h=>by simp only[ae,I.wf] at *;obtain ⟨vs,_,h⟩:=h;exact pk caps vs h
 | .iface t v,cs,h=>by simp only[ae,I.wf] at *;obtain ⟨u,cs',_,_,h⟩:=h;exact tJ v cs' h
 | .bool _,_,_ | .nilp,_,_ | .cZ,_,_ | .cR,_,_ | .any,_,_ | .raw _,_,_ | .nils _,_,_ | .c0 _,_,_ | .ptr _ _,_,_ | .own _ _,_,_ | .view _ _ _ _ _,_,_ | .mref _,_,_ | .cU _,_,_ | .cu _ _,_,_ | .undef,_,_ | .cV,_,_ | .tuple _,_,_=>by simp[I.wf]
theorem wS{w:World}{D:aJ}{E:aO} : ∀ (xs:List I) (cs:List Value),aI w D E xs cs→I.gJ xs
 | [],_,_=>by simp[I.gJ]
 |x::xs,cs,h=>by
  simp only[aI,I.gJ] at *;obtain ⟨c1,c2,_,h1,h2⟩:=h;exact ⟨tJ x c1 h1,wS xs c2 h2⟩
theorem pk{w:World}{D:aJ}{E:aO} : ∀ (xs:List I) (vs:List Value),aB w D E xs vs→I.gJ xs
 | [],_,_=>by simp[I.gJ]
 |x::xs,vs,h=>by
  simp only[aB,I.gJ] at *;obtain ⟨v,rest,cs,_,_,h1,h2⟩:=h;exact ⟨tJ x cs h1,pk xs rest h2⟩
end
theorem aK.wf{P:Program}{f:FuncId}{args:List I}{r:I}(hc:dH P f=true)(h:I.gJ args→aK P f args r):aK P f args r :=
 ⟨hc,fun w D vs hl h1 h2=>(h (pk _ _ h2)).2 w D vs hl h1 h2⟩
theorem aK.bJ{P:Program}{f:FuncId}{fn:Func}{x:bh}{rs:List bp}{args:List I}{r:I}(hf:P.funcs[f]?=some fn)(hcall:dH P f=true)(hc:(fn.body.bind (dG P fn.ntmps))=some x)
  (hrs:gj P fn.results.toList=some rs) (hn:args.length≤fn.ntmps) (h:I.gJ args→∀ (w:World) (D:aJ) (E:aO),U ⟨P,w,D,fn.ntmps,bU E,E,e8,none,none⟩ x (jr rs r) (al (bA 0 args) [])):aK P f args r :=
 aK.wf hcall fun hw=>aK.mk hf hcall hc hrs hn (h hw)
theorem jw{α:Type}[Enc α] :
  (∀ A (l:List α),j6 A (enc l)=some (.int .i64 l.length))∧(∀ n (x:ew n α),(enc x).c7=some (x.l.map enc)) :=
 ⟨Y7,fun _ _=>rfl⟩
theorem j9:(∀ k n,fP none (some (.int k n))=some (.int k n))∧(∀ b,fP none (some (.bool b))=some (.bool b))∧(∀ z es,fP none (some (.slice z es))=some (.slice z es))∧(∀ f es,fP none (some (.func f es))=some (.func f es)) :=
 ⟨aar,aap,aas,aaq⟩
end Go.Abs
namespace Go.Abs
open Go Go.RowKit
open Enc (enc)
def oV(neg:Bool):I→Option I
 | .nils _=>some (.bool (!neg))
 | .slice _ es=>if es.isEmpty then none else some (.bool neg)
 | .view _ _ _ _ _=>some (.bool neg)
 |_=>none
def mC:I→Option I
 | .ay s=>some (.int .i64 s.size)
 |_=>none
open Classical in
noncomputable def lY(n:Nat)(p:List Nat)(sz l0 k esz:Nat)(lo hi mx:Option I):Option (List I)→Option I
 |some fs=>if sz=esz then iU n p sz l0 k fs.length lo hi mx else none
 |none=>none
noncomputable def gH(A:ab)(esz:Nat)(lo hi mx:Option I):I→Option I
 | .slice sz es=>if sz=esz then hJ sz es lo hi mx else none
 | .nils sz=>if sz=esz then hJ sz [] lo hi mx else none
 | .c0 sz=>if sz=esz then hJ sz [] lo hi mx else none
 | .view n p sz l0 k=>lY n p sz l0 k esz lo hi mx (eG (dv p (A.o n)))
 |_=>none
open Classical in
noncomputable def gz(esz:Nat):Option (List I)→Option I
 |some es=>if (es.all fun e=>e.size==esz)=true∧I.b7 es=true then some (.slice esz es) else none
 |none=>none
open Classical in
noncomputable def pO(A:ab)(d:Option Nat)(e esz bytes n l T sz':Nat)(es:List I)(rest:List aC):I→cj
 | .slice sz ys=>if wy e esz bytes l sz ys T sz' es then aA rest ((A.aN n (.bM e esz (es++ys))).aP d (.own n (es.length+ys.length))) else .fail
 |_=>.fail
open Classical in
noncomputable def uI(A:ab)(d:Option Nat)(e esz bytes:Nat)(z:I)(n l T:Nat)(xs:List Int)(rest:List aC):I→cj
 | .slice _ ys=>if wz e esz bytes l ys T xs z then aA rest ((A.aN n (.dL e (xs++qo ys))).aP d (.own n (xs.length+ys.length))) else .fail
 |_=>.fail
noncomputable def pN(A:ab)(d:Option Nat)(e esz bytes:Nat)(z:I)(n l:Nat)(x:I)(rest:List aC):Option ai→cj
 |some (.bM T sz' es)=>pO A d e esz bytes n l T sz' es rest x
 |some (.dL T xs)=>uI A d e esz bytes z n l T xs rest x
 |_=>.fail
noncomputable def fi(A:ab)(d:Option Nat)(e esz bytes:Nat)(z x:I)(rest:List aC):I→cj
 | .own n l=>pN A d e esz bytes z n l x rest (A.o n)
 |s=>ed A d esz bytes z s (cT A esz s) (cT A esz x) (aA rest)
section
variable (d:Option Nat) (rest:List aC) (A:ab)
noncomputable def oW(neg:Bool)(x:I):Bool→cj
 |true=>.any (fun m=>m<2) (fun m=>aA rest (A.aP d (.bool (m==0))))
 |false=>cv (oV neg x) (cK d rest A)
theorem Z8(neg:Bool)(x:aF):bq A d (.nilS neg x) rest=oW d rest A neg (af A x) (jv (af A x)):=by
 simp only[bq,aY,aZ];cases jv (af A x)
 ·simp only[zz4,if_false,oW,oV];cases af A x <;>rfl
 ·rfl
theorem Z0(x:aF):bq A d (.lenT x) rest=cv (mC (af A x)) (cK d rest A):=by
 simp only[bq,aY,aZ];cases af A x <;>rfl
theorem aad(esz:Nat)(x:aF)(lo hi mx:Option aF):bq A d (.sl esz x lo hi mx) rest=cv (gH A esz (lo.map (af A)) (hi.map (af A)) (mx.map (af A)) (af A x)) (cK d rest A):=by
 simp only[bq,aY,aZ];cases af A x <;>try rfl
 rename_i n p sz l0 k;simp only[gH,j0,fH];cases dv p (A.o n) with
 |none=>rfl
 |some c=>cases c <;>simp only[eG,I.c7,lY] <;>(first | rfl | (split <;>rfl))
theorem ZK(T esz:Nat)(ps:List aF):bq A d (.bs T esz ps) rest=cv (gz esz (bL false A (ps.map (af A)))) (cK d rest A):=by
 simp only[bq,aY,aZ];cases bL false A (ps.map (af A)) <;>simp only[gz] <;>rfl
theorem ZF(e esz bytes:Nat)(z:I)(s x:aF):bq A d (.du e esz bytes z s x) rest=fi A d e esz bytes z (af A x) rest (af A s):=by
 simp only[bq,aY];generalize af A s=s';generalize af A x=x';cases s' <;>simp only[fi]
 rename_i n l;cases x' <;>simp only <;>generalize A.o n=z <;>(cases z with
  |none=>rfl
  |some y=>cases y <;>simp only[pN,pO,uI])
end
theorem Dd :
  (∀ d rest A neg x,bq A d (.nilS neg x) rest=oW d rest A neg (af A x) (jv (af A x)))∧(∀ d rest A neg x,oW d rest A neg x false=cv (oV neg x) (cK d rest A))∧(∀ z,jv (.nils z)=false)∧(∀ n p sz lo k,jv (.view n p sz lo k)=false)∧(∀ d rest A x,bq A d (.lenT x) rest=cv (mC (af A x)) (cK d rest A)) ∧
  (∀ d rest A esz x lo hi mx,bq A d (.sl esz x lo hi mx) rest=cv (gH A esz (lo.map (af A)) (hi.map (af A)) (mx.map (af A)) (af A x)) (cK d rest A)) ∧
  (∀ d rest A T esz ps,bq A d (.bs T esz ps) rest=cv (gz esz (bL false A (ps.map (af A)))) (cK d rest A))∧(∀ d rest A e esz bytes z s x,bq A d (.du e esz bytes z s x) rest=fi A d e esz bytes z (af A x) rest (af A s)) ∧
  (∀ A d e esz bytes z x rest n l,fi A d e esz bytes z x rest (.own n l)=pN A d e esz bytes z n l x rest (A.o n))∧(∀ A d e esz bytes z n l x rest T sz es,pN A d e esz bytes z n l x rest (some (.bM T sz es))=pO A d e esz bytes n l T sz es rest x)∧(∀ A d e esz bytes z n l x rest T xs,pN A d e esz bytes z n l x rest (some (.dL T xs))=uI A d e esz bytes z n l T xs rest x) ∧
  (∀ neg z,oV neg (.nils z)=some (.bool (!neg))) :=
 ⟨Z8,fun _ _ _ _ _=>rfl,fun _=>rfl,fun _ _ _ _ _=>rfl,Z0,aad,ZK,ZF,fun _ _ _ _ _ _ _ _ _ _=>rfl,fun _ _ _ _ _ _ _ _ _ _ _ _ _=>rfl,fun _ _ _ _ _ _ _ _ _ _ _ _=>rfl,fun _ _=>rfl⟩
theorem C8(p:Nat→Bool)(xs ys:List I):I.cB p (xs++ys)=(I.cB p xs&&I.cB p ys):=by
 induction xs with
 |nil=>simp[I.cB]
 |cons x xs ih=>simp[I.cB,ih,Bool.and_assoc]
section
variable {α:Type} [Enc α]
theorem yw{A:ab}{d:Option Nat}(e:Nat)(esz bytes n:Nat){l:Nat}{es ys:List α}{rest:List aC}(hl:l=es.length)(hs:Enc.sz α=esz)(hy:ys≠[])(h1:es.length+ys.length≤maxLen)(h2:(es.length+ys.length)*bytes≤140737488355328) :
  pO A d e esz bytes n l e esz (es.map enc) rest (enc ys)=aA rest ((A.aN n (.bM e esz ((es++ys).map enc))).aP d (.own n (es++ys).length)):=by
 simp only[gO,pO];rw[if_pos ⟨by simpa using hl,hs,rfl,rfl,by simpa using hy,by simpa using h1,by simpa using h2⟩];simp
theorem yL(esz:Nat){ys:List α}(hs:Enc.sz α=esz):gz esz (some (ys.map enc))=some (enc ys):=by
 have h1:((ys.map enc).all fun e:I=>e.size==esz)=true:=by
  simp only[zx3,zx1];rintro x ⟨y,_,rfl⟩;simp[Enc.size,hs]
 simp only[gz,gO];rw[if_pos ⟨h1,mq ys⟩,hs]
theorem ot(esz:Nat)(y:α)(hs:Enc.sz α=esz):gz esz (some [enc y])=some (enc [y]):=yL (ys:=[y]) esz hs
theorem p9(sz:Nat){T k:Nat}{es:List α}(hk:k=es.length)(hs:Enc.sz α=sz):kF k (some (.bM T sz (es.map enc)))=some (enc es):=by
 simp only[kF,zz2];rw[if_pos ⟨hk,mq es⟩,gO,hs]
theorem eR(p:Nat→Bool)(l:List α):I.cB p (l.map enc)=true:=by
 induction l with
 |nil=>rfl
 |cons x l ih=>simp only[zz7,I.cB,bt,ih,Bool.and_self]
end
theorem B8 :
  (∀ n:Int,gz 1 (some [.int .i64 n])=some (enc [n]))∧(∀ (T:Nat) (es:List Int),kF es.length (some (.bM T 1 (es.map enc)))=some (enc es)) :=
 ⟨fun n=>ot 1 n rfl,fun _ _=>p9 1 rfl rfl⟩
theorem bn.Hn{A:ab}{d n T sz z:Nat}(hd:A.t d=.nils z)(hn:A.o n=none)(hlt:n<1000000):bn A ((A.aN n (.bM T sz [])).put d (.own n 0)):=by
 rintro c a w ⟨D,E,h⟩;have az:E n=none:=by have:=h.bx n;rw[hn] at this;exact this
 have hl:da w D E w D (fun m=>if m=n then some (.rw none 0) else E m):=by
  have eI:∀ {m:Nat} {e:bD},E m=some e→(if m=n then some (.rw none 0) else E m)=some e:=fun {m e} he=>by
   have:m≠n:=fun e=>by rw[e,az] at he;cases he
   rw[if_neg this];exact he
  refine ⟨fun _ _ h=>h,fun _ _ _ _ h=>h,fun m b aL he=>eI he,fun m aH l he =>?_,fun m b he=>eI he,fun m b he=>eI he,fun _ _ _ _ h=>h⟩
  ·have:m≠n:=fun e=>by rw[e,az] at he;cases he
   exact ⟨aH,l,by simp only[if_neg this];exact he,zz8 _,fun _=>rfl⟩
 refine ⟨D,fun m=>if m=n then some (.rw none 0) else E m,h.sz,h.ef,fun t =>?_,h.c8,h.cO,h.cQ,fun m =>?_,fun m m' e e' b h1 h2 h3 h4 =>?_,fun m e hm =>?_,h.eO,h.cE,h.fh,h.fm⟩
 ·simp only[ab.put,ab.aN];by_cases ht:t=d
  ·subst ht;simp only[if_true];have hv:=h.dn t;rw[hd] at hv;obtain ⟨cs,q1,q2⟩:=hv;simp only[ae] at q2;subst q2;refine ⟨[.slice none 0 0],by simpa[bd,I.isAgg] using q1,?_⟩;simp only[ae,if_true];exact ⟨none,0,rfl,zz8 _,⟨_,_,_,rfl⟩,fun _=>trivial⟩
  ·simp only[if_neg ht];exact aQ.later hl (h.dn t)
 ·simp only[ab.put,ab.aN];by_cases hm:m=n
  ·subst hm;simp only[if_true,cY];exact ⟨none,by simp,by simp,trivial⟩
  ·simp only[if_neg hm];exact (h.bx m).later hl (by simp only[if_neg hm]) fun _ _ _ _=>⟨rfl,fun _ ho=>ho⟩
 ·by_cases hm:m=n <;>by_cases hm':m'=n
  ·rw[hm,hm']
  ·simp only[if_pos hm,v6] at h1;subst h1;simp[bD.aH] at h3
  ·simp only[if_pos hm',v6] at h2;subst h2;simp[bD.aH] at h4
  ·simp only[if_neg hm] at h1;simp only[if_neg hm'] at h2;exact h.cG m m' e e' b h1 h2 h3 h4
 ·have hmn:m≠n:=fun e=>by rw[e,h.jf (.inr hlt)] at hm;cases hm
  simp only[if_neg hmn];exact h.df m e hm
theorem bn.Hq{ts:List (Nat×I)}{os:List (Nat×ai)}(d n T sz z:Nat)(hd:cw ts d=.nils z)(hn:aG os n=none){B:ab}(h:bn (al ((d,.own n 0)::ts) ((n,.bM T sz [])::os)) B)(hlt:n<1000000:=by decide):bn (al ts os) B :=
 ((bn.Hn (A:=al ts os) (T:=T) (sz:=sz) hd hn hlt).trans (by rw[s8,wg];exact bn.refl _)).trans h
def ew.g{n:Nat}(x:ew n Int)(k:Nat):Int:=x.l.getD k 0
theorem ew.vJ{n k:Nat}(x:ew n Int)(h:k<n):x.l[k]'(x.lt h)=x.g k:=by simp[ew.g,x.lt h]
theorem ku{n k:Nat}{p:List Nat}(x:ew n Int)(h:k<n):jA k p (some (x.l.map enc))=(I.int .i64 (x.g k)).at p:=by
 rw[HO h,x.vJ h];rfl
theorem BN{n k:Nat}(x:ew n Int)(h:k<n):(x.l.map (enc (α:=Int)))[k]?=some (I.int .i64 (x.g k)):=by
 rw[XS x h,x.vJ h];rfl
theorem C1:(∀ k n,bT none (.int k n)=true)∧(∀ b,bT none (.bool b)=true)∧(∀ z es,bT none (.slice z es)=true)∧(∀ f es,bT none (.func f es)=true)∧(∀ z,bT none (.nils z)=true)∧(∀ n k,bT none (.own n k)=true) :=
 ⟨fun _ _=>rfl,fun _=>rfl,fun _ _=>rfl,fun _ _=>rfl,fun _=>rfl,fun _ _=>rfl⟩
theorem aU:(type_of% @yn)∧(type_of% @Dc)∧(type_of% @Dd)∧(type_of% @B8)∧(type_of% @C1)∧(type_of% @F5)∧(type_of% @A5)∧(type_of% @yH)∧(∀ n:Int,(enc n:I)=.int .i64 n)∧(∀ n:Bool,(enc n:I)=.bool n) ∧
  (∀ {α β:Type} (f:α→β) (x:α) (xs:List α),List.map f (x::xs)=f x::List.map f xs)∧(∀ {α β:Type} (f:α→β),List.map f []=[])∧(∀ {α:Type} (xs:List α),[]++xs=xs)∧(∀ n:Nat,(n:Int).toNat=n)∧(∀ {α β:Type} (f:α→β) (x:α),Option.map f (some x)=some (f x)) ∧
  (∀ n:Nat,0≤(n:Int))∧((!true)=false)∧((!false)=true)∧((false=true)=False)∧((true=false)=False) :=
 ⟨@yn,@Dc,@Dd,@B8,@C1,@F5,@A5,@yH,oD,NN,fun _ _ _=>rfl,fun _=>rfl,fun _=>rfl,fun _=>rfl,fun _ _=>rfl,fun n=>Int.natCast_nonneg n,rfl,rfl,by simp,by simp⟩
end Go.Abs
namespace Go.Abs
open Go Go.RowKit
open Enc (enc)
theorem iH.bJ{P:Program}{f:FuncId}{fn:Func}{x:bh}{rs:List bp}{Y:Value→List I→List (Nat×ai)→cd→Prop}{args:List I}{os:List (Nat×ai)}{post:cd}(hf:P.funcs[f]?=some fn)(hcall:dH P f=true)(hc:(fn.body.bind (dG P fn.ntmps))=some x)
  (hrs:gj P fn.results.toList=some rs) (hn:args.length≤fn.ntmps) (hn2:fn.ntmps≤1000000) (hos:∀ m,aw os m=true→1000000≤m) (h:I.gJ args→∀ (w:World) (D:aJ) (E:aO),U ⟨P,w,D,fn.ntmps,bU E,E,Y,none,none⟩ x (nK rs post) (al (bA 0 args) os)):iH P f Y args os post:=by
 obtain ⟨body,hb,hc'⟩:=zw4.1 hc;refine ⟨hcall,fun w D E vs hy hD ho hv =>?_⟩;exact (iH.tm hf hb hcall hc' hrs hn (fun m hm=>⟨Nat.le_trans hn2 (hos m hm),hos m hm⟩) (fun w D E=>(h (pk _ _ hv) w D E).sub (ud args os))).2 w D E vs hy hD ho hv
theorem eU.bJ{P:Program}{f:FuncId}{fn:Func}{x:bh}{rs:List bp}{args:List I}{os:List (Nat×ai)}{post:cd}(hf:P.funcs[f]?=some fn)(hcall:dH P f=true)(hc:(fn.body.bind (dG P fn.ntmps))=some x)
  (hrs:gj P fn.results.toList=some rs) (hn:args.length≤fn.ntmps) (hn2:fn.ntmps≤1000000) (hos:∀ m,aw os m=true→1000000≤m) (h:I.gJ args→∀ (w:World) (D:aJ) (E:aO),U ⟨P,w,D,fn.ntmps,bU E,E,e8,none,none⟩ x (nK rs post) (al (bA 0 args) os)):eU P f args os post :=
 eU.CQ (iH.bJ hf hcall hc hrs hn hn2 hos h)
theorem vP{A:ab} : ∀ n x,aG [] n=some x→A.o n=some x∧x.only (aw [])=true∧x.dO=true:=fun n x h=>by simp[aG] at h
theorem mz{A:ab}{k:Nat}{c:I}(h1:A.o k=some (.box c))(h2:∀ p,c.only p=true):∀ n x,aG [(k,.box c)] n=some x→A.o n=some x∧x.only (aw [(k,.box c)])=true∧x.dO=true:=fun n x h=>by
 simp only[aG] at h;split at h
 ·rename_i hn;subst hn;simp only[v6] at h;subst h;exact ⟨h1,h2 _,rfl⟩
 ·cases h
theorem dj.nil{aE:Bool}{ρ:List (Nat×Nat)}{os0:List (Nat×ai)}{r:I}(h1:∀ p,r.only p=true)(h2:aE=true→r.cX=true):dj aE ρ [] os0 r [] :=
 ⟨fun m x h=>by simp[aG] at h,fun m m' h=>by simp[aw,aG] at h,fun m h=>by simp[aw,aG] at h,fun m h=>by simp[aw,aG] at h,h1 _,h2⟩
theorem fL{k:Nat}{x:ai}{m:Nat} : aw [(k,x)] m=true↔m=k:=by
 simp only[aw,aG];split <;>simp_all
theorem dj.th{aE:Bool}{k d:Nat}{os0:List (Nat×ai)}{r c:I}(h1:∀ p,c.only p=true)(h2:aE=true→c.cX=true)(h3:r.only (aw [(k,.box c)])=true)(h4:aE=true→r.cX=true)(h5:aG os0 d=none)(h6:d<1000000):dj aE [(k,d)] [] os0 r [(k,.box c)]:=by
 refine ⟨fun m x h =>?_,fun m m' h h' _ =>?_,fun m h=>by simp[aw,aG] at h,fun m h _ =>?_,h3,h4⟩
 ·simp only[aG] at h;split at h
  ·simp only[v6] at h;subst h;exact ⟨h1 _,rfl,h2⟩
  ·cases h
 ·rw[fL.1 h,fL.1 h']
 ·rw[fL.1 h];simp[bo,h5,h6]
theorem eF.nil{ρ:List (Nat×Nat)}{os0:List (Nat×ai)} : eF ρ [] os0:=⟨fun m x h=>by simp[aG] at h,fun m m' h=>by simp[aw,aG] at h⟩
mutual
theorem qR(ρ:Nat→Nat):∀ x:I,x.bw=true→x.aR ρ=x
 | .agg fs,h=>by simp only[I.aR,I.bw] at *;rw[nJ ρ fs h]
 | .slice _ es,h=>by simp only[I.aR,I.bw] at *;rw[nJ ρ es h]
 | .ref x,h=>by simp only[I.aR,I.bw] at *;rw[qR ρ x h]
 | .func _ caps,h=>by simp only[I.aR,I.bw] at *;rw[nJ ρ caps h]
 | .iface _ v,h=>by simp only[I.aR,I.bw] at *;rw[qR ρ v h]
 | .bool _,_ | .int _ _,_ | .ay _,_ | .nilp,_ | .cZ,_ | .cR,_ | .any,_ | .raw _,_ | .nils _,_ | .c0 _,_=>by simp only[I.aR]
 | .cu ks vs,h=>by simp only[I.aR,I.bw,zz0] at *;rw[nJ ρ ks h.1,nJ ρ vs h.2]
 | .ptr _ _,h | .own _ _,h | .view _ _ _ _ _,h | .mref _,h | .cU _,h | .undef,h | .cV,h | .tuple _,h=>by simp[I.bw] at h
theorem nJ(ρ:Nat→Nat):∀ xs:List I,I.b7 xs=true→I.cP ρ xs=xs
 | [],_=>rfl
 |x::xs,h=>by
  simp only[I.b7,zz0] at h;simp only[I.cP,qR ρ x h.1,nJ ρ xs h.2]
end
theorem kg :
  (∀ (k:IntKind) n (ρ:Nat→Nat),(I.int k n).aR ρ=.int k n)∧(∀ (b:Bool) (ρ:Nat→Nat),(I.bool b).aR ρ=.bool b)∧(∀ n p (ρ:Nat→Nat),(I.ptr n p).aR ρ=.ptr (ρ n) p) ∧
  (∀ n p sz lo k (ρ:Nat→Nat),(I.view n p sz lo k).aR ρ=.view (ρ n) p sz lo k)∧(∀ fs (ρ:Nat→Nat),(I.agg fs).aR ρ=.agg (I.cP ρ fs))∧(∀ fs (ρ:Nat→Nat),(I.tuple fs).aR ρ=.tuple (I.cP ρ fs))∧(∀ f fs (ρ:Nat→Nat),(I.func f fs).aR ρ=.func f (I.cP ρ fs)) ∧
  (∀ ρ:Nat→Nat,I.cP ρ []=[])∧(∀ (ρ:Nat→Nat) x xs,I.cP ρ (x::xs)=x.aR ρ::I.cP ρ xs)∧(∀ (ρ:Nat→Nat) (x:I),(ai.box x).aR ρ=.box (x.aR ρ)) ∧
  (∀ (z:Nat) (ρ:Nat→Nat),(I.nils z).aR ρ=.nils z)∧(∀ (z:Nat) (ρ:Nat→Nat),(I.c0 z).aR ρ=.c0 z) ∧
  (∀ n,bo [] n=n)∧(∀ a b r n,bo ((a,b)::r) n=if n=a then b else bo r n)∧(∀ ρ,cD ρ []=[])∧(∀ ρ k x os,cD ρ ((k,x)::os)=(bo ρ k,x.aR (bo ρ))::cD ρ os) :=
 ⟨fun _ _ _=>by simp only[I.aR],fun _ _=>by simp only[I.aR],fun _ _ _=>by simp only[I.aR],fun _ _ _ _ _ _=>by simp only[I.aR],fun _ _=>by simp only[I.aR],fun _ _=>by simp only[I.aR],fun _ _ _=>by simp only[I.aR],
  fun _=>rfl,fun _ _ _=>by simp only[I.cP],fun _ _=>rfl,fun _ _=>by simp only[I.aR],fun _ _=>by simp only[I.aR],fun _=>rfl,fun _ _ _ _=>rfl,fun _=>rfl,fun _ _ _ _=>rfl⟩
section
variable {α:Type} [Enc α]
theorem gP(ρ:Nat→Nat)(x:α):(enc x).aR ρ=enc x:=qR ρ _ (gN x)
theorem jM(ρ:Nat→Nat)(l:List α):I.cP ρ (l.map enc)=l.map enc:=nJ ρ _ (mq l)
theorem kV(A:ab)(esz:Nat)(l:List α)(hs:Enc.sz α=esz):cT A esz (enc l)=some (l.map enc):=by
 simp only[gO,cT,hs,if_true]
theorem uf(l:List α):jv (enc l)=l.isEmpty:=by
 simp only[gO,jv];cases l <;>rfl
theorem CL(neg:Bool)(l:List α)(h:l≠[]):oV neg (enc l)=some (.bool neg):=by
 simp only[gO,oV];cases l with
 |nil=>exact absurd rfl h
 |cons=>rfl
section
variable {P:Program} {Y:Value→List I→List (Nat×ai)→cd→Prop} {K:ab→Prop} {A:ab} {rest:List aC} {d:Nat} {e esz bytes:Nat} {q:Nat}
theorem ba.uJ(z:α){l:List α}(hs:Enc.sz α=esz)(hl:l≠[])(hf:A.o d=none)(hb:l.length*bytes≤140737488355328)(hml:l.length≤maxLen)
  (h:∀ m,ba P Y false K (aA rest ((A.aN d (.box (.agg ((l++List.replicate m z).map enc)))).aP (some d) (.view d [] esz 0 l.length)))):ba P Y false K (fi A (some d) e esz bytes (enc z) (enc l) rest (.c0 q)):=by
 have hne:l.map (enc (α:=α))≠[]:=by simpa using hl
 have h1:cT A esz (.c0 q)=some []:=rfl;simp only[fi,h1,kV A esz l hs,ed,if_neg hne,fq,hf,zx9,zz3,zz2,if_pos (y6 hb hml),zy4];refine .any rfl fun m _ =>?_;have:=h m;simp only[zx4,List.map_replicate] at this;exact this
theorem HF(z:I)(hs:Enc.sz α=esz):fi A (some d) e esz bytes z (enc ([]:List α)) rest (.c0 q)=aA rest (A.aP (some d) (.c0 q)):=by
 have h1:cT A esz (.c0 q)=some []:=rfl;simp only[fi,h1,kV A esz ([]:List α) hs,ed,zy9,if_true]
theorem ZO(esz:Nat)(z:I)(x:aF)(rest:List aC)(A:ab):bq A none (.jc esz z x) rest=mr A esz z (aA rest) (af A x):=rfl
theorem abT(z:α)(k:Nat):I.cI (List.replicate k (enc z))=List.replicate k (Enc.aL α):=by
 have:List.replicate k (enc z)=(List.replicate k z).map (enc (α:=α)):=by simp
 rw[this,rj];simp
theorem Ll(z:α){n lo k:Nat}{xs:List α}(ho:A.o n=some (.box (.agg (xs.map enc))))(hk:lo+k≤xs.length) :
  mr A esz (enc z) (aA rest) (.view n [] esz lo k)=aA rest (A.aN n (.box (.agg ((xs.take lo++(List.replicate k z++xs.drop (lo+k))).map enc)))):=by
 have h1:I.cI (List.replicate k (enc z))=I.cI (((xs.map (enc (α:=α))).drop lo).take k):=by
  rw[abT,←List.map_drop,←List.map_take,rj,zy0,zx5]
  congr 1;omega
 have h2:(I.agg (xs.map (enc (α:=α)))).at []=some (.agg (xs.map enc)):=rfl;simp only[mr,ho,h2];rw[if_pos ⟨rfl,h1⟩];simp only[hE,ff,zx4,List.map_take,List.map_drop,List.map_replicate,List.length_replicate]
theorem xm{n:Nat}{p:List Nat}{sz k total i:Nat}(h:i≤total)(h0:0<total):iU n p sz 0 k total none (some (.int .i64 i)) none=some (.view n p sz 0 i):=by
 simp only[iU,gy];rw[if_pos ⟨by omega,by omega,by omega⟩,if_neg (by omega)];simp
theorem lZ{n:Nat}{p:List Nat}{sz k total i:Nat}(h:i≤k)(hk:k≤total)(h0:i<total):iU n p sz 0 k total (some (.int .i64 i)) none none=some (.view n p sz i (k-i)):=by
 simp only[iU,gy];rw[if_pos ⟨by omega,by omega,by omega⟩,if_neg (by omega)];simp
theorem YH{m:Nat}{p:List Nat}{sz lo l j:Nat}{fs:List I}(h:j<l):kI m p sz lo l sz (j:Int) (some fs)=some (.ptr m (p++[lo+j])):=by
 simp only[kI,true_and];rw[if_pos ⟨by omega,by omega⟩];simp
theorem nh{sz k:Nat}{xs:List α}(hs:Enc.sz α=sz):jD sz 0 k (some (xs.map enc))=some (enc (xs.take k)):=by
 have h:((xs.map (enc (α:=α))).drop 0).take k=(xs.take k).map enc:=by rw[List.drop_zero,List.map_take]
 simp only[jD,h];rw[if_pos (mq _),gO,hs]
end
end
theorem lG(A:ab)(esz m:Nat)(p:List Nat)(sz lo l:Nat)(k:Int):ji A esz k (.view m p sz lo l)=kI m p sz lo l esz k (eG (dv p (A.o m))):=rfl
theorem qy(A:ab)(m:Nat)(p:List Nat)(sz lo l:Nat):j6 A (.view m p sz lo l)=some (.int .i64 l):=rfl
theorem xj(A:ab)(esz:Nat)(lo hi mx:Option I)(n:Nat)(p:List Nat)(l0 k:Nat):gH A esz lo hi mx (.view n p esz l0 k)=lY n p esz l0 k esz lo hi mx (eG (dv p (A.o n))):=rfl
theorem xk(n:Nat)(p:List Nat)(sz l0 k:Nat)(lo hi mx:Option I)(fs:List I):lY n p sz l0 k sz lo hi mx (some fs)=iU n p sz l0 k fs.length lo hi mx:=by simp[lY]
theorem fo :
  (∀ A esz m p sz lo l k,ji A esz k (.view m p sz lo l)=kI m p sz lo l esz k (eG (dv p (A.o m))))∧(∀ A m p sz lo l,j6 A (.view m p sz lo l)=some (.int .i64 l)) ∧
  (∀ A esz lo hi mx n p l0 k,gH A esz lo hi mx (.view n p esz l0 k)=lY n p esz l0 k esz lo hi mx (eG (dv p (A.o n))))∧(∀ n p sz l0 k lo hi mx fs,lY n p sz l0 k sz lo hi mx (some fs)=iU n p sz l0 k fs.length lo hi mx) ∧
  (∀ esz z x rest A,bq A none (.jc esz z x) rest=mr A esz z (aA rest) (af A x))∧(∀ rest A d esz,bq A d (.bs0 esz) rest=aA rest (A.aP d (.c0 esz))) :=
 ⟨lG,qy,xj,xk,ZO,fun _ _ _ _=>rfl⟩
theorem iR(rs:List bp)(post:cd)(A:ab):nK rs post .ret A=iZ rs post A:=rfl
theorem E8(rs:List bp)(post:cd)(A:ab):nK rs post .normal A=iZ rs post A:=rfl
theorem bn.j4{ts:List (Nat×I)}{os0:List (Nat×ai)}(ns:List Nat)(d:Nat){x y:I}(hd:cw ts d=x)(h:bf true (al ts (jj ns os0)) x=some y)(ho:bF (fun n => !ns.contains n) (dw ns os0)) :
  bn (al ts os0) (al ((d,y)::il ns ts) (dw ns os0)):=by
 rintro c a w ⟨D,E,hs⟩;obtain ⟨D1,E1,hs1,hw⟩:=hs.freeze ns ho;have hu:dq (al ts (jj ns os0)) (al ts os0):=fun n z hz=>by
  simp only[al,qD] at hz ⊢;split at hz
  ·exact hz
  ·cases hz
 have hx:x.cn=true:=by cases x <;>first | rfl | simp[bf] at h
 have hv:=hs.dn d;simp only[al] at hv;rw[hd] at hv;have h1:aB w D E [x] [a.tmps.getD d undef]:=kU [x] _ (.cons hv .nil) (by intro z hz;simp only[List.mem_singleton] at hz;subst hz;exact hx);have h2:=lA (E':=E1) hs hu hw [x] [y] _ h1 (by simp only[bL,h]);have h3:aQ w D1 E1 y (a.tmps.getD d undef):=by
  simp only[aB] at h2;obtain ⟨v',rest,cs,e,k1,k2,_⟩:=h2;simp only[zy6] at e;obtain ⟨e1,_⟩:=e;rw[e1];exact fD k1 k2
 refine ⟨D1,E1,hs1.sz,hs1.ef,fun t =>?_,hs1.c8,hs1.cO,hs1.cQ,hs1.bx,hs1.cG,hs1.df,hs1.eO,hs1.cE,hs1.fh,hs1.fm⟩;simp only[al,cw];split
 ·rename_i ht;subst ht;exact h3
 ·exact hs1.dn t
theorem bn.nj{ts ts':List (Nat×I)}{os0 os':List (Nat×ai)}(ns:List Nat)(d:Nat){x y:I}(hd:cw ts d=x)(h:bf true (al ts (jj ns os0)) x=some y)(ho:bF (fun n => !ns.contains n) (dw ns os0))
  (h1:bK ((d,y)::il ns ts) ts') (h2:bP (dw ns os0) os') (h3:bO (aw os') ts') (h4:bF (aw os') os'):bn (al ts os0) (al ts' os') :=
 (bn.j4 ns d hd h ho).trans (bn.bZ h1 h2 h3 h4)
theorem U.xJ{c:ct}{Q:Exit→ab→Prop}{A:ab}{x:bh}(T:ab)(h1:U c x (cg (fun B=>bn B T) fun _ _=>False) A)(h2:∀ B,bn B T→Q .normal B):U c x Q A :=
 h1.mono fun e B hq=>by
  cases e <;>simp only[cg] at hq <;>first
   |exact h2 B hq
   |exact hq.elim
theorem aa4{w:World}{D:aJ}{E:aO}{p:List Nat}{c x y:I}{cs:List Value}(hr:ae w D E c cs)(h:c.at p=some x)(hxy:∀ ds,ae w D E x ds→ae w D E y ds)(hs:y.aL=x.aL):ae w D E (c.dm p y) cs∧(c.dm p y).aL=c.aL:=by
 obtain ⟨off,c1,c2,c3,h1,rfl,h2,h3⟩:=wR p c x cs hr h;obtain ⟨off',k1,k2,k3,k4⟩:=tI p c x y _ c2 hr h (hxy c2 h3) hs;rw[h1,v6] at k1;subst k1;refine ⟨?_,k4⟩;have e:(c1++c2++c3).take off++c2++(c1++c2++c3).drop (off+c2.length)=c1++c2++c3:=by
  rw[zy3 c1 c2 c3,←h2,List.take_left,List.drop_length_add_append,List.drop_left,zy3]
 rw[←e];exact k3
theorem bn.Ho{A:ab}{m n T sz z:Nat}{p:List Nat}{b:I}(hm:A.o m=some (.box b))(hp:b.at p=some (.nils z))(hn:A.o n=none)(hlt:n<1000000):bn A ((A.aN n (.bM T sz [])).aN m (.box (b.dm p (.own n 0)))):=by
 rintro c a w ⟨D,E,h⟩;have az:E n=none:=by have:=h.bx n;rw[hn] at this;exact this
 have hmn:m≠n:=fun e=>by rw[e,hn] at hm;cases hm
 have hl:da w D E w D (fun m=>if m=n then some (.rw none 0) else E m):=by
  have eI:∀ {m:Nat} {e:bD},E m=some e→(if m=n then some (.rw none 0) else E m)=some e:=fun {m e} he=>by
   have:m≠n:=fun e=>by rw[e,az] at he;cases he
   rw[if_neg this];exact he
  refine ⟨fun _ _ h=>h,fun _ _ _ _ h=>h,fun m b aL he=>eI he,fun m aH l he =>?_,fun m b he=>eI he,fun m b he=>eI he,fun _ _ _ _ h=>h⟩
  ·have:m≠n:=fun e=>by rw[e,az] at he;cases he
   exact ⟨aH,l,by simp only[if_neg this];exact he,zz8 _,fun _=>rfl⟩
 refine ⟨D,fun m=>if m=n then some (.rw none 0) else E m,h.sz,h.ef,fun t=>aQ.later hl (h.dn t),h.c8,h.cO,h.cQ,fun k =>?_,fun m m' e e' b h1 h2 h3 h4 =>?_,fun m e hm =>?_,h.eO,h.cE,h.fh,h.fm⟩
 ·simp only[ab.aN];by_cases hk:k=m
  ·subst hk;have ho:=h.bx k;rw[hm] at ho;obtain ⟨b',cs,T',h1,h2,h3,h4,h5⟩:=ho;obtain ⟨q1,q2⟩:=aa4 (y:=.own n 0) (ae.later hl _ _ h4) hp (fun ds hd=>by
    simp only[ae] at hd;subst hd;simp only[ae,if_true];exact ⟨none,0,rfl,zz8 _,⟨_,_,_,rfl⟩,fun _=>trivial⟩) rfl
   simp only[if_true,cY];exact ⟨b',cs,T',by rw[q2];simp only[if_neg hmn];exact h1,h2,h3.aL q2,q1,h5⟩
  ·simp only[if_neg hk];by_cases hkn:k=n
   ·subst hkn;simp only[if_true,cY];exact ⟨none,by simp,by simp,trivial⟩
   ·simp only[if_neg hkn];exact (h.bx k).later hl (by simp only[if_neg hkn]) fun _ _ _ _=>⟨rfl,fun _ ho=>ho⟩
 ·by_cases hm:m=n <;>by_cases hm':m'=n
  ·rw[hm,hm']
  ·simp only[if_pos hm,v6] at h1;subst h1;simp[bD.aH] at h3
  ·simp only[if_pos hm',v6] at h2;subst h2;simp[bD.aH] at h4
  ·simp only[if_neg hm] at h1;simp only[if_neg hm'] at h2;exact h.cG m m' e e' b h1 h2 h3 h4
 ·have hmn:m≠n:=fun e=>by rw[e,h.jf (.inr hlt)] at hm;cases hm
  simp only[if_neg hmn];exact h.df m e hm
theorem bn.Hp{ts:List (Nat×I)}{os:List (Nat×ai)}(m n T sz z:Nat)(p:List Nat)(b:I)(hm:aG os m=some (.box b))(hp:b.at p=some (.nils z))(hn:aG os n=none){B:ab}(h:bn (al ts ((m,.box (b.dm p (.own n 0)))::(n,.bM T sz [])::os)) B)(hlt:n<1000000:=by decide):bn (al ts os) B :=
 ((bn.Ho (A:=al ts os) (T:=T) (sz:=sz) hm hp hn hlt).trans (by rw[s8,s8];exact bn.refl _)).trans h
mutual
theorem jn{p q:Nat→Bool}(h:∀ n,p n=true→q n=true):∀ x:I,x.only p=true→x.only q=true
 | .agg fs,hx | .tuple fs,hx=>by simp only[I.only] at *;exact ka h fs hx
 | .slice _ es,hx=>by simp only[I.only] at *;exact ka h es hx
 | .ref x,hx=>by simp only[I.only] at *;exact jn h x hx
 | .func _ caps,hx=>by simp only[I.only] at *;exact ka h caps hx
 | .iface _ v,hx=>by simp only[I.only] at *;exact jn h v hx
 | .ptr _ _,hx | .own _ _,hx | .view _ _ _ _ _,hx | .mref _,hx | .cU _,hx=>by simp only[I.only] at *;exact h _ hx
 | .cu ks vs,hx=>by simp only[I.only,zz0] at *;exact ⟨ka h ks hx.1,ka h vs hx.2⟩
 | .bool _,_ | .int _ _,_ | .ay _,_ | .nilp,_ | .cZ,_ | .cR,_ | .any,_ | .raw _,_ | .nils _,_ | .c0 _,_ | .undef,_ | .cV,_=>by simp[I.only]
theorem ka{p q:Nat→Bool}(h:∀ n,p n=true→q n=true):∀ xs:List I,I.cB p xs=true→I.cB q xs=true
 | [],_=>rfl
 |x::xs,hx=>by
  simp only[I.cB,zz0] at *;exact ⟨jn h x hx.1,ka h xs hx.2⟩
end
theorem ai.jn{p q:Nat→Bool}(h:∀ n,p n=true→q n=true)(x:ai)(hx:x.only p=true):x.only q=true:=by
 cases x with
 |box y=>simp only[ai.only] at *;exact Abs.jn h y hx
 |bM T sz es=>simp only[ai.only] at *;exact ka h es hx
 |cz o=>rfl
 |dL T xs=>rfl
 |b8 ks vs=>simp only[ai.only,zz0] at *;exact ⟨ka h ks hx.1,ka h vs hx.2⟩
 |it ks vs left cur=>simp only[ai.only,zz0] at *;exact ⟨ka h ks hx.1,ka h vs hx.2⟩
theorem qu{x:I}(h:x.bw=true):x.cn=true:=by
 cases x <;>first | rfl | simp[I.bw] at h
theorem uL{aE:Bool}{A0:ab}{ρ:List (Nat×Nat)}{os:List (Nat×ai)} : ∀ xs:List I,I.b7 xs=true→gi aE A0 ρ os xs xs
 | [],_=>trivial
 |x::xs,h=>by
  simp only[I.b7,zz0] at h;exact ⟨.inl ⟨(qR _ x h.1).symm,mL _ x h.1,qu h.1⟩,uL xs h.2⟩
structure dM (os os':List (Nat×ai)):Prop where
 same:∀ m,aw os' m=aw os m
 ok:∀ m x,aG os' m=some x→x.only (aw os')=true∧x.dO=true
 j5:∀ m,aw os m=true→1000000≤m
def yh(P:Program)(g:FuncId)(caps:List I)(N:Nat)(item:Nat→List I):Prop :=
 ∀ (Y:Value→List I→List (Nat×ai)→cd→Prop) (v:Value) (aW:Nat→List (Nat×ai)→Prop) (Ix:List (Nat×ai)→Prop) (os:List (Nat×ai)),v.oneCell'=true →
  (∀ k os' post,k<N→aW k os'→(∀ r os2,(r=.bool true∧aW (k+1) os2)∨(r=.bool false∧Ix os2)→post r os2)→Y v (item k) os' post) →
  (∀ k os',aW k os'→dM os os')→(∀ os',Ix os'→dM os os')→aW 0 os→iH P g Y (.raw v::caps) os (fun r os'=>r=.tuple []∧(aW N os'∨Ix os'))
def bE(o:Obj)(os:List (Nat×ai)):List (Nat×ai):=(1999999,.cz o)::os
theorem iq(o:Obj)(os:List (Nat×ai))(m:Nat):aw (bE o os) m=(decide (m=1999999)||aw os m):=by
 simp only[bE,aw,aG];by_cases h:m=1999999 <;>simp[h]
theorem mD(o:Obj)(os:List (Nat×ai))(m:Nat):aG (bE o os) m=if m=1999999 then some (.cz o) else aG os m:=rfl
theorem dM.bE{os os':List (Nat×ai)}(h:dM os os')(o o':Obj):dM (bE o os) (bE o' os'):=by
 refine ⟨fun m=>by rw[iq,iq,h.same],fun m x hx =>?_,fun m hm =>?_⟩
 ·rw[mD] at hx;split at hx
  ·cases hx;exact ⟨rfl,rfl⟩
  ·obtain ⟨h1,h2⟩:=h.ok m x hx;exact ⟨x.jn (fun n hn=>by rw[iq,hn];simp) h1,h2⟩
 ·rw[iq] at hm;simp only[Bool.or_eq_true,decide_eq_true_eq] at hm;rcases hm with rfl | hm
  ·decide
  ·exact h.j5 m hm
def pd:List Nat→List I→List (Nat×I)→List (Nat×I)
 |p::ps,v::vs,ts=>pd ps vs ((p,v)::ts)
 |_,_,ts=>ts
def jt(ρ:List (Nat×Nat))(p:Nat→Bool)(ts:List (Nat×I)):List (Nat×I)→Prop
 | []=>True
 |(k,v)::r=>cw ts k=v.aR (bo ρ)∧v.only p=true∧jt ρ p ts r
theorem xn{ρ:List (Nat×Nat)}{p:Nat→Bool}{ts:List (Nat×I)} : ∀ {tsR:List (Nat×I)},jt ρ p ts tsR→∀ k,cw tsR k=.cV∨(cw ts k=(cw tsR k).aR (bo ρ)∧(cw tsR k).only p=true)
 | [],_,k=>.inl rfl
 |(j,v)::r,h,k=>by
  simp only[jt] at h;simp only[cw];split
  ·rename_i hk;subst hk;exact .inr ⟨h.1,h.2.1⟩
  ·exact xn h.2.2 k
section
variable {c:ct} {a:Act} {w:World} {D:aJ} {E:aO}
theorem aM.pt{A:ab}(h:aM c A a w D E){n b:Nat}{o o':Obj}(hn:A.o n=some (.cz o))(az:E n=some (.op b))(ho:mB o'=true):aM c (A.aN n (.cz o')) a (w.putObj b o') D E:=by
 have hob:=h.bx n;rw[hn] at hob;obtain ⟨b',k1,k2,k3,k4,k5⟩:=hob;rw[az] at k1;cases k1;have hnc:o.isCells=false:=by cases o <;>first | rfl | cases k4
 have hlt:b<w.heap.size:=eY k3;have hl:da w D E (w.putObj b o') D E:=⟨fun _ _ h=>h,fun b1 o1 v _ hv=>u6 k3 hnc hv,fun _ _ _ h=>h,fun _ aH l h=>⟨aH,l,h,zz8 _,fun _=>rfl⟩,fun _ _ h=>h,fun _ _ h=>h,fun b1 es ck hd hm=>(World.putObj_heap_other (fun e1=>k5 0 (by rw[←e1];exact hd))).trans hm⟩
 refine ⟨h.sz,h.ef.mono fun B _ hB=>(World.putObj_heap_other (fun e=>by rw[e,k3] at hB;cases hB;cases k4)).trans hB,fun t=>aQ.later hl (h.dn t),h.c8.trans ⟨rfl,rfl,rfl,by simp,fun k hk=>World.putObj_heap_other (fun e=>hk (e▸k2))⟩,h.cO,
  fun b1 o1 hd=>by have:=h.cQ b1 o1 hd;simpa using this,fun m =>?_,h.cG,h.df,h.eO,h.cE,h.fh,h.kl hl⟩
 simp only[ab.aN];by_cases hm:m=n
 ·subst hm;simp only[if_true,cY];exact ⟨b,az,k2,World.putObj_heap_same hlt,ho,k5⟩
 ·simp only[if_neg hm];exact (h.bx m).later hl rfl fun e b1 he hb=>⟨World.putObj_heap_other (fun e1=>hm (h.cG m n e _ b1 he az hb (by rw[e1];rfl))),fun _ ho=>ho⟩
theorem aM.AJ{A:ab}(h:aM c A a w D E){n b:Nat}(az:E n=some (.op b)):aM c ⟨A.t,fun m=>if m=n then none else A.o m⟩ a w D (fun m=>if m=n then none else E m):=by
 have hne:∀ {m:Nat} {e:bD},E m=some e→(∀ b,e≠.op b)→m≠n:=fun he h2 e'=>by
  subst e';rw[az] at he;cases he;exact h2 _ rfl
 have hl:da w D E w D (fun m=>if m=n then none else E m):=by
  refine ⟨fun _ _ h=>h,fun _ _ _ _ h=>h,fun m b aL he =>?_,fun m aH l he=>⟨aH,l,?_,zz8 _,fun _=>rfl⟩,fun m b he =>?_,fun m b he =>?_,fun _ _ _ _ h=>h⟩
  ·simp only[if_neg (hne he (fun b=>by simp))];exact he
  ·simp only[if_neg (hne he (fun b=>by simp))];exact he
  ·simp only[if_neg (hne he (fun b=>by simp))];exact he
  ·simp only[if_neg (hne he (fun b=>by simp))];exact he
 refine ⟨h.sz,h.ef,fun t=>aQ.later hl (h.dn t),h.c8,h.cO,h.cQ,fun m =>?_,fun m m' e e' b h1 h2 h3 h4 =>?_,fun m e hm =>?_,h.eO,h.cE,h.fh,h.fm⟩
 ·by_cases hm:m=n
  ·simp only[hm,if_true,cY]
  ·simp only[if_neg hm];exact (h.bx m).later hl (by simp only[if_neg hm]) fun _ _ _ _=>⟨rfl,fun _ ho=>ho⟩
 ·split at h1
  ·cases h1
  ·split at h2
   ·cases h2
   ·exact h.cG m m' e e' b h1 h2 h3 h4
 ·by_cases hmn:m=n
  ·left;simp only[hmn,if_true]
  ·simp only[if_neg hmn];exact h.df m e hm
theorem aM.enter{ts:List (Nat×I)}{os0:List (Nat×ai)}(h:aM c (al ts os0) a w D E)(hbase:c.dV=none)(hfree:aG os0 999999=none)(hE0:c.cA 999999=none){o:Obj}(ho:mB o=true) :
  ∃ E1,aM c (al ts ((999999,.cz o)::os0)) { a with defers := { target:=.collected w.heap.size,args := #[] } :: a.defers } ((w.alloc (.deferred (some []))).alloc o) D E1∧E1 999999=some (.op (w.heap.size+1))∧∀ xs vs,aB w D E xs vs→aB ((w.alloc (.deferred (some []))).alloc o) D E1 xs vs:=by
 have hb:Below w.heap.size w ((w.alloc (.deferred (some []))).alloc o):=((Below.refl _ w).alloc (zz8 _) _).alloc (by simp) _;have h1:=h.grow (D':=D) hb (fun _ _ h=>h) (fun _ _ h _=>h) (fun b o' hd=>by have:=h.cQ b o' hd;simp;omega);obtain ⟨W,hW⟩:∃ W,W=(w.alloc (.deferred (some []))).alloc o:=⟨_,rfl⟩
 have hL:W.heap[w.heap.size+1]?=some o:=by
  rw[hW];have:=World.alloc_heap_new (w.alloc (.deferred (some []))) o;rwa [World.size_alloc] at this
 have hK:W.heap[w.heap.size]?=some (.deferred (some [])):=by
  rw[hW];exact (Below.heap_alloc _ _ _ (by simp)).trans (World.alloc_heap_new w _)
 rw[←hW] at h1 hb ⊢;have hEn:E 999999=none:=by have:=h.bx 999999;simp only[al,hfree] at this;exact this
 have hl:da W D E W D (fun m=>if m=999999 then some (.op (w.heap.size+1)) else E m):=by
  refine ⟨fun _ _ h=>h,fun _ _ _ _ h=>h,fun m b aL he =>?_,fun m aH l he=>⟨aH,l,?_,zz8 _,fun _=>rfl⟩,fun m b he =>?_,fun m b he =>?_,fun _ _ _ _ h=>h⟩
  all_goals
   have:m≠999999:=fun e=>by rw[e,hEn] at he;cases he
   simp only[if_neg this];exact he
 have hsz:c.cS.heap.size≤w.heap.size:=h.c8.size;have nb:∀ {m:Nat} {e:bD} {b:Nat},E m=some e→e.aH=some b→b<w.heap.size:=fun he hb'=>h.fy he hb';refine ⟨fun m=>if m=999999 then some (.op (w.heap.size+1)) else E m,⟨h1.sz,?_,fun t=>aQ.later hl (h1.dn t),h1.c8,h1.cO,h1.cQ,fun m =>?_,fun m m' e e' b g1 g2 g3 g4 =>?_,fun m e hm =>?_,h1.eO,h1.cE,h1.fh,h1.fm⟩,by simp,fun xs vs hx=>aB.later hl xs vs (aB.later (da.grow hb fun _ _ h=>h) xs vs hx)⟩
 ·have hdf:=h1.ef;rw[hbase] at hdf ⊢;obtain ⟨Bs,k1,k2,k3⟩:=hdf;refine ⟨w.heap.size::Bs,by simp only[zz7];rw[←k1],List.nodup_cons.2 ⟨fun hin =>?_,k2⟩,fun B hB =>?_⟩
  ·have hdf':=h.ef;rw[hbase] at hdf';obtain ⟨Bs',j1,_,j3⟩:=hdf';have e1:Bs=Bs':=by
    have:Bs.map (fun B=>({ target:=.collected B,args := #[] } : Deferred))=Bs'.map (fun B => { target:=.collected B,args := #[] }):=by rw[←k1,←j1]
    exact (List.map_inj_right (fun x y hxy=>by simpa using hxy)).1 this
   rw[e1] at hin;have:=eY (j3 _ hin).2;omega
  ·rcases zw5.1 hB with rfl | hB
   ·exact ⟨hsz,hK⟩
   ·exact k3 B hB
 ·simp only[al,aG];by_cases hm:m=999999
  ·subst hm;simp only[if_true,cY];exact ⟨_,rfl,.inl (by omega),hL,ho,fun o' hd=>by have:=h.cQ _ o' hd;omega⟩
  ·simp only[if_neg hm];exact (h1.bx m).later hl (by simp only[if_neg hm]) fun _ _ _ _=>⟨rfl,fun _ ho=>ho⟩
 ·by_cases hm:m=999999 <;>by_cases hm':m'=999999
  ·rw[hm,hm']
  ·simp only[if_pos hm,v6] at g1;simp only[if_neg hm'] at g2;subst g1;simp only[bD.aH,v6] at g3;have:=nb g2 g4;omega
  ·simp only[if_neg hm] at g1;simp only[if_pos hm',v6] at g2;subst g2;simp only[bD.aH,v6] at g4;have:=nb g1 g3;omega
  ·simp only[if_neg hm] at g1;simp only[if_neg hm'] at g2;exact h.cG m m' e e' b g1 g2 g3 g4
 ·have hmn:m≠999999:=fun e=>by rw[e,hE0] at hm;cases hm
  simp only[if_neg hmn];exact h.df m e hm
theorem cY.jk{M M':Nat→Prop}{n:Nat}{x:Option ai}(h:cY M w D E n x)(hM:∀ e b,E n=some e→e.aH=some b→M' b):cY M' w D E n x:=by
 unfold cY at *;split
 ·exact h
 ·obtain ⟨b,cs,T,h1,_,h3⟩:=h;exact ⟨b,cs,T,h1,hM _ b h1 rfl,h3⟩
 ·obtain ⟨aH,h1,h2,h3⟩:=h;refine ⟨aH,h1,h2,?_⟩;split
  ·exact h3
  ·obtain ⟨cs,pre,rest,_,h4⟩:=h3;exact ⟨cs,pre,rest,hM _ _ h1 rfl,h4⟩
 ·obtain ⟨b,h1,_,h3⟩:=h;exact ⟨b,h1,hM _ b h1 rfl,h3⟩
 ·obtain ⟨b,es,ck,h1,_,h3⟩:=h;exact ⟨b,es,ck,h1,hM _ b h1 rfl,h3⟩
 ·obtain ⟨r,b,es,ck,dS,se,la,h1,_,h3⟩:=h;exact ⟨r,b,es,ck,dS,se,la,h1,hM _ r h1 rfl,h3⟩
 ·obtain ⟨aH,h1,h2,h3⟩:=h;refine ⟨aH,h1,h2,?_⟩;split
  ·exact h3
  ·obtain ⟨cs,m,_,h4⟩:=h3;exact ⟨cs,m,hM _ _ h1 rfl,h4⟩
theorem aM.wO{os:List (Nat×ai)} : ∀ (ps:List Nat) (vs:List Value) (xs:List I) (ts:List (Nat×I)) (a:Act),aM c (al ts os) a w D E→(∀ p∈ps,p<c.n)→aB w D E xs vs→ps.length=vs.length →
  aM c (al (pd ps xs ts) os) { a with tmps:=(ps.zip vs).foldl (fun t q=>t.setIfInBounds q.1 q.2) a.tmps } w D E
 | [],[],xs,ts,a,h,_,hv,_=>by
  cases xs with
  |nil=>exact h
  |cons x xs=>simp[aB] at hv
 | [],_::_,_,_,_,_,_,_,hl=>by simp at hl
 |_::_,[],_,_,_,_,_,_,hl=>by simp at hl
 |p::ps,v::vs,xs,ts,a,h,hp,hv,hl=>by
  cases xs with
  |nil=>simp[aB] at hv
  |cons x xs =>
   simp only[aB] at hv;obtain ⟨v',rest,cs,e,h1,h2,h3⟩:=hv;simp only[zy6] at e;obtain ⟨rfl,rfl⟩:=e;have h4:=h.put (hp p (by simp)) (fD h1 h2);rw[wg] at h4;have:=aM.wO ps vs xs ((p,x)::ts) (a.put (some p) v) h4 (fun q hq=>hp q (by simp[hq])) h3 (by simpa using hl);exact this
end
end Go.Abs
namespace Go.Abs
open Go Go.RowKit
def iE:bz→Bool
 | .mv _ | .pick .. | .bin .. | .eqv .. | .conv .. | .un .. | .fl .. | .ix .. | .lenT _ | .bld .. | .ext .. | .mk .. | .nilC _ | .ptrE .. | .max2 .. | .prim .. =>true
 | .ld .. | .fa .. | .ia .. | .is .. | .len _ | .va .. | .bs .. | .sl .. | .cap _ | .bs0 _ | .lk .. | .b2s _=>true
 |_=>false
def tv:bz→Bool
 | .alloc _ | .box _ | .aS .. | .call .. | .eV .. | .du .. | .eT _=>true
 |op=>iE op
def oT(hs:List FuncId):bz→Bool
 | .alloc _ | .box _ | .eT _=>true
 | .call f _ => !hs.contains f
 |op=>iE op
abbrev ec:=List (Nat×List Nat)
def gT(ao:ec)(s:Nat):Option (List Nat):=(ao.find? fun q=>q.1==s).map (·.2)
def dB(ao:ec)(A:ab):Prop:=∀ s ns,gT ao s=some ns→(A.t s).only (fun n=>ns.contains n)=true
def oQ(ao:ec):aF→Option (List Nat)
 | .t s=>gT ao s
 | .c x=>if x.bw then some [] else none
def rp(a:Option (List Nat))(ns:List Nat):Bool:=match a with
 |some ms=>ms.all fun m=>ns.contains m
 |none=>false
def iw(ao:ec)(g:aC):Bool:=match g.dst with
 |none=>true
 |some d=>match gT ao d with
  |none=>true
  |some ns=>match g.op with
   | .mv x | .nilC x | .fa _ _ x | .ia _ _ x _=>rp (oQ ao x) ns
   | .bin .. | .len _ | .bs .. | .bs0 _ | .conv .. | .lenT _ | .prim .. | .b2s _=>true
   | .box _ | .alloc _ | .eT _=>ns.contains d
   | .is _ x _ | .ld _ x=>rp (oQ ao x) []
   |_=>false
def mE:bz→Option (List Nat)
 | .ld _ (.t x) | .fa _ _ (.t x) | .ia _ _ (.t x) _ | .is _ (.t x) _ | .len (.t x) | .va _ _ (.t x) | .sl _ (.t x) _ _ _ | .cap (.t x) | .lk _ _ _ (.t x) _ | .b2s (.t x)=>some [x]
 | .bs _ _ ps=>if (ps.all fun x=>match x with | .t _=>true | .c _=>false)=true then some (iV ps) else none
 | .bs0 _=>some []
 |op=>if op.fU=0∧iE op=true then some [] else none
def rU(ao:ec)(g:aC)(p:Nat→Bool):Bool:=match mE g.op with
 |some xs=>xs.all fun s=>match gT ao s with | some ns=>ns.all p | none=>false
 |none=>false
def nE(hs:List FuncId)(ao:ec)(g h:aC):Bool:=oT hs h.op||match h.op with
 | .aS _ (.t y) _=>match mE g.op with
  |some []=>true
  |_=>match gT ao y with
   |some ms=>rU ao g fun n => !ms.contains n
   |none=>false
 | .aS .. =>match mE g.op with
  |some []=>true
  |_=>false
 | .du _ _ _ _ s _=>rU ao g (fun _=>false)||rp (oQ ao s) []
 |_=>false
def nm(hs:List FuncId)(ao:ec)(g h:aC):Bool:=iE g.op&&(nE hs ao g h&&((match g.dst with
  |some d => !h.cC.contains d&&h.dst != some d
  |none=>true)&&(match h.dst with
  |some d => !g.cC.contains d
  |none=>true)))
theorem vI{op:bz}(h:iE op=true)(A:ab)(dst:Option Nat)(rest:List aC)(k:ab→cj):aY A dst op rest k=cv (aZ A op) fun v=>k (A.aP dst v):=by
 cases op <;>first | rfl | cases h
inductive bR (P:Program) (Y:Value→List I→List (Nat×ai)→cd→Prop) (hs:List FuncId) (K:ab→Prop):cj→Prop where
 |done {A:ab} : K A→bR P Y hs K (.done A)
 |flat {f:FuncId} {avs cargs:List I} {a2:Option (List I)} {dst:Option Nat} {rest:List aC} {A:ab} (r:I):aK P f cargs r→r.flat=true→bR P Y hs K (aA rest (A.aP dst r))→bR P Y hs K (.call f avs (some cargs) a2 dst rest A)
 |lead {f:FuncId} {avs cargs:List I} {a1:Option (List I)} {dst:Option Nat} {rest:List aC} {A:ab} (r:I):aK P f cargs r→bR P Y hs K (aA rest (A.aP dst r))→bR P Y hs K (.call f avs a1 (some cargs) dst rest A)
 |bx {f:FuncId} {avs:List I} {a1 a2:Option (List I)} {dst:Option Nat} {rest:List aC} {ts:List (Nat×I)} {os0:List (Nat×ai)} (ρ:List (Nat×Nat)) (cargs:List I) (post:cd):eU P f cargs [] post →
   eF ρ [] os0→gi false (al ts os0) ρ [] avs cargs→(∀ r os',post r os'→dj false ρ [] os0 r os') →
   (∀ r os',post r os'→bR P Y hs K (aA rest ((al ts (cD ρ os'++os0)).aP dst (r.aR (bo ρ)))))→bR P Y hs K (.call f avs a1 a2 dst rest (al ts os0))
 |any {p:Nat→Prop} {k:Nat→cj} : (∀ m,p m→bR P Y hs K (k m))→bR P Y hs K (.any p k)
 |wq {f:FuncId} {avs:List I} {a1 a2:Option (List I)} {dst:Option Nat} {rest:List aC} {ts:List (Nat×I)} {os0:List (Nat×ai)} (aE:Bool) (ρ:List (Nat×Nat)) (os:List (Nat×ai)) (cargs:List I) (post:cd):hs.contains f=true→eU P f cargs os post →
   eF ρ os os0→gi aE (al ts (dw (iP ρ os) os0)) ρ os avs cargs→(∀ r os',post r os'→dj aE ρ os os0 r os') →
   (∀ r os',post r os'→bR P Y hs K (aA rest ((al ts (cD ρ os'++os0)).aP dst (r.aR (bo ρ)))))→bR P Y hs K (.call f avs a1 a2 dst rest (al ts os0))
 |acz {v:Value} {avs:List I} {dst:Option Nat} {rest:List aC} {ts:List (Nat×I)} {os0:List (Nat×ai)} (os:List (Nat×ai)) (cargs:List I) (post:cd):Y v cargs os post →
   eF [] os os0→gi false (al ts (dw (iP [] os) os0)) [] os avs cargs→(∀ r os',post r os'→dj false [] os os0 r os') →
   (∀ r os',post r os'→bR P Y hs K (aA rest ((al ts (cD [] os'++os0)).aP dst (r.aR (bo [])))))→bR P Y hs K (.lr v avs dst rest (al ts os0))
theorem NM(os:List (Nat×ai)):dw [] os=os:=by simp[dw]
section
variable {P:Program} {hs:List FuncId} {K:ab→Prop} {Y:Value→List I→List (Nat×ai)→cd→Prop}
theorem bR.rS{p:Nat→Prop}{k:Nat→cj}(h:bR P Y hs K (.any p k)):∀ m,p m→bR P Y hs K (k m):=by cases h;assumption
theorem dB.put{ao:ec}{A B:ab}(h:dB ao A)(ht:∀ k,B.t k=A.t k){dst:Option Nat}{v:I}(hv:∀ d,dst=some d→∀ ns,gT ao d=some ns→v.only (fun n=>ns.contains n)=true):dB ao (B.aP dst v):=by
 intro s ns hs';cases dst with
 |none=>exact (ht s).symm▸h s ns hs'
 |some d =>
  simp only[ab.aP,ab.put];by_cases hd:s=d
  ·rw[if_pos hd];exact hv d rfl ns (hd▸hs')
  ·rw[if_neg hd,ht];exact h s ns hs'
theorem nX{ao:ec}{A:ab}(h:dB ao A){x:aF}{ns:List Nat}(hx:rp (oQ ao x) ns=true):(af A x).only (fun n=>ns.contains n)=true:=by
 cases x with
 |c x =>
  simp only[oQ] at hx;split at hx
  ·rename_i hc;exact mL _ x hc
  ·cases hx
 |t s =>
  simp only[oQ] at hx;cases hl:gT ao s with
  |none=>rw[hl] at hx;cases hx
  |some ms =>
   rw[hl] at hx;simp only[rp,zx3] at hx;exact jn (fun n hn=>hx n (by simpa using hn)) _ (h s ms hl)
theorem Ia{op:BinOp}{x y v:I}(p:Nat→Bool)(h:bS op x y=some v):v.only p=true:=by
 unfold bS at h
 (repeat' split at h) <;>first | (cases h;done) | (simp only[v6] at h;subst h;rfl)
theorem aaN{q:uD}{xs:List I}{v:I}(p:Nat→Bool)(h:eC q xs=some v):v.only p=true:=by
 unfold eC at h
 (repeat' split at h) <;>first | (cases h;done) | (rename_i hc;simp only[v6] at h;subst h;simp only[I.only];exact mL _ _ hc.1) | (simp only[v6] at h;subst h;rfl) | (simp only[t8] at h;obtain ⟨_,_,rfl⟩:=h;rfl)
theorem HQ{x:Option (List I)}{v:I}(p:Nat→Bool)(h:lj x=some v):v.only p=true:=by
 unfold lj at h;split at h
 ·simp only[t8] at h;obtain ⟨_,_,rfl⟩:=h;rfl
 ·cases h
theorem tw{p:Nat→Bool} : ∀ {xs:List I} {i:Nat} {x:I},I.cB p xs=true→xs[i]?=some x→x.only p=true
 | [],_,_,_,h=>by simp at h
 |a::xs,0,x,h,e=>by
  simp only[I.cB,zz0] at h;simp only[List.getElem?_cons_zero,v6] at e;exact e▸h.1
 |a::xs,i+1,x,h,e=>by
  simp only[I.cB,zz0] at h;exact tw (xs:=xs) h.2 (by simpa using e)
theorem CY{ao:ec}{A:ab}{g:aC}(h:dB ao A)(hg:iw ao g=true){v:I}(hv:aZ A g.op=some v):∀ d,g.dst=some d→∀ ns,gT ao d=some ns→v.only (fun n=>ns.contains n)=true:=by
 intro d hd ns hn;obtain ⟨dst,op,gd⟩:=g;simp only at hd hv;subst hd;simp only[iw,hn] at hg;cases op <;>simp only at hg <;>(try (cases hg;done)) <;>simp only[aZ] at hv <;>(try (cases hv;done))
 case mv x=>simp only[v6] at hv;exact hv▸nX h hg
 case nilC x =>
  have:=nX h hg;generalize af A x=u at hv this;cases u <;>simp only[nw] at hv <;>first | (cases hv;done) | (simp only[v6] at hv;exact hv▸this)
 case bin op x y=>exact Ia _ hv
 case conv k x=>split at hv <;>first | (cases hv;done) | (simp only[v6] at hv;subst hv;rfl)
 case prim p xs=>exact aaN _ hv
 case is esz x i =>
  have hx:=nX h hg;split at hv
  case h_2=>cases hv
  split at hv
  ·rename_i sz es he;rw[he] at hx;simp only[I.only] at hx;split at hv
   ·simp only[t8] at hv;obtain ⟨u,hu,rfl⟩:=hv;simp only[I.only];exact jn (fun n hn=>by simp at hn) _ (tw hx hu)
   ·cases hv
  ·rename_i m l he;rw[he] at hx;simp[I.only] at hx
  ·rename_i m p sz lo l he;rw[he] at hx;simp[I.only] at hx
  ·cases hv
 case ld s x =>
  have hx:=nX h hg;split at hv
  case h_2=>cases hv
  rename_i u hu;split at hv
  case isFalse=>cases hv
  simp only[v6] at hv;subst hv;generalize af A x=z at hx hu;cases z <;>simp only[b6] at hu <;>try (cases hu;done)
  ·simp only[v6] at hu;subst hu;simp only[I.only] at hx;exact jn (fun n hn=>by simp at hn) _ hx
  ·simp[I.only] at hx
 case b2s x=>exact HQ _ hv
 case lenT x=>split at hv <;>first | (cases hv;done) | (simp only[v6] at hv;subst hv;rfl)
 case len x=>(repeat' split at hv) <;>first | (cases hv;done) | (simp only[v6] at hv;subst hv;rfl)
 case bs0 e=>simp only[v6] at hv;subst hv;rfl
 case bs e ps =>
  split at hv
  ·split at hv
   ·rename_i hc;simp only[v6] at hv;subst hv;simp only[I.only];exact kM _ _ hc.2
   ·cases hv
  ·cases hv
 case fa f off x =>
  have hx:=nX h hg;split at hv
  ·rename_i fs he;rw[he] at hx;simp only[I.only] at hx;split at hv
   ·rename_i u hu;split at hv
    ·simp only[v6] at hv;subst hv;simp only[I.only];exact tw hx hu
    ·cases hv
   ·cases hv
  ·rename_i n q he;rw[he] at hx;simp only[I.only] at hx;split at hv
   ·split at hv
    ·simp only[v6] at hv;subst hv;simpa only[I.only] using hx
    ·cases hv
   ·cases hv
  ·cases hv
 case ia n esz x i =>
  have hx:=nX h hg;split at hv
  case h_2=>cases hv
  split at hv
  case isFalse=>cases hv
  split at hv
  ·rename_i fs he;rw[he] at hx;simp only[I.only] at hx;split at hv
   ·simp only[t8] at hv;obtain ⟨u,hu,rfl⟩:=hv;simp only[I.only];exact tw hx hu
   ·cases hv
  ·rename_i m q he;rw[he] at hx;simp only[I.only] at hx;split at hv
   ·split at hv
    ·simp only[v6] at hv;subst hv;simpa only[I.only] using hx
    ·cases hv
   ·cases hv
  ·cases hv
def rH(A:ab)(dst:Option Nat)(s:I)(B:ab):Prop:=(∀ t,dst≠some t→B.t t=A.t t)∧(s.only (fun _=>false)=true→dq A B)
def mV(A:ab)(dst:Option Nat)(s:I)(R:(ab→cj)→cj):Prop :=
 (∀ k,R k=.fail)∨(∃ B,(∀ k,R k=k B)∧rH A dst s B)∨∃ (p:Nat→Prop) (bj:Nat→ab),(∀ k,R k=.any p fun m=>k (bj m))∧∀ m,rH A dst s (bj m)
theorem qO{A B:ab}{dst:Option Nat}{v:I}{t:Nat}(ht:∀ k,B.t k=A.t k)(h:dst≠some t):(B.aP dst v).t t=A.t t:=by
 cases dst with
 |none=>exact ht t
 |some d =>
  have:t≠d:=fun e=>h (by rw[e]);simp only[ab.aP,ab.put,if_neg this];exact ht t
theorem Hx(A:ab)(dst:Option Nat)(esz bytes:Nat)(z s:I)(es ys:List I):mV A dst s (fq A dst esz bytes z es ys):=by
 cases dst with
 |none=>exact .inl fun _=>rfl
 |some d =>
  cases ho:A.o d with
  |some y=>exact .inl fun k=>by simp only[fq,ho]
  |none =>
   by_cases hc:(es.length+ys.length)*bytes≤140737488355328∧es.length+ys.length≤maxLen
   ·refine .inr (.inr ⟨_,fun m=>(A.aN d (.box (.agg (es++(ys++List.replicate m z))))).aP (some d) (.view d [] esz 0 (es.length+ys.length)),fun k=>by simp only[fq,ho];rw[if_pos hc],fun m=>⟨fun t ht=>qO (A:=A) (B:=A.aN d _) (fun _=>rfl) ht,fun _ n y hy =>?_⟩⟩);have:n≠d:=fun e=>by rw[e,ho] at hy;cases hy
    rw[gF];simp only[ab.aN,if_neg this];exact hy
   ·exact .inl fun k=>by simp only[fq,ho];rw[if_neg hc]
theorem HB(A:ab)(dst:Option Nat)(esz bytes:Nat)(z s:I)(es ys:Option (List I)):mV A dst s (ed A dst esz bytes z s es ys):=by
 cases es with
 |none=>exact .inl fun _=>rfl
 |some es =>
  cases ys with
  |none=>exact .inl fun _=>rfl
  |some ys =>
   by_cases h0:ys=[]
   ·exact .inr (.inl ⟨A.aP dst s,fun k=>by simp only[ed,if_pos h0],fun t ht=>qO (A:=A) (fun _=>rfl) ht,fun _ n y hy=>by rw[gF];exact hy⟩)
   ·have gg:=fun s'=>Hx A dst esz bytes z s' es ys;cases s
    case nils=>simp only[mV,ed,if_neg h0];exact gg _
    case c0=>simp only[mV,ed,if_neg h0];exact gg _
    case view n p sz lo l =>
     cases ho:A.o n with
     |none=>exact .inl fun k=>by simp only[ed,if_neg h0,ho]
     |some y =>
      cases y with
      |box b =>
       cases hb:b.at p with
       |none=>exact .inl fun k=>by simp only[ed,if_neg h0,ho,hb]
       |some c =>
        cases c
        case agg fs =>
         by_cases h1:lo+l+ys.length≤fs.length
         ·by_cases h2:sz=esz∧I.cI ys=I.cI ((fs.drop (lo+l)).take ys.length)
          ·exact .inr (.inl ⟨(A.aN n (.box (hE b p (lo+l) fs ys))).aP dst (.view n p esz lo (l+ys.length)),fun k=>by simp only[ed,if_neg h0,ho,hb,if_pos h1];rw[if_pos h2],fun t ht=>qO (A:=A) (B:=A.aN n _) (fun _=>rfl) ht,fun h=>by simp[I.only] at h⟩)
          ·exact .inl fun k=>by simp only[ed,if_neg h0,ho,hb,if_pos h1];rw[if_neg h2]
         ·simp only[mV,ed,if_neg h0,ho,hb,if_neg h1];exact gg _
        all_goals exact .inl fun k=>by simp only[ed,if_neg h0,ho,hb]
      |_=>exact .inl fun k=>by simp only[ed,if_neg h0,ho]
    all_goals exact .inl fun k=>by simp only[ed,if_neg h0]
theorem yz(A:ab)(dst:Option Nat)(e esz bytes:Nat)(z:I)(s x:aF)(rest:List aC):mV A dst (af A s) (aY A dst (.du e esz bytes z s x) rest):=by
 generalize hs:af A s=hU;cases hU
 case own n l =>
  cases hx:af A x
  case slice sz ys =>
   cases ho:A.o n with
   |none=>exact .inl fun k=>by simp only[aY,hs,hx,ho]
   |some y =>
    cases y with
    |bM T sz' es =>
     by_cases hc:wy e esz bytes l sz ys T sz' es
     ·exact .inr (.inl ⟨(A.aN n (.bM e esz (es++ys))).aP dst (.own n (es.length+ys.length)),fun k=>by simp only[aY,hs,hx,ho];rw[if_pos hc],fun t ht=>qO (A:=A) (B:=A.aN n _) (fun _=>rfl) ht,fun h=>by simp[I.only] at h⟩)
     ·exact .inl fun k=>by simp only[aY,hs,hx,ho];rw[if_neg hc]
    |dL T xs =>
     by_cases hc:wz e esz bytes l ys T xs z
     ·exact .inr (.inl ⟨(A.aN n (.dL e (xs++qo ys))).aP dst (.own n (xs.length+ys.length)),fun k=>by simp only[aY,hs,hx,ho];rw[if_pos hc],fun t ht=>qO (A:=A) (B:=A.aN n _) (fun _=>rfl) ht,fun h=>by simp[I.only] at h⟩)
     ·exact .inl fun k=>by simp only[aY,hs,hx,ho];rw[if_neg hc]
    |_=>exact .inl fun k=>by simp only[aY,hs,hx,ho]
  all_goals exact .inl fun k=>by simp only[aY,hs,hx]
 all_goals (simp only[mV,aY,hs];exact HB ..)
theorem wN{A:ab}{d:Nat}{v:I}{n:Nat}{y:ai}{dst:Option Nat}{u:I}(h:dst≠some d):((A.put d v).aN n y).aP dst u=((A.aN n y).aP dst u).put d v:=by
 cases dst with
 |none=>rfl
 |some e =>
  have:e≠d:=fun he=>h (by rw[he]);simp only[ab.aP,ab.put,ab.aN,ab.mk.injEq,and_true]
  funext k
  by_cases h1:k=e <;>by_cases h2:k=d <;>simp_all
theorem aa0{A:ab}{d:Nat}{v:I}{dst:Option Nat}{u:I}(h:dst≠some d):(A.put d v).aP dst u=(A.aP dst u).put d v:=by
 cases dst with
 |none=>rfl
 |some e =>
  have:e≠d:=fun he=>h (by rw[he]);simp only[ab.aP,ab.put,ab.mk.injEq,and_true]
  funext k
  by_cases h1:k=e <;>by_cases h2:k=d <;>simp_all
theorem Hy{A:ab}{d:Nat}{v:I}{dst:Option Nat}(h:dst≠some d)(esz bytes:Nat)(z:I)(es ys:List I)(k:ab→cj):fq (A.put d v) dst esz bytes z es ys k=fq A dst esz bytes z es ys fun B=>k (B.put d v):=by
 cases dst with
 |none=>rfl
 |some e =>
  simp only[fq];have:(A.put d v).o=A.o:=rfl;rw[this];cases A.o e with
  |some _=>rfl
  |none =>
   simp only;split
   ·simp only[wN h]
   ·rfl
theorem HC{A:ab}{d:Nat}{v:I}{dst:Option Nat}(h:dst≠some d)(esz bytes:Nat)(z s:I)(es ys:Option (List I))(k:ab→cj):ed (A.put d v) dst esz bytes z s es ys k=ed A dst esz bytes z s es ys fun B=>k (B.put d v):=by
 have ho:(A.put d v).o=A.o:=rfl;cases es with
 |none=>rfl
 |some es =>
  cases ys with
  |none=>rfl
  |some ys =>
   simp only[ed];split
   ·rw[aa0 h]
   ·cases s <;>simp only[Hy h,ho]
    rename_i n p sz lo l;cases A.o n with
    |none=>rfl
    |some y =>
     cases y with
     |box b =>
      simp only;cases b.at p with
      |none=>rfl
      |some c =>
       cases c <;>simp only[wN h]
     |_=>rfl
theorem HG{A:ab}{d:Nat}{v:I}{dst:Option Nat}(h:dst≠some d){e esz bytes:Nat}{z:I}{s x:aF}(hag:dp A (A.put d v) (s.sl++x.sl))(rest rest':List aC)(k:ab→cj) :
  aY (A.put d v) dst (.du e esz bytes z s x) rest k=aY A dst (.du e esz bytes z s x) rest' fun B=>k (B.put d v):=by
 have ho:(A.put d v).o=A.o:=rfl;have hsrc:∀ y,cT (A.put d v) esz y=cT A esz y:=fun y=>by cases y <;>rfl
 simp only[aY,cJ hag.l,cJ hag.r,hsrc];cases af A s <;>simp only[HC h]
 rename_i n l;cases af A x <;>simp only[ho]
 cases A.o n with
 |none=>rfl
 |some y=>cases y <;>simp only[wN h]
theorem bR.Ai{ao:ec}{f:FuncId}{avs:List I}{a1 a2:Option (List I)}{dst:Option Nat}{rest:List aC}{A:ab}(hi:dB ao A)(hd:∀ d,dst=some d→gT ao d=none)(h:bR P Y hs K (.call f avs a1 a2 dst rest A)) :
  ba P Y false (fun B=>bR P Y hs K (aA rest B)∧dB ao B) (.call f avs a1 a2 dst [] A):=by
 have no:∀ {v:I},∀ d,dst=some d→∀ ns,gT ao d=some ns→v.only (fun n=>ns.contains n)=true:=fun d e ns hn=>by rw[hd d e] at hn;cases hn
 cases h with
 |flat r hc hf hw=>exact .flat r hc hf (.done ⟨hw,hi.put (fun _=>rfl) no⟩)
 |lead r hc hw=>exact .lead r hc (.done ⟨hw,hi.put (fun _=>rfl) no⟩)
 |bx ρ cargs post hc hg ha hb hw=>exact .bx false ρ [] cargs post rfl hc hg (by simp only[iP,zy9,NM];exact ha) hb fun r os' hp=>.done ⟨hw r os' hp,hi.put (B:=al _ (cD ρ os'++_)) (fun _=>rfl) no⟩
 |wq aE ρ os cargs post _ hc hg ha hb hw=>exact .bx aE ρ os cargs post rfl hc hg ha hb fun r os' hp=>.done ⟨hw r os' hp,hi.put (B:=al _ (cD ρ os'++_)) (fun _=>rfl) no⟩
theorem bR.JR{ao:ec}{v:Value}{avs:List I}{dst:Option Nat}{rest:List aC}{A:ab}(hi:dB ao A)(hd:∀ d,dst=some d→gT ao d=none)(h:bR P Y hs K (.lr v avs dst rest A)) :
  ba P Y false (fun B=>bR P Y hs K (aA rest B)∧dB ao B) (.lr v avs dst [] A):=by
 have no:∀ {v:I},∀ d,dst=some d→∀ ns,gT ao d=some ns→v.only (fun n=>ns.contains n)=true:=fun d e ns hn=>by rw[hd d e] at hn;cases hn
 cases h with
 |acz os cargs post hc hg ha hb hw=>exact .uj os cargs post rfl hc hg ha hb fun r os' hp=>.done ⟨hw r os' hp,hi.put (B:=al _ (cD [] os'++_)) (fun _=>rfl) no⟩
theorem bR.one{ao:ec}{A:ab}{g:aC}{rest:List aC}(hi:dB ao A)(ho:tv g.op=true)(hL:iw ao g=true)(h:bR P Y hs K (aY A g.dst g.op rest (aA rest))):ba P Y false (fun B=>bR P Y hs K (aA rest B)∧dB ao B) (aY A g.dst g.op [] (aA [])):=by
 have hval:=fun v (hv:aZ A g.op=some v)=>CY hi hL hv;obtain ⟨dst,op,gd⟩:=g;simp only at ho h hval ⊢;have pure:iE op=true→ba P Y false (fun B=>bR P Y hs K (aA rest B)∧dB ao B) (aY A dst op [] (aA [])):=by
  intro hsm;rw[vI hsm] at h ⊢;cases hv:aZ A op with
  |none=>rw[hv] at h;cases h
  |some v=>rw[hv] at h;exact .done ⟨h,hi.put (fun _=>rfl) (hval v hv)⟩
 have unl:(∀ ns d,dst=some d→gT ao d=some ns→iw ao ⟨dst,op,gd⟩=false)→∀ d,dst=some d→gT ao d=none:=fun h1 d hd=>by
  cases hn:gT ao d with
  |none=>rfl
  |some ns=>rw[h1 ns d hd hn] at hL;cases hL
 cases op with
 |alloc z =>
  cases dst with
  |none=>simp only[aY] at h;cases h
  |some d =>
   simp only[aY] at h ⊢;split at h
   case h_2=>cases h
   refine .done ⟨h,hi.put (B:=A.aN d _) (dst:=some d) (fun _=>rfl) fun d' e ns hn =>?_⟩;simp only[v6] at e;subst e;simpa only[iw,hn,I.only] using hL
 |box x =>
  cases dst with
  |none=>simp only[aY] at h;cases h
  |some d =>
   simp only[aY] at h ⊢;split at h
   case h_2=>cases h
   split at h
   case isFalse=>cases h
   rename_i hv;rw[if_pos hv];refine .done ⟨h,hi.put (B:=A.aN d _) (dst:=some d) (fun _=>rfl) fun d' e ns hn =>?_⟩;simp only[v6] at e;subst e;simpa only[iw,hn,I.only] using hL
 |aS s x v =>
  cases dst with
  |some d=>simp only[aY] at h;cases h
  |none =>
   simp only[aY] at h ⊢;split at h
   case h_2=>cases h
   rename_i n p hx;split at h
   case h_2=>cases h
   rename_i b hb;split at h
   case h_2=>cases h
   rename_i old hold;split at h
   case isFalse=>cases h
   rename_i hok;simp only[if_pos hok];exact .done ⟨h,fun s ns hn=>hi s ns hn⟩
 |eT x =>
  simp only[aY] at h ⊢;cases hse:lT (af A x) with
  |none=>rw[hse] at h;simp only[iB] at h;cases h
  |some ys =>
   rw[hse] at h;cases dst with
   |none=>simp only[iB] at h;cases h
   |some d =>
    simp only[iB] at h ⊢;split at h
    case h_2=>cases h
    rename_i ho;refine .any rfl fun m hm=>.done ⟨h.rS m hm,hi.put (B:=A.aN d _) (dst:=some d) (fun _=>rfl) fun d' e ns hn =>?_⟩;simp only[v6] at e;subst e;simpa only[iw,hn,I.only] using hL
 |call f args=>exact bR.Ai hi (unl fun ns d e hn=>by subst e;simp only[iw,hn]) h
 |eV x args =>
  have hu:=unl fun ns d e hn=>by subst e;simp only[iw,hn]
  simp only[aY] at h ⊢;split at h
  ·exact bR.Ai hi hu h
  ·exact bR.JR hi hu h
  ·cases h
 |du e esz bytes z s x =>
  have hu:=unl fun ns d e hn=>by subst e;simp only[iw,hn]
  have sG:∀ B,rH A dst (af A s) B→dB ao B:=fun B hB t ns hn=>by
   rw[hB.1 t fun e=>by rw[hu t e] at hn;cases hn];exact hi t ns hn
  have hf:=yz A dst e esz bytes z s x;rcases hf rest with h1 | ⟨B,h1,h2⟩ | ⟨p,bj,h1,h2⟩
  ·rw[h1] at h;cases h
  ·rw[h1] at h;have:aY A dst (.du e esz bytes z s x) [] (aA [])=aA [] B:=(show aY A dst (.du e esz bytes z s x) [] (aA [])=aY A dst (.du e esz bytes z s x) rest (aA []) from rfl).trans (h1 _);rw[this];exact .done ⟨h,sG B h2⟩
  ·rw[h1] at h;have:aY A dst (.du e esz bytes z s x) [] (aA [])=.any p fun m=>aA [] (bj m):=(show aY A dst (.du e esz bytes z s x) [] (aA [])=aY A dst (.du e esz bytes z s x) rest (aA []) from rfl).trans (h1 _);rw[this];exact .any rfl fun m hm=>.done ⟨h.rS m hm,sG _ (h2 m)⟩
 |_=>first | exact pure rfl | cases ho
def fB(g:aC)(A:ab)(v:I):Prop:=(fO A g∧v=.undef)∨(pass A g∧aZ A g.op=some v)
theorem bR.xp{A:ab}{g:aC}{rest:List aC}(hs':iE g.op=true)(h:bR P Y hs K (aA (g::rest) A)):∃ v,fB g A v∧bR P Y hs K (aA rest (A.aP g.dst v)):=by
 have step:pass A g→bR P Y hs K (aY A g.dst g.op rest (aA rest))→∃ v,fB g A v∧bR P Y hs K (aA rest (A.aP g.dst v)):=by
  intro hp h;rw[vI hs'] at h;cases hv:aZ A g.op with
  |none=>rw[hv] at h;cases h
  |some v=>rw[hv] at h;exact ⟨v,.inr ⟨hp,hv⟩,h⟩
 simp only[aA] at h;split at h
 ·rename_i hg;exact step (by simp only[pass,hg]) h
 ·rename_i t b hg;split at h
  ·rename_i b' hb;split at h
   ·rename_i hbb;subst hbb;exact step (by simp only[pass,hg];exact hb) h
   ·rename_i hbb;exact ⟨_,.inl ⟨by simp only[fO,hg];exact .inl (by rw[hb,uW hbb]),rfl⟩,h⟩
  ·rename_i hb;exact ⟨_,.inl ⟨by simp only[fO,hg];exact .inr hb,rfl⟩,h⟩
  ·cases h
theorem rT{A:ab}{g:aC}{rest:List aC}(hn:fO A g):aA (g::rest) A=aA rest (A.aP g.dst .undef):=by
 simp only[aA];cases hg:g.guard with
 |none=>simp only[fO,hg] at hn
 |some tb =>
  obtain ⟨t,b⟩:=tb;simp only[fO,hg] at hn;rcases hn with hn | hn
  ·simp only[hn];rw[if_neg (by cases b <;>simp)]
  ·simp only[hn]
theorem fB.to{A:ab}{g:aC}{rest:List aC}{v:I}(hs':iE g.op=true)(h:fB g A v):aA (g::rest) A=aA rest (A.aP g.dst v):=by
 rcases h with ⟨hn,rfl⟩ | ⟨hp,hv⟩
 ·exact rT hn
 ·rw[mY hp,vI hs',hv];rfl
theorem Nq{A A':ab}{p:Nat→Bool}(ho:∀ n,p n=true→A'.o n=A.o n){x:I}(hx:x.only p=true):b6 A' x=b6 A x:=by
 cases x <;>simp only[b6]
 rename_i n q;rw[ho n (by simpa[I.only] using hx)]
mutual
theorem Oj{A A':ab}{p:Nat→Bool}(ho:∀ n,p n=true→A'.o n=A.o n):∀ {x:I},x.only p=true→bf false A' x=bf false A x
 | .own n k,h=>by simp only[bf];rw[ho n (by simpa[I.only] using h)]
 | .func f caps,h=>by simp only[bf];rw[sg ho (xs:=caps) (by simpa[I.only] using h)]
 | .agg fs,h=>by simp only[bf];rw[sg ho (xs:=fs) (by simpa[I.only] using h)]
 | .undef,_ | .cV,_ | .bool _,_ | .int _ _,_ | .ay _,_ | .nilp,_ | .cZ,_ | .cR,_ | .any,_ | .raw _,_ | .nils _,_ | .c0 _,_ | .slice _ _,_ | .tuple _,_ | .ref _,_ | .iface _ _,_ | .ptr _ _,_ | .view _ _ _ _ _,_ | .mref _,_ | .cU _,_ | .cu _ _,_=>by simp[bf]
theorem sg{A A':ab}{p:Nat→Bool}(ho:∀ n,p n=true→A'.o n=A.o n):∀ {xs:List I},I.cB p xs=true→bL false A' xs=bL false A xs
 | [],_=>rfl
 |x::xs,h=>by
  simp only[I.cB,zz0] at h;simp only[bL,Oj ho h.1,sg ho h.2]
end
theorem C9{p:Nat→Bool}{f:aF→I} : ∀ {xs:List aF},(∀ x∈xs,(f x).only p=true)→I.cB p (xs.map f)=true
 | [],_=>rfl
 |x::xs,h=>by
  simp only[zz7,I.cB,zz0];exact ⟨h x (by simp),C9 fun y hy=>h y (by simp[hy])⟩
theorem Zh{A A':ab}{p:Nat→Bool}(ho:∀ n,p n=true→A'.o n=A.o n){x:I}(hx:x.only p=true):fY A' x=fY A x:=by
 cases x with
 |mref n=>simp only[fY];rw[ho n (by simpa[I.only] using hx)]
 |raw v=>cases v <;>first | rfl | (rename_i o;cases o <;>rfl)
 |_=>rfl
theorem aaP{A A':ab}{op:bz}{xs:List Nat}{p:Nat→Bool}(hm:mE op=some xs)(h:dp A A' op.cC)(hx:∀ s∈xs,(A.t s).only p=true)(ho:∀ n,p n=true→A'.o n=A.o n):aZ A' op=aZ A op:=by
 have j4:op.fU=0→aZ A' op=aZ A op:=fun hc=>wL hc h;have dl:=fun {x:I} (hx:x.only p=true)=>Nq ho hx;unfold mE at hm;split at hm
 ·rename_i s x;simp only[v6] at hm;subst hm;have e:=h x (by simp[bz.cC,aF.sl]);simp only[aZ,af,e,dl (hx x (by simp))]
 ·rename_i f off x;simp only[v6] at hm;subst hm;have e:=h x (by simp[bz.cC,aF.sl]);have k:=hx x (by simp);simp only[aZ,af,e];generalize A.t x=u at k ⊢;cases u with
  |ptr n q=>simp only[dl (x:=.ptr n q) k]
  |ref c=>cases c <;>rfl
  |_=>rfl
 ·rename_i n esz x i;simp only[v6] at hm;subst hm;have e:=h x (by simp[bz.cC,aF.sl]);have ei:=cJ (x:=i) (fun m hm=>h m (by simp[bz.cC,hm]));have k:=hx x (by simp);simp only[aZ,ei];generalize af A i=w;simp only[af,e];generalize A.t x=u at k ⊢;cases u with
  |ptr n q=>simp only[dl (x:=.ptr n q) k]
  |ref c=>cases c <;>rfl
  |_=>rfl
 ·rename_i esz x i;simp only[v6] at hm;subst hm;have e:=h x (by simp[bz.cC,aF.sl]);have ei:=cJ (x:=i) (fun m hm=>h m (by simp[bz.cC,hm]));have k:=hx x (by simp);simp only[aZ,ei];generalize af A i=w;simp only[af,e];generalize A.t x=u at k ⊢;cases u with
  |own n l=>simp only[ho n (by simpa[I.only] using k)]
  |view n q=>simp only[dl (x:=.ptr n q) (by simpa[I.only] using k)]
  |_=>rfl
 ·rename_i x;simp only[v6] at hm;subst hm;have e:=h x (by simp[bz.cC,aF.sl]);have k:=hx x (by simp);simp only[aZ,af,e];generalize A.t x=u at k ⊢;cases u with
  |own n l=>simp only[ho n (by simpa[I.only] using k)]
  |_=>rfl
 ·rename_i n esz x;simp only[v6] at hm;subst hm;have e:=h x (by simp[bz.cC,aF.sl]);have k:=hx x (by simp);simp only[aZ,af,e];generalize A.t x=u at k ⊢;cases u with
  |ptr n q=>simp only[dl (x:=.ptr n q) k]
  |ref c=>cases c <;>rfl
  |_=>rfl
 ·rename_i esz x lo hi mx;simp only[v6] at hm;subst hm;have e:=h x (by simp[bz.cC,aF.sl]);have e1:=oH (x:=lo) (fun m hm=>h m (by simp[bz.cC,hm]));have e2:=oH (x:=hi) (fun m hm=>h m (by simp[bz.cC,hm]));have e3:=oH (x:=mx) (fun m hm=>h m (by simp[bz.cC,hm]));have k:=hx x (by simp);simp only[aZ,e1,e2,e3];generalize lo.map (af A)=w1;generalize hi.map (af A)=w2;generalize mx.map (af A)=w3;simp only[af,e];generalize A.t x=u at k ⊢;cases u with
  |view n q=>simp only[dl (x:=.ptr n q) (by simpa[I.only] using k)]
  |_=>rfl
 ·rename_i x;simp only[v6] at hm;subst hm;have e:=h x (by simp[bz.cC,aF.sl]);have k:=hx x (by simp);simp only[aZ,af,e];generalize A.t x=u at k ⊢;cases u with
  |view n q=>simp only[dl (x:=.ptr n q) (by simpa[I.only] using k)]
  |_=>rfl
 ·rename_i ty z ok x kk;simp only[v6] at hm;subst hm;have e:=h x (by simp[bz.cC,aF.sl]);have ek:=cJ (x:=kk) (fun m hm=>h m (by simp[bz.cC,hm]));have k:=hx x (by simp);simp only[aZ,ek];generalize af A kk=w;simp only[af,e,Zh ho k]
 ·rename_i x;simp only[v6] at hm;subst hm;have e:=h x (by simp[bz.cC,aF.sl]);have k:=hx x (by simp);simp only[aZ,af,e];generalize A.t x=u at k ⊢;cases u with
  |own n l=>simp only[cT,ho n (by simpa[I.only] using k)]
  |view n q=>simp only[cT,dl (x:=.ptr n q) (by simpa[I.only] using k)]
  |_=>rfl
 ·rename_i esz ps;split at hm
  case isFalse=>cases hm
  rename_i hall;simp only[v6] at hm;subst hm;have hev:ps.map (af A')=ps.map (af A):=kD h;have hon:I.cB p (ps.map (af A))=true:=C9 fun x hx'=>by
   have h1:=zx3.1 hall x hx';cases x with
   |c _=>cases h1
   |t s=>exact hx s (by simp only[iV,List.mem_flatMap];exact ⟨_,hx',by simp[aF.sl]⟩)
  simp only[aZ,hev,sg ho hon]
 ·rfl
 ·split at hm
  ·rename_i hc;exact j4 hc.1
  ·cases hm
theorem yu{ao:ec}{A:ab}{g:aC}{p:Nat→Bool}(hi:dB ao A)(h:rU ao g p=true):∃ xs,mE g.op=some xs∧∀ s∈xs,(A.t s).only p=true:=by
 unfold rU at h;split at h
 case h_2=>cases h
 rename_i xs hm;refine ⟨xs,hm,fun s hs' =>?_⟩;have h1:=zx3.1 h s hs';split at h1
 case h_2=>cases h1
 rename_i ns hn;exact jn (fun n h2=>zx3.1 h1 n (by simpa using h2)) _ (hi s ns hn)
theorem fB.vZ{A A':ab}{g:aC}{v:I}{xs:List Nat}{p:Nat→Bool}(h:fB g A v)(hm:mE g.op=some xs)(ha:dp A A' g.cC)(hx:∀ s∈xs,(A.t s).only p=true)(ho:∀ n,p n=true→A'.o n=A.o n):fB g A' v:=by
 rcases h with ⟨h,rfl⟩ | ⟨h,k⟩
 ·exact .inl ⟨oY ha h,rfl⟩
 ·exact .inr ⟨mN ha h,by rw[aaP hm (aC.jo ha) hx ho];exact k⟩
theorem fB.sG{ao:ec}{A:ab}{g:aC}{v:I}(hi:dB ao A)(hg:iw ao g=true)(h:fB g A v):dB ao (A.aP g.dst v):=by
 rcases h with ⟨_,rfl⟩ | ⟨_,k⟩
 ·exact hi.put (fun _=>rfl) fun _ _ _ _=>rfl
 ·exact hi.put (fun _=>rfl) (CY hi hg k)
theorem fB.cE{A A':ab}{g:aC}{v:I}(h:fB g A v)(hu:dq A A')(ha:dp A A' g.cC):fB g A' v:=by
 rcases h with ⟨h,rfl⟩ | ⟨h,k⟩
 ·exact .inl ⟨oY ha h,rfl⟩
 ·exact .inr ⟨mN ha h,Dp hu (aC.jo ha) k⟩
theorem B5{ao:ec}{g h:aC}(hi:nm hs ao g h=true):iE g.op=true∧nE hs ao g h=true∧(∀ d,g.dst=some d→d∉h.cC)∧(∀ d,g.dst=some d→h.dst≠some d)∧(∀ d,h.dst=some d→d∉g.cC):=by
 simp only[nm,zz0] at hi;obtain ⟨h1,h2,h3,h4⟩:=hi;refine ⟨h1,h2,fun d hd =>?_,fun d hd =>?_,fun d hd =>?_⟩
 ·rw[hd] at h3;simp at h3;exact h3.1
 ·rw[hd] at h3;simp at h3;exact h3.2
 ·rw[hd] at h4;simpa using h4
theorem yB{aE:Bool}{A A':ab}{ρ:List (Nat×Nat)}{os:List (Nat×ai)}(hu:dq A A'):∀ {xs cs:List I},gi aE A ρ os xs cs→gi aE A' ρ os xs cs
 | [],[],_=>trivial
 |x::xs,c::cs,h=>⟨h.1.imp id fun h=>Ba hu h,yB hu h.2⟩
 | [],_::_,h=>h.elim
 |_::_,[],h=>h.elim
theorem Zp{A:ab}{d:Option Nat}{v:I}{ts:List (Nat×I)}{os:List (Nat×ai)}(h:A.aP d v=al ts os):∃ ts2,A=al ts2 os∧∀ X:List (Nat×ai),(al ts2 X).aP d v=al ts X:=by
 cases d with
 |none=>exact ⟨ts,h,fun _=>rfl⟩
 |some d =>
  have ht:∀ k,(A.aP (some d) v).t k=cw ts k:=fun k=>by rw[h];rfl
  have ho:A.o=aG os:=by
   have:(A.aP (some d) v).o=aG os:=by rw[h];rfl
   rwa [gF] at this
  refine ⟨(d,A.t d)::ts,?_,fun X =>?_⟩
  ·cases A with
   |mk t o =>
    simp only[al,ab.mk.injEq];refine ⟨funext fun k =>?_,ho⟩;have:=ht k;simp only[ab.aP,ab.put] at this;simp only[cw];by_cases hk:k=d
    ·subst hk;simp
    ·rw[if_neg hk] at this;have hk':¬ d=k:=fun e=>hk e.symm;simp only[hk,if_false];exact this
  ·simp only[ab.aP,ab.put,al,ab.mk.injEq,and_true]
   funext k
   have:=ht k;simp only[ab.aP,ab.put] at this;by_cases hk:k=d
   ·subst hk;simp at this ⊢;exact this
   ·have hk':¬ d=k:=fun e=>hk e.symm;simp only[cw,hk,if_false]
theorem aaK{ρ:List (Nat×Nat)}{os0 os':List (Nat×ai)}{r:I}(hb:dj false ρ [] os0 r os'){n:Nat}{x:ai}(hx:aG os0 n=some x):aG (cD ρ os'++os0) n=some x:=by
 rw[oU];cases hp:pre ρ os' n with
 |none=>exact hx
 |some m =>
  obtain ⟨h1,h2⟩:=kd hp;have:=(hb.mG m h1 (by simp[aw,aG])).1;rw[h2,hx] at this;cases this
theorem bR.JP{A B:ab}{j:aC}{v:I}{f:FuncId}{args:List aF}{dst:Option Nat}{rest:List aC}(hj:iE j.op=true)(hv:fB j A v)(hB:B=A.aP j.dst v)(hf:hs.contains f=false)(hag:dp A B (iV args))(hd:∀ d,j.dst=some d→dst≠some d)(hr:∀ d,dst=some d→d∉j.cC)
  (h:bR P Y hs K (.call f (args.map (af B)) (bL true B (args.map (af B))) (bL false B (args.map (af B))) dst rest B)):bR P Y hs K (.call f (args.map (af A)) (bL true A (args.map (af A))) (bL false A (args.map (af A))) dst (j::rest) A):=by
 have eo:B.o=A.o:=by rw[hB,gF]
 have cE:dq B A:=fun n x hx=>by rwa [←eo]
 have up':dq A B:=fun n x hx=>by rwa [eo]
 have eav:args.map (af B)=args.map (af A):=kD hag;rw[eav] at h;have cont:∀ r:I,bR P Y hs K (aA rest (B.aP dst r))→bR P Y hs K (aA (j::rest) (A.aP dst r)):=fun r hw=>by
  have h1:fB j (A.aP dst r) v:=hv.cE (fun n x hx=>by rwa [gF]) (lK hr);rw[h1.to hj,pc (fun d hd'=>fun e=>hd d e hd'),←hB];exact hw
 generalize e1:bL true B (args.map (af A))=a1 at h;generalize e2:bL false B (args.map (af A))=a2 at h;generalize hBm:B=B0 at h;cases h with
 |flat r hc hfl hw =>
  subst hBm;rw[kG cE e1];exact .flat r hc hfl (cont r hw)
 |lead r hc hw =>
  subst hBm;rw[kG cE e2];exact .lead r hc (cont r hw)
 |bx ρ cargs post hc hg ha hb hw =>
  rename_i ts os0;rw[hB] at hBm;obtain ⟨ts2,hA,hts⟩:=Zp hBm;have hA':=hA;clear cont;subst hA;refine .bx ρ cargs post hc hg (yB (A:=al ts os0) (A':=al ts2 os0) (fun n x hx=>hx) ha) hb fun r os' hp =>?_;have h1:fB j ((al ts2 (cD ρ os'++os0)).aP dst (r.aR (bo ρ))) v:=hv.cE (fun n x hx=>by
   rw[gF];exact aaK (hb r os' hp) hx) (fun k hk=>by
    have:=lK (A:=al ts2 (cD ρ os'++os0)) (v:=r.aR (bo ρ)) hr k hk;rw[this];rfl)
  rw[h1.to hj,pc (fun d hd'=>fun e=>hd d e hd'),hts];exact hw r os' hp
 |wq aE ρ os cargs post hfs =>
  rw[hf] at hfs;cases hfs
theorem bR.ru{ao:ec}{A:ab}{j g:aC}{rest:List aC}(hinv:dB ao A)(hi:nm hs ao j g=true)(hw:bR P Y hs K (aA (j::g::rest) A)):bR P Y hs K (aA (g::j::rest) A):=by
 obtain ⟨hj,hl,i1,i2,i3⟩:=B5 hi;obtain ⟨v,hv,hw⟩:=bR.xp hj hw;have ag:dp (A.aP j.dst v) A g.cC:=(lK i1).symm;have ag':dp A (A.aP j.dst v) g.cC:=lK i1;have cE:dq (A.aP j.dst v) A:=fun n x hx=>by rwa [gF] at hx
 have up':∀ (d:Option Nat) (u:I),dq A (A.aP d u):=fun d u n x hx=>by rwa [gF]
 by_cases hsg:iE g.op=true
 ·obtain ⟨u,hu,hw⟩:=bR.xp hsg hw;rw[(hu.cE cE ag).to hsg,(hv.cE (up' _ _) (lK i3)).to hj,←pc i2];exact hw
 ·-- the guard
  have guard:(fO (A.aP j.dst v) g∧aA (g::rest) (A.aP j.dst v)=aA rest ((A.aP j.dst v).aP g.dst .undef))∨(pass (A.aP j.dst v) g∧aA (g::rest) (A.aP j.dst v)=aY (A.aP j.dst v) g.dst g.op rest (aA rest))∨aA (g::rest) (A.aP j.dst v)=.fail:=by
   cases hg:g.guard with
   |none=>exact .inr (.inl ⟨by simp only[pass,hg],by simp only[aA,hg]⟩)
   |some tb =>
    obtain ⟨t,b⟩:=tb;cases ht:(A.aP j.dst v).t t with
    |bool b' =>
     by_cases hbb:b'=b
     ·subst hbb;have hp:pass (A.aP j.dst v) g:=by simp only[pass,hg,ht]
      exact .inr (.inl ⟨hp,mY hp⟩)
     ·have hn:fO (A.aP j.dst v) g:=by simp only[fO,hg];exact .inl (by rw[ht,uW hbb])
      exact .inl ⟨hn,rT hn⟩
    |undef =>
     have hn:fO (A.aP j.dst v) g:=by simp only[fO,hg];exact .inr ht
     exact .inl ⟨hn,rT hn⟩
    |_=>exact .inr (.inr (by simp only[aA,hg,ht]))
  rcases guard with ⟨hn,he⟩ | ⟨hp,he⟩ | he
  ·rw[he] at hw;rw[rT (oY ag hn),(hv.cE (up' _ _) (lK i3)).to hj,←pc i2];exact hw
  ·rw[he] at hw;rw[mY (mN ag hp)];obtain ⟨dst,op,gd⟩:=g;simp only at hw hsg i2 i3 ⊢;cases op with
   |alloc z =>
    cases dst with
    |none=>simp only[aY] at hw;cases hw
    |some d =>
    simp only[aY] at hw ⊢;split at hw
    case h_2=>cases hw
    rename_i ho;rw[gF] at ho;simp only[ho];have h1:fB j ((A.aN d (.box z)).put d (.ptr d [])) v:=hv.cE (fun n y hy=>by
     have:n≠d:=fun he=>by rw[he,ho] at hy;cases hy
     simp only[ab.put,ab.aN,this,if_false];exact hy) (fun k hk=>by
     have:k≠d:=fun he=>i3 d rfl (he▸hk);simp only[ab.put,ab.aN,this,if_false])
    rw[h1.to hj];have e:((A.aP j.dst v).aN d (.box z)).put d (.ptr d [])=((A.aN d (.box z)).put d (.ptr d [])).aP j.dst v:=by
     cases hgd:j.dst with
     |none=>rfl
     |some e =>
      have hne:e≠d:=fun he=>i2 e hgd (by rw[he]);simp only[ab.aP,ab.put,ab.aN,ab.mk.injEq,and_true]
      funext k
      by_cases h1:k=e <;>by_cases h2:k=d <;>simp_all
    rw[←e];exact hw
   |box x =>
    have ex:af (A.aP j.dst v) x=af A x:=cJ (aC.jo ag');cases dst with
    |none=>simp only[aY] at hw;cases hw
    |some d =>
    simp only[aY] at hw ⊢;split at hw
    case h_2=>cases hw
    rename_i ho;rw[gF] at ho;simp only[ho];rw[ex] at hw;split at hw
    case isFalse=>cases hw
    rename_i hval;rw[if_pos hval];have h1:fB j ((A.aN d (.box (af A x))).put d (.ptr d [])) v:=hv.cE (fun n y hy=>by
     have:n≠d:=fun he=>by rw[he,ho] at hy;cases hy
     simp only[ab.put,ab.aN,this,if_false];exact hy) (fun k hk=>by
     have:k≠d:=fun he=>i3 d rfl (he▸hk);simp only[ab.put,ab.aN,this,if_false])
    rw[h1.to hj];have e:((A.aP j.dst v).aN d (.box (af A x))).put d (.ptr d [])=((A.aN d (.box (af A x))).put d (.ptr d [])).aP j.dst v:=by
     cases hgd:j.dst with
     |none=>rfl
     |some e =>
      have hne:e≠d:=fun he=>i2 e hgd (by rw[he]);simp only[ab.aP,ab.put,ab.aN,ab.mk.injEq,and_true]
      funext k
      by_cases h1:k=e <;>by_cases h2:k=d <;>simp_all
    rw[←e];exact hw
   |eT x =>
    have ex:af (A.aP j.dst v) x=af A x:=cJ (aC.jo ag');simp only[aY] at hw ⊢;rw[ex] at hw;cases hse:lT (af A x) with
    |none=>rw[hse] at hw;simp only[iB] at hw;cases hw
    |some ys =>
    rw[hse] at hw;cases dst with
    |none=>simp only[iB] at hw;cases hw
    |some d =>
    simp only[iB] at hw ⊢;rw[gF] at hw;split at hw
    case h_2=>cases hw
    rename_i ho;refine .any fun m hm =>?_;have hw:=hw.rS m hm;generalize hbx:ai.box (.agg (ys++List.replicate m (.int .u8 0)))=aE at hw ⊢;generalize hvw:I.view d [] 1 0 ys.length=vw at hw ⊢;have h1:fB j ((A.aN d aE).aP (some d) vw) v:=hv.cE (fun n y hy=>by
     have:n≠d:=fun he=>by rw[he,ho] at hy;cases hy
     simp only[ab.aP,ab.put,ab.aN,this,if_false];exact hy) (fun k hk=>by
     have:k≠d:=fun he=>i3 d rfl (he▸hk);simp only[ab.aP,ab.put,ab.aN,this,if_false])
    rw[h1.to hj];have e:((A.aP j.dst v).aN d aE).aP (some d) vw=((A.aN d aE).aP (some d) vw).aP j.dst v:=by
     cases hgd:j.dst with
     |none=>rfl
     |some e =>
      have hne:e≠d:=fun he=>i2 e hgd (by rw[he]);simp only[ab.aP,ab.put,ab.aN,ab.mk.injEq,and_true]
      funext k
      by_cases h1:k=e <;>by_cases h2:k=d <;>simp_all
    rw[←e];exact hw
   |call f args =>
    simp only[aY] at hw ⊢;refine bR.JP hj hv rfl (by simpa[nE,oT] using hl) (aC.jo ag') i2 i3 hw
   |aS s y u =>
    cases dst with
    |some d=>simp only[aY] at hw;cases hw
    |none =>
    have ey:af (A.aP j.dst v) y=af A y:=cJ (aC.jo ag').l;have eu:af (A.aP j.dst v) u=af A u:=cJ (aC.jo ag').r;simp only[aY] at hw ⊢;rw[ey,eu,gF] at hw;cases hx:af A y <;>simp only[hx] at hw ⊢ <;>try (cases hw;done)
    rename_i n q;cases ho:A.o n with
    |none=>rw[ho] at hw;cases hw
    |some ob =>
    rw[ho] at hw;cases ob <;>simp only at hw ⊢ <;>try (cases hw;done)
    rename_i b;cases hb:b.at q with
    |none=>rw[hb] at hw;cases hw
    |some old =>
    rw[hb] at hw;simp only at hw ⊢;split at hw
    case isFalse=>cases hw
    rename_i hok;rw[if_pos hok];have h1:fB j (A.aN n (.box (b.dm q (af A u)))) v:=by
     have none0:mE j.op=some []→fB j (A.aN n (.box (b.dm q (af A u)))) v:=fun hm=>hv.vZ (p:=fun _=>false) hm (fun _ _=>rfl) (fun s hs'=>by cases hs') (fun m hm=>by cases hm);cases y with
     |c y =>
      simp only[nE,oT,iE,Bool.false_or] at hl;split at hl
      ·rename_i hm;exact none0 hm
      ·cases hl
     |t y =>
      simp only[nE,oT,iE,Bool.false_or] at hl;split at hl
      ·rename_i hm;exact none0 hm
      ·split at hl
       case h_2=>cases hl
       rename_i ms hms;obtain ⟨xs,hm,hx2⟩:=yu hinv hl;refine hv.vZ hm (fun _ _=>rfl) hx2 fun m hm2 =>?_;have hn:=hinv y ms hms;simp only[af] at hx;rw[hx] at hn;have:m≠n:=fun e=>by subst e;simp[I.only] at hn hm2;exact hm2 hn
       simp only[ab.aN,if_neg this]
    rw[h1.to hj];have e:(A.aP j.dst v).aN n (.box (b.dm q (af A u)))=(A.aN n (.box (b.dm q (af A u)))).aP j.dst v:=by cases j.dst <;>rfl
    rw[←e];exact hw
   |du e esz bytes z s x =>
    have hag:dp A (A.aP j.dst v) (s.sl++x.sl):=aC.jo ag';have he2:aY (A.aP j.dst v) dst (.du e esz bytes z s x) rest (aA rest)=aY A dst (.du e esz bytes z s x) (j::rest) fun B=>aA rest (B.aP j.dst v):=by
     cases hjd:j.dst with
     |none=>rfl
     |some d =>
      rw[hjd] at hag;exact HG (fun e=>i2 d hjd e) hag rest (j::rest) (aA rest)
    rw[he2] at hw;have gS:∀ B,rH A dst (af A s) B→aA (j::rest) B=aA rest (B.aP j.dst v):=fun B hB=>by
     have hagB:dp A B j.cC:=fun k hk=>hB.1 k fun e=>i3 k e hk;have:fB j B v:=by
      simp only[nE,oT,iE,Bool.false_or,Bool.or_eq_true] at hl;rcases hl with hl | hl
      ·obtain ⟨xs,hm,hx2⟩:=yu hinv hl;exact hv.vZ hm hagB hx2 fun m hm2=>by cases hm2
      ·have:=nX hinv hl;exact hv.cE (hB.2 (by simpa using this)) hagB
     rw[this.to hj]
    rcases yz A dst e esz bytes z s x (j::rest) with h1 | ⟨B,h1,h2⟩ | ⟨p,bj,h1,h2⟩
    ·rw[h1] at hw;cases hw
    ·rw[h1] at hw ⊢;rw[gS B h2];exact hw
    ·rw[h1] at hw ⊢;exact .any fun m hm=>by rw[gS _ (h2 m)];exact hw.rS m hm
   |_=>first | exact absurd rfl hsg | (simp[nE,oT,iE] at hl)
  ·rw[he] at hw;cases hw
theorem bR.pS{ao:ec}{g:aC} : ∀ {l:List aC} {r:List aC} {A:ab},dB ao A→(∀ j∈l,nm hs ao j g=true∧iw ao j=true)→bR P Y hs K (aA (l++g::r) A)→bR P Y hs K (aA (g::(l++r)) A)
 | [],r,A,_,_,h=>h
 |j::l,r,A,hinv,hi,h=>by
  have hj:=(B5 (hi j (by simp)).1).1;obtain ⟨v,hv,h2⟩:=bR.xp (g:=j) (rest:=l++g::r) hj h;have h3:=bR.pS (l:=l) (r:=r) (hv.sG hinv (hi j (by simp)).2) (fun k hk=>hi k (by simp[hk])) h2;refine bR.ru hinv (hi j (by simp)).1 ?_;rw[hv.to hj];exact h3
end
def tj:List Nat→Bool
 | []=>true
 |a::l => !l.contains a&&tj l
def rN(hs:List FuncId)(ao:ec)(gs:List aC)(cl:List Nat):List Nat→List Nat→Bool
 |_,[]=>true
 |before,i::σ=>(before.all fun j=>(cl.getD i 0).testBit j||nm hs ao (gs.getD j default) (gs.getD i default))&&rN hs ao gs cl (i::before) σ
def tC(hs:List FuncId)(ao:ec)(on:List (List Nat))(gs:List aC)(cl:List Nat)(σ:List Nat):Bool :=
 (Nat.beq σ.length gs.length&&(tj σ&&(σ.all (fun i=>decide (i<gs.length))&&((List.range gs.length).all (fun i=>σ.contains i)&&gs.all fun g=>tv g.op&&iw ao g))))&&(rN hs ao gs cl [] σ&&(List.range gs.length).all fun i=>(on.getD i []).all (fun k=>decide (k<i))&&Nat.beq (cl.getD i 0) (nY cl (on.getD i [])))
theorem CM:∀ {l:List Nat},tj l=true→l.Nodup
 | [],_=>List.nodup_nil
 |a::l,h=>by
  simp only[tj,zz0,Bool.not_eq_true',List.contains_eq_mem,decide_eq_false_iff_not] at h;exact List.nodup_cons.2 ⟨h.1,CM h.2⟩
theorem yp{hs:List FuncId}{ao:ec}{gs:List aC}{cl:List Nat} : ∀ {σ before:List Nat},rN hs ao gs cl before σ=true→∀ s1 i s2,σ=s1++i::s2→∀ j,j∈before∨j∈s1→(cl.getD i 0).testBit j=true∨nm hs ao (gs.getD j default) (gs.getD i default)=true
 | [],_,_,s1,i,s2,e,_,_=>by cases s1 <;>cases e
 |a::σ,before,h,s1,i,s2,e,j,hj=>by
  simp only[rN,zz0,zx3,Bool.or_eq_true] at h;cases s1 with
  |nil =>
   simp only[zy4,zy6] at e;obtain ⟨rfl,rfl⟩:=e;rcases hj with hj | hj
   ·exact h.1 j hj
   ·cases hj
  |cons b s1 =>
   simp only[zy2,zy6] at e;obtain ⟨rfl,rfl⟩:=e;refine yp h.2 s1 i s2 rfl j ?_;rcases hj with hj | hj
   ·exact .inl (List.mem_cons_of_mem _ hj)
   ·rcases zw5.1 hj with hj | hj
    ·exact .inl (by rw[hj];exact List.mem_cons_self)
    ·exact .inr hj
def iA(σ:List Nat)(listed:Array Bool):List Nat:=σ.filter fun i => !listed.getD i true
def nH(gs:List aC)(σ:List Nat)(listed:Array Bool):List aC:=(iA σ listed).map fun i=>gs.getD i default
theorem abe{σ:List Nat}{listed:Array Bool}{i:Nat}(hn:σ.Nodup)(hi:i∈σ)(hl:i<listed.size)(hu:listed.getD i true=false):∃ s1 s2,σ=s1++i::s2∧iA σ listed=(s1.filter fun j => !listed.getD j true)++i::(s2.filter fun j => !listed.getD j true) ∧
  iA σ (listed.setIfInBounds i true)=(s1.filter fun j => !listed.getD j true)++(s2.filter fun j => !listed.getD j true):=by
 obtain ⟨s1,s2,rfl⟩:=List.append_of_mem hi;have same:∀ j,j≠i→(listed.setIfInBounds i true).getD j true=listed.getD j true:=fun j hj=>getD_set_ne true (Ne.symm hj);have jg:(listed.setIfInBounds i true).getD i true=true:=by simp[hl]
 have hnd:=List.nodup_append.1 hn;have h1:∀ j∈s1,j≠i:=fun j hj=>hnd.2.2 j hj i List.mem_cons_self;have h2:∀ j∈s2,j≠i:=fun j hj e=>(List.nodup_cons.1 hnd.2.1).1 (e▸hj);refine ⟨s1,s2,rfl,?_,?_⟩
 ·simp only[iA,List.filter_append,List.filter_cons,hu,Bool.not_false,if_true]
 ·simp only[iA,List.filter_append,List.filter_cons,jg,Bool.not_true,zz4,if_false]
  congr 1
  ·exact List.filter_congr fun j hj=>by rw[same j (h1 j hj)]
  ·exact List.filter_congr fun j hj=>by rw[same j (h2 j hj)]
structure yj (hs:List FuncId) (ao:ec) (l:List Oper) (gs:List aC) (σ:List Nat):Prop where
 ZA:σ.Nodup
 lt:∀ i∈σ,i<gs.length
 all:∀ i,i<gs.length→i∈σ
 ok:∀ g∈gs,tv g.op=true∧iw ao g=true
 len:σ.length=gs.length
 ln:∀ i o,l[i]?=some o→∀ k∈dJ o,k<i
 vQ:∀ (S:Nat→Prop),(∀ i o,l[i]?=some o→S i→∀ k∈dJ o,S k)→∀ s1 i s2 o,σ=s1++i::s2→l[i]?=some o→(∀ k∈dJ o,S k)→∀ j∈s1,¬ S j→nm hs ao (gs.getD j default) (gs.getD i default)=true
theorem aaG{hs:List FuncId}{ao:ec}{l:List Oper}{gs:List aC}{cl σ:List Nat}(hlen:gs.length=l.length)(h:tC hs ao (l.map dJ) gs cl σ=true):yj hs ao l gs σ:=by
 simp only[tC,zz0,zx3,decide_eq_true_eq,List.mem_range,List.contains_eq_mem] at h;obtain ⟨⟨h1,h2,h3,h4,h5⟩,h6,h7⟩:=h;have aV:∀ i o,l[i]?=some o→(∀ k∈dJ o,k<i)∧(∀ j,(cl.getD i 0).testBit j=true→j∈dJ o∨∃ k∈dJ o,(cl.getD k 0).testBit j=true):=by
  intro i o ho;have hi:i<l.length:=(zz9.1 ho).1;have h8:=h7 i (by omega);have hon:(l.map dJ).getD i []=dJ o:=by simp[zz6,ho]
  rw[hon] at h8;have hb:=Nat.eq_of_beq_eq_true h8.2;exact ⟨h8.1,fun j hj=>xI (by rw[←hb];exact hj)⟩
 refine ⟨CM h2,h3,h4,h5,Nat.eq_of_beq_eq_true h1,fun i o ho=>(aV i o ho).1,?_⟩;intro S hS s1 i s2 o e ho hon j hj hnj;have key:∀ n i o,i≤n→l[i]?=some o→(∀ k∈dJ o,S k)→∀ j,(cl.getD i 0).testBit j=true→S j:=by
  intro n
  induction n with
  |zero =>
   intro i o hi ho hon j hj;obtain ⟨h8,h9⟩:=aV i o ho;rcases h9 j hj with h | ⟨k,hk,_⟩
   ·exact hon j h
   ·have:=h8 k hk;omega
  |succ n ih =>
   intro i o hi ho hon j hj;obtain ⟨h8,h9⟩:=aV i o ho;rcases h9 j hj with h | ⟨k,hk,hjk⟩
   ·exact hon j h
   ·have hki:=h8 k hk;have hkl:k<l.length:=Nat.lt_trans hki (zz9.1 ho).1;obtain ⟨ok,hok⟩:∃ ok,l[k]?=some ok:=⟨l[k],zz5 hkl⟩
    exact ih k ok (by omega) hok (hS k ok hok (hon k hk)) j hjk
 rcases yp h6 s1 i s2 e j (.inr hj) with h | h
 ·exact absurd (key i i o (zz8 _) ho hon j h) hnj
 ·exact h
section
variable {c:ct}
theorem Xo{K:ab→Prop}{hs:List FuncId}{ao:ec}{bl:Array Oper}{Q:Exit→Act→World→Prop}{o:Oper}{g:aC}{rest:List aC}{A:ab}{a:Act}{w:World}{Kw:Act→World→Prop}(hg:lq c.P c.n bl o=some g)(hi:dB ao A)(ho:tv g.op=true∧iw ao g=true)(hwp:bR c.P c.Y hs K (aA (g::rest) A))(hs':bG c A a w)
  (hK:∀ B a' w',bR c.P c.Y hs K (aA rest B)→dB ao B→bG c B a' w'→Kw a' w'):if Region.wanted o (yielded bl a.tmps) then o.wpIn c.bj 9 c.P a w Kw Q else (∀ f,o.about c.P w a.eval=some f→c.bj.fn f)∧Kw (a.put o.dst undef) w:=by
 obtain ⟨h1,h2,h3,h4⟩:=ou hg;have step:bR c.P c.Y hs K (aY A g.dst g.op rest (aA rest))→o.wpIn c.bj 9 c.P a w Kw Q:=fun h =>
  sw h1 h2.symm (by rw[h2];exact h3) (bR.one (Y:=c.Y) hi ho.1 ho.2 h) hs' (fun B a' w' hw hs2=>by
   cases hw with
   |done hk=>exact hK B a' w' hk.1 hk.2 hs2)
 simp only[aA] at hwp;rcases h4 with ⟨h5,h6⟩ | ⟨j,b,t,h5,h6,h7⟩
 ·rw[h6] at hwp;have hw:Region.wanted o (yielded bl a.tmps)=true:=by simp[Region.wanted,h5]
  rw[hw,if_pos rfl];exact step hwp
 ·rw[h7] at hwp;simp only at hwp;split at hwp
  ·rename_i b' hb';rw[sD hs' h5 h6 hb'];split at hwp
   ·rename_i hbb;subst hbb;simp only[BEq.rfl,if_true];exact step hwp
   ·rename_i hbb;have:(b'==b)=false:=by simpa using hbb
    rw[this];simp only[zz4,if_false];exact ⟨fun f _=>lC c f,hK _ _ _ hwp (hi.put (fun _=>rfl) fun _ _ _ _=>rfl) (by rw[h2];exact hs'.mP h3)⟩
  ·rename_i hb';rw[sE hs' h5 h6 hb'];simp only[zz4,if_false];exact ⟨fun f _=>lC c f,hK _ _ _ hwp (hi.put (fun _=>rfl) fun _ _ _ _=>rfl) (by rw[h2];exact hs'.mP h3)⟩
  ·cases hwp
theorem Hv{K:ab→Prop}{fs:List FuncId}{ao:ec}{bl:Array Oper}{gs:List aC}{σ:List Nat}{Q:Exit→Act→World→Prop}(hQ:∀ B a w,K B→bG c B a w→Q .normal a w)(hgs:fC c.P c.n bl bl.toList=some gs)(hd:yj fs ao bl.toList gs σ) :
  ∀ (fuel:Nat) (listed:Array Bool) (A:ab) (a:Act) (w:World),listed.size=bl.size→(∀ i o,bl.toList[i]?=some o→listed.getD i false=true→∀ k∈dJ o,listed.getD k false=true)→(iA σ listed).length≤fuel →
   dB ao A→bR c.P c.Y fs K (aA (nH gs σ listed) A)→bG c A a w→wpAnyIn c.bj 9 c.P .any bl Q fuel listed a w:=by
 obtain ⟨hlen,hat⟩:=ml hgs;have onOf_mem:∀ (o:Oper) (e:Edge),e∈o.after→Region.binds .any e=true→e.on∈dJ o:=fun o e he hb=>by
  simp only[dJ,zx1,List.mem_filter];exact ⟨e,⟨by simpa using he,hb⟩,rfl⟩
 have of_onOf:∀ (o:Oper) (k:Nat),k∈dJ o→∃ e∈o.after,Region.binds .any e=true∧e.on=k:=fun o k hk=>by
  simp only[dJ,zx1,List.mem_filter] at hk;obtain ⟨e,⟨h1,h2⟩,h3⟩:=hk;exact ⟨e,by simpa using h1,h2,h3⟩
 have hgl:gs.length=bl.size:=by rw[hlen,zx6]
 have last:∀ (listed:Array Bool) (A:ab) (a:Act) (w:World),listed.size=bl.size→Region.ready .any bl listed=[]→bR c.P c.Y fs K (aA (nH gs σ listed) A)→bG c A a w→Q .normal a w:=by
  intro listed A a w hsz hr hwp hs;have hnone:iA σ listed=[]:=by
   have all:∀ n,∀ i,i<n→i<bl.size→listed.getD i true=true:=by
    intro n
    induction n with
    |zero=>intro i hi;omega
    |succ n ih =>
     intro i hi his;cases hb:listed.getD i true with
     |true=>rfl
     |false =>
      exfalso
      have ho:bl[i]?=some bl[i]:=Array.getElem?_eq_getElem his;have:i∈Region.ready .any bl listed:=mem_ready.2 ⟨hb,bl[i],ho,fun e he hbd=>by
       have hlt:=hd.ln i bl[i] (by simp) e.on (onOf_mem _ e he hbd);have h1:=ih e.on (by omega) (by omega);have h2:e.on<listed.size:=by omega
       simpa[Array.getD_eq_getD_getElem?,h2] using h1⟩
      rw[hr] at this;cases this
   simp only[iA];refine List.filter_eq_nil_iff.2 fun i hi =>?_;have:=all (i+1) i (by omega) (by rw[←hgl];exact hd.lt i hi);simp only[this,Bool.not_true,zz4,not_false_eq_true]
  simp only[nH,hnone,zy9,aA] at hwp;cases hwp with
  |done hk=>exact hQ A a w hk hs
 intro fuel
 induction fuel with
 |zero =>
  intro listed A a w hsz hcl hcnt hinv hwp hs;have hnone:iA σ listed=[]:=List.length_eq_zero_iff.1 (by omega);have hr:Region.ready .any bl listed=[]:=by
   refine List.eq_nil_iff_forall_not_mem.2 fun i hi =>?_;obtain ⟨h1,o,ho,_⟩:=mem_ready.1 hi;have:i∈iA σ listed:=by
    simp only[iA,List.mem_filter,h1,Bool.not_false,and_true];exact hd.all i (by rw[hgl];exact (zy5.1 ho).1)
   rw[hnone] at this;cases this
  exact ⟨hr,last listed A a w hsz hr hwp hs⟩
 |succ fuel ih =>
  intro listed A a w hsz hcl hcnt hinv hwp hs;refine ⟨fun hr=>last listed A a w hsz hr hwp hs,fun i hi =>?_⟩;obtain ⟨hun,o,ho,hall⟩:=mem_ready.1 hi;have hin:i<bl.size:=(zy5.1 ho).1;obtain ⟨s1,s2,hσ,e1,e2⟩:=abe hd.ZA (hd.all i (by omega)) (by omega) hun;have hol:bl.toList[i]?=some o:=by simpa using ho
  obtain ⟨g,hgi,hcg⟩:=hat i o hol;have hon:∀ k∈dJ o,listed.getD k false=true:=fun k hk=>by
   obtain ⟨e,h1,h2,h3⟩:=of_onOf o k hk;exact h3▸hall e h1 h2
  have hgd:gs.getD i default=g:=by simp[zz6,hgi]
  have hwp':bR c.P c.Y fs K (aA (g::nH gs σ (listed.setIfInBounds i true)) A):=by
   simp only[nH,e1,zx4,zz7,hgd] at hwp;simp only[nH,e2,zx4];refine bR.pS hinv (fun j hj =>?_) hwp;obtain ⟨k,hk,rfl⟩:=zx1.1 hj;obtain ⟨hk1,hk2⟩:=List.mem_filter.1 hk;have:=hd.vQ (fun k=>listed.getD k false=true) hcl s1 i s2 o hσ hol hon k hk1 (by
    have hks:k<listed.size:=by
     have:=hd.lt k (by rw[hσ];exact List.mem_append_left _ hk1);omega
    simp[Array.getD_eq_getD_getElem?,hks] at hk2 ⊢;exact hk2)
   rw[hgd] at this;refine ⟨this,(hd.ok _ ?_).2⟩;have hkl:=hd.lt k (by rw[hσ];exact List.mem_append_left _ hk1);rw[zz6,zz5 hkl];exact zw3 _
  unfold wpOpIn;rw[ho];refine Xo hcg hinv (hd.ok g (List.mem_of_getElem? hgi)) hwp' hs fun B a' w' hw hiB hs'=>ih _ B a' w' (by simpa using hsz) ?_ ?_ hiB hw hs'
  ·intro m om hom hm k hk;by_cases hmi:m=i
   ·subst hmi;rw[hol,v6] at hom;subst hom;exact getD_set_true (hon k hk)
   ·rw[getD_set_ne false (Ne.symm hmi)] at hm;exact getD_set_true (hcl m om hom hm k hk)
  ·have:(iA σ listed).length=(iA σ (listed.setIfInBounds i true)).length+1:=by
    rw[e1,e2];simp;omega
   omega
def kc(σ:List Nat)(gs:List aC):List aC:=σ.map fun i=>gs.getD i default
theorem U.abb{Q:Exit→ab→Prop}{A:ab}{on:List (List Nat)}{gs:List aC}(hs:List FuncId)(ao:ec)(cl σ:List Nat)(hd:tC hs ao on gs cl σ=true)(hi:dB ao A)(h:∀ K:ab→Prop,(∀ B,Q .normal B→K B)→bR c.P c.Y hs K (aA (kc σ gs) A)):U c (.bW (some on) gs) Q A:=by
 intro code hc a w hs';cases code <;>simp only[dG] at hc <;>try (first | (cases hc;done) | ((repeat' split at hc) <;>cases hc;done))
 rename_i id bl draw;split at hc
 ·rename_i gs' hgs;split at hc
  case isFalse=>cases hc
  rename_i hok;simp only[v6,bh.bW.injEq] at hc;obtain ⟨he,rfl⟩:=hc;cases draw with
  |false=>cases he
  |true =>
   simp only[cond_true,v6] at he;subst he;simp only[Bool.not_true,Bool.false_or] at hok;have hp:=aaG (ml hgs).1 hd;refine wpIn_region_any hok (Hv (K:=Q .normal) (fun B a w hk hs=>⟨B,hk,hs⟩) hgs hp bl.size (Array.replicate bl.size false) A a _ (by simp) ?_ ?_ hi ?_ ?_)
   ·intro i o _ h
    exfalso
    simp only[Array.getD_eq_getD_getElem?,Array.getElem?_replicate] at h;split at h <;>simp at h
   ·refine Nat.le_trans (List.length_filter_le _ _) ?_;rw[hp.len,(ml hgs).1,zx6];exact zz8 _
   ·have hall:iA σ (Array.replicate bl.size false)=σ:=by
     simp only[iA];refine List.filter_eq_self.2 fun i hi =>?_;have h1:=hp.lt i hi;rw[(ml hgs).1,zx6] at h1;simp[h1]
    simp only[nH,hall];exact h _ fun _ hb=>hb
   ·obtain ⟨D,E,hs'⟩:=hs';exact ⟨D,E,hs'.grow (w' := { w with drawn:=w.drawn+1 }) ⟨rfl,rfl,rfl,zz8 _,fun _ _=>rfl⟩ (fun _ _ h=>h) (fun _ _ h _=>h) (fun b o h=>hs'.cQ b o h)⟩
 ·cases hc
def jE(ts:List (Nat×I)):ec→Prop
 | []=>True
 |(s,ns)::ao=>(cw ts s).only (fun n=>ns.contains n)=true∧jE ts ao
theorem dB.of{ts:List (Nat×I)}{os:List (Nat×ai)}{ao:ec}(h:jE ts ao):dB ao (al ts os):=by
 intro s ns hn;simp only[al]
 induction ao with
 |nil=>cases hn
 |cons q ao ih =>
  obtain ⟨s',ns'⟩:=q;simp only[jE] at h;simp only[gT,List.find?_cons] at hn;split at hn
  ·rename_i e;simp only[zy1,v6] at hn;simp only[beq_iff_eq] at e;subst e hn;exact h.1
  ·exact ih h.2 hn
end
end Go.Abs
namespace Go.Abs
open Go Go.RowKit
open Enc (enc)
theorem abH{P:Program}(w:World)(tS tR e:TypeId)(ht:P.underlying tS=some (.slice e))(size:Nat)(hz:∀ w,(Go.sizeOf e).run P w=.ok size w)
  (a b:Addr) (la ca lb cb:Nat) (hne:a.block≠b.block) (tA tB:TypeId) (kA kB:Nat) (hsa:w.shape? a.block=some (tA,kA+1)) (hsb:w.shape? b.block=some (tB,kB+1)) (hfb:w.frozen? b=false) (hfe:w.frozen? { block:=b.block,off:=kB+1 } = false) :
  (Extern.SlicesOverlaps.overlaps #[tS,tS] #[tR] #[.slice (some a) la ca,.slice (some b) lb cb]).run P w=.ok (.bool false) w:=by
 have hnb:(a.block != b.block)=true:=by simpa using hne
 have hnb':(a.block==b.block)=false:=by simpa using hne
 change Sem.run P (α:=Value) (do
  let some t := (#[tS, tS] : Array TypeId)[0]? | stuck "slices.overlaps: no parameter types"
  let .slice elem ← underlying t | stuck "slices.overlaps: slice type expected"
  let size ←sizeOf elem
  match (some a:Option Addr),(some b:Option Addr) with
  |some a,some b =>
   if la=0∨lb=0∨size=0 then pure (Value.bool false)
   else if a.block != b.block&&(←frozen a)&&(←frozen b) then unsupported .addressObserved
   else do
    if a.block != b.block then do
     noView a;noView b
     if ← mayBeOne a b then return Value.bool ((← choose (.extern "sameAddr.stringBytes" 2)) == 1)
    pure (Value.bool (a.block==b.block&&a.off<b.off+lb*size&&b.off<a.off+la*size))
  |_,_=>pure (Value.bool false)) w=_
 by_cases h0:la=0∨lb=0∨size=0
 ·simp[run_underlying ht,hz,h0]
 ·cases hfa:w.frozen? a <;>cases hfk:w.frozen? { block:=a.block,off:=kA+1 } <;>
   simp[run_underlying ht,hz,h0,hnb,hnb',frozen,noView,viewAt,mayBeOne,stringish,shape,Sem.run,hsa,hsb,hfa,hfb,hfe,hfk]
theorem Ff{P:Program}(w:World)(tS tR e:TypeId)(ht:P.underlying tS=some (.slice e))(size:Nat)(hz:∀ w,(Go.sizeOf e).run P w=.ok size w)(a:Option Addr)(b:Addr)(ca lb cb:Nat) :
  (Extern.SlicesOverlaps.overlaps #[tS,tS] #[tR] #[.slice a 0 ca,.slice (some b) lb cb]).run P w=.ok (.bool false) w:=by
 cases a with
 |none =>
  change Sem.run P (α:=Value) (do
   let some t := (#[tS, tS] : Array TypeId)[0]? | stuck "slices.overlaps: no parameter types"
   let .slice elem ← underlying t | stuck "slices.overlaps: slice type expected"
   let size ←sizeOf elem
   pure (Value.bool false)) w=_
  simp[run_underlying ht,hz]
 |some a =>
  change Sem.run P (α:=Value) (do
   let some t := (#[tS, tS] : Array TypeId)[0]? | stuck "slices.overlaps: no parameter types"
   let .slice elem ← underlying t | stuck "slices.overlaps: slice type expected"
   let size ←sizeOf elem
   if (0:Nat)=0∨lb=0∨size=0 then pure (Value.bool false)
   else if a.block != b.block&&(←frozen a)&&(←frozen b) then unsupported .addressObserved
   else do
    if a.block != b.block then do
     noView a;noView b
     if ← mayBeOne a b then return Value.bool ((← choose (.extern "sameAddr.stringBytes" 2)) == 1)
    pure (Value.bool (a.block==b.block&&a.off<b.off+lb*size&&b.off<a.off+0*size))) w=_
  simp[run_underlying ht,hz]
theorem abR{w:World}{b o:Nat}{v:Value}(h:w.cell? ⟨b,o,none⟩=some v):∃ t k,w.shape? b=some (t,k+1):=by
 simp only[World.cell?] at h;cases hb:w.heap[b]? with
 |none=>rw[hb] at h;cases h
 |some ob =>
  rw[hb] at h;cases ob with
  |cells cs T fr =>
   simp only at h;have hlt:o<cs.size:=(zy5.1 (by simpa using h)).1;exact ⟨T,cs.size-1,by simp only[World.shape?,hb];congr 2;omega⟩
  |_=>cases h
theorem Oy{α:Type}[Enc α]{xs:List α}(h:xs≠[])(hs:(Enc.aL α).Cc=false):(I.agg (xs.map Enc.enc)).aL.flat=false:=by
 cases xs with
 |nil=>exact absurd rfl h
 |cons x xs=>simp only[zz7,I.aL,I.cI,bY.flat,List.all_cons,Enc.iD,hs,zw6]
theorem acy {P : Program} {f : FuncId} {fn : Func} {tS tR e : TypeId} (hf : P.funcs[f]? = some fn) (hname : (fn.name == "runtime.NumGoroutine") = false) (hb : fn.body.isNone = true) (hn : Extern.findNext fn = none) (he : Extern.find fn = some (Extern.SlicesOverlaps.overlaps #[tS, tS] #[tR]))
  (ht:P.underlying tS=some (.slice e)) (hi:(P.info? e).isSome=true) {A:ab} {n sz sz' lo k:Nat} {p:List Nat} {y:I} {es fs:List I} (hA:A.o n=some (.box y)) (hat:y.at p=some (.agg fs)) (hy:y.size≠0) (hsz:sz'≠0) (hfl:y.aL.flat=false):ym P A f [.slice sz' es,.view n p sz lo k] (.bool false):=by
 intro c a w D E vs hP hs hargs;subst hP;obtain ⟨i,hi⟩:=zy7.1 hi;have hz:∀ w,(Go.sizeOf e).run c.P w=.ok i.size w:=fun w=>by simp[sizeOf,typeInfo,hi]
 cases hargs with
 |cons h1 hrest =>
  cases hrest with
  |cons h2 hnil =>
   cases hnil;rename_i v1 v2;refine ⟨.bool false,?_,kK false⟩;rw[run_callFunc_extern hf hname hb hn he];obtain ⟨ad,cap,rfl,c1,c2,c3,c4⟩:=kT h1;obtain ⟨y',b,cs,T,off,d1,d2,d3,q1,q2,q3,q4,q5,q6,q7,q8,q9,q10,q11,q12,rfl⟩:=hs.view (fs:=fs) h2 (by simp only[b6,hA,hat]);rw[hA] at q1;simp only[v6,ai.box.injEq] at q1;subst q1;rcases c3 with rfl | ⟨b1,off1,cs1,rfl,r1,gX⟩
   ·rw[zx9,Ff w tS tR e ht i.size hz];rfl
   ·cases es with
    |nil=>rw[zx9,Ff w tS tR e ht i.size hz];rfl
    |cons e0 es =>
     have hl:=aI.length _ _ gX;have he0:=c4 e0 (by simp);have hpos:0<cs1.length:=by rw[hl];simp only[I.sizes];omega
     have hc:=r1 0 cs1[0] (zz5 hpos);obtain ⟨tA,kA,hsa⟩:=abR hc.1;have ho:=hs.bx n;rw[hA] at ho;obtain ⟨b',cs',T',k1,k2,k3,k4,k5⟩:=ho;rw[q2] at k1;simp only[v6,bD.aE.injEq,and_true] at k1;subst k1;have hne:b1≠b:=fun e1=>k5 _ (e1▸hc.2);have hcs:cs.size≠0:=by
      have:=ae.length _ _ q9;rw[zx6] at this;omega
     replace q3:=q3.plain hfl
     obtain ⟨kB,hkB⟩:∃ kB,cs.size=kB+1:=⟨cs.size-1,by omega⟩
     rw[abH w tS tR e ht i.size hz ⟨b1,off1,none⟩ ⟨b,off+lo*sz,none⟩ _ _ _ _ hne tA T kA kB hsa (by simp only[World.shape?,q3,hkB]) (by simp[World.frozen?,q3]) (by simp[World.frozen?,q3])];rfl
noncomputable def uK(A:ab)(d:Option Nat)(esz bytes:Nat)(z s:I)(rest:List aC):I→cj
 | .int _ m=>pP A d esz bytes z m.toNat s (cT A esz s) (aA rest)
 |_=>.fail
theorem ZG(A:ab)(d:Option Nat)(rest:List aC)(e esz bytes:Nat)(z:I)(s n:aF):bq A d (.jU e esz bytes z s n) rest=uK A d esz bytes z (af A s) rest (af A n):=by
 simp only[bq,aY];cases af A n <;>rfl
theorem aah(A:ab)(d:Option Nat)(rest:List aC)(f:FuncId)(args:List aF):bq A d (.gK f args) rest=.gK f (args.map (af A)) d rest A:=rfl
def r0(A:ab):I→Option I
 | .nils _ | .c0 _=>some (.int .i64 ((0:Nat):Int))
 | .view n p _ lo _=>match eG (dv p (A.o n)) with
  |some fs=>some (.int .i64 ((fs.length-lo:Nat):Int))
  |none=>none
 |_=>none
theorem ZN(A:ab)(d:Option Nat)(rest:List aC)(x:aF):bq A d (.cap x) rest=cv (r0 A (af A x)) (cK d rest A):=by
 simp only[bq,aY,aZ];cases af A x <;>try rfl
 rename_i n p sz l0 k;simp only[r0,j0,fH];cases dv p (A.o n) with
 |none=>rfl
 |some c=>cases c <;>rfl
theorem mH(A:ab)(d:Option Nat)(rest:List aC)(esz:Nat)(x y:aF):bq A d (.gl esz x y) rest=kz A d esz (aA rest) (af A x) (kj A esz (af A y)):=rfl
section
variable {α:Type} [Enc α] {P:Program} {Y:Value→List I→List (Nat×ai)→cd→Prop} {K:ab→Prop} {A:ab} {rest:List aC} {esz bytes:Nat}
theorem JU{n lo k sz:Nat}{xs:List α}(ho:A.o n=some (.box (.agg (xs.map enc)))):r0 A (.view n [] sz lo k)=some (.int .i64 ((xs.length-lo:Nat):Int)):=by
 have h2:(I.agg (xs.map (enc (α:=α)))).at []=some (.agg (xs.map enc)):=rfl;simp only[r0,dv,ho,h2,eG,I.c7,zz2]
theorem nR{n lo k:Nat}{xs:List α}(ho:A.o n=some (.box (.agg (xs.map enc))))(h:lo+k≤xs.length):cT A esz (.view n [] esz lo k)=some (((xs.drop lo).take k).map enc):=by
 have h1:b6 A (.ptr n [])=some (.agg (xs.map enc)):=by simp only[b6,ho];rfl
 simp only[cT,h1,zz2];rw[if_pos ⟨h,trivial⟩,List.map_take,List.map_drop]
theorem Fz{xs ys:List α}(h:xs.length=ys.length):I.cI (xs.map enc)=I.cI (ys.map enc):=by
 rw[rj,rj,h]
theorem oz{d:Option Nat}{n lo l c:Nat}{xs ys:List α}(ho:A.o n=some (.box (.agg (xs.map enc))))(hl:lo+l≤xs.length)(hc:min ys.length l=c) :
  kz A d esz (aA rest) (.view n [] esz lo l) (some (ys.map enc))=aA rest ((A.aN n (.box (.agg ((xs.take lo++(ys.take c++xs.drop (lo+c))).map enc)))).aP d (.int .i64 (c:Nat))):=by
 have h2:(I.agg (xs.map (enc (α:=α)))).at []=some (.agg (xs.map enc)):=rfl;have h1:I.cI ((ys.map (enc (α:=α))).take c)=I.cI (((xs.map (enc (α:=α))).drop lo).take c):=by
  rw[←List.map_take,←List.map_drop,←List.map_take];exact Fz (by rw[zy0,zy0,zx5];omega)
 have hc':min (ys.map (enc (α:=α))).length l=c:=by rw[zz2];exact hc
 simp only[kz,ho,h2,hc'];rw[if_pos ⟨rfl,by rw[hc'];exact h1⟩];have h3:((ys.map (enc (α:=α))).take c).length=c:=by rw[zy0,zz2];omega
 simp only[hE,ff,h3,zx4,List.map_take,List.map_drop]
theorem ba.HJ{d:Nat}(z:α)(hs:Enc.sz α=esz){n l m:Nat}{xs:List α}(ho:A.o n=some (.box (.agg (xs.map enc))))(hl:l≤xs.length)(hm:0<m)(hr:xs.length<l+m)(hf:A.o d=none)(hb:(l+m)*bytes≤140737488355328)(hml:l+m≤maxLen)
  (h:∀ q,ba P Y false K (aA rest ((A.aN d (.box (.agg ((xs.take l++(List.replicate m z++List.replicate q z)).map enc)))).aP (some d) (.view d [] esz 0 (l+m))))):ba P Y false K (uK A (some d) esz bytes (enc z) (.view n [] esz 0 l) rest (.int .i64 (m:Nat))):=by
 have h1:=nR (A:=A) (esz:=esz) (lo:=0) (k:=l) ho (by omega);have h2:(I.agg (xs.map (enc (α:=α)))).at []=some (.agg (xs.map enc)):=rfl;have h4:(xs.take l).length=l:=by rw[zy0];omega
 simp only[uK,h1,List.drop_zero,pP,ho,h2,zz2,zw8];rw[if_pos ⟨hm,by omega⟩];simp only[fq,hf,zz2,h4,List.length_replicate];rw[if_pos ⟨hb,hml⟩];refine .any rfl fun q _ =>?_;have:=h q;simp only[zx4,List.map_replicate] at this;exact this
theorem yx{d:Option Nat}{e:Nat}(z:I)(hs:Enc.sz α=esz){n l:Nat}{xs ys:List α}(hy:ys≠[])(ho:A.o n=some (.box (.agg (xs.map enc))))(hr:l+ys.length≤xs.length) :
  fi A d e esz bytes z (enc ys) rest (.view n [] esz 0 l)=aA rest ((A.aN n (.box (.agg ((xs.take l++(ys++xs.drop (l+ys.length))).map enc)))).aP d (.view n [] esz 0 (l+ys.length))):=by
 have h1:=nR (A:=A) (esz:=esz) (lo:=0) (k:=l) ho (by omega);have h2:(I.agg (xs.map (enc (α:=α)))).at []=some (.agg (xs.map enc)):=rfl;have h3:I.cI (ys.map (enc (α:=α)))=I.cI (((xs.map (enc (α:=α))).drop l).take ys.length):=by
  rw[←List.map_drop,←List.map_take];exact Fz (by rw[zy0,zx5];omega)
 simp only[fi,h1,kV A esz ys hs,ed];rw[if_neg (by simpa using hy)];simp only[ho,h2,zz2,zz3];rw[if_pos hr,if_pos ⟨rfl,by rw[zz2,zz3];exact h3⟩];simp only[hE,ff,zz2,zx4,List.map_take,List.map_drop]
theorem ba.Hz{d e:Nat}(z:α)(hs:Enc.sz α=esz){n l:Nat}{xs ys:List α}(hy:ys≠[])(ho:A.o n=some (.box (.agg (xs.map enc))))(hl:l≤xs.length)(hr:xs.length<l+ys.length)(hf:A.o d=none)(hb:(l+ys.length)*bytes≤140737488355328)(hml:l+ys.length≤maxLen)
  (h:∀ q,ba P Y false K (aA rest ((A.aN d (.box (.agg ((xs.take l++(ys++List.replicate q z)).map enc)))).aP (some d) (.view d [] esz 0 (l+ys.length))))):ba P Y false K (fi A (some d) e esz bytes (enc z) (enc ys) rest (.view n [] esz 0 l)):=by
 have h1:=nR (A:=A) (esz:=esz) (lo:=0) (k:=l) ho (by omega);have h2:(I.agg (xs.map (enc (α:=α)))).at []=some (.agg (xs.map enc)):=rfl;have h4:(xs.take l).length=l:=by rw[zy0];omega
 simp only[fi,h1,List.drop_zero,kV A esz ys hs,ed];rw[if_neg (by simpa using hy)];simp only[ho,h2,zz2,zz3];rw[if_neg (by omega)];simp only[fq,hf,zz2,h4];rw[if_pos ⟨hb,hml⟩];refine .any rfl fun q _ =>?_;have:=h q;simp only[zx4,List.map_replicate] at this;exact this
theorem ba.HA{d e q0:Nat}(z:α){l:List α}(hs:Enc.sz α=esz)(hl:l≠[])(hf:A.o d=none)(hb:l.length*bytes≤140737488355328)(hml:l.length≤maxLen)
  (h:∀ m,ba P Y false K (aA rest ((A.aN d (.box (.agg ((l++List.replicate m z).map enc)))).aP (some d) (.view d [] esz 0 l.length)))):ba P Y false K (fi A (some d) e esz bytes (enc z) (enc l) rest (.nils q0)):=by
 have hne:l.map (enc (α:=α))≠[]:=by simpa using hl
 have h1:cT A esz (.nils q0)=some []:=rfl;simp only[fi,h1,kV A esz l hs,ed,if_neg hne,fq,hf,zx9,zz3,zz2,if_pos (y6 hb hml),zy4];refine .any rfl fun m _ =>?_;have:=h m;simp only[zx4,List.map_replicate] at this;exact this
end
theorem abY{n:Nat}{p:List Nat}{sz k total i:Nat}(h:i≤k)(hk:k≤total):∃ y,iU n p sz 0 k total (some (.int .i64 i)) none none=some y:=by
 simp only[iU,gy];rw[if_pos ⟨by omega,by omega,by omega⟩];split <;>exact ⟨_,rfl⟩
theorem v8(k:Nat):cw [] k=.cV:=rfl
def gp(ao:List Nat):List (Nat×I)→List (Nat×I)
 | []=>[]
 |(s,v)::ts=>if ao.contains s=true then (s,v)::gp ao ts else gp ao ts
theorem YN(ao:List Nat):gp ao []=[]:=rfl
theorem YM(ao:List Nat)(s:Nat)(v:I)(ts:List (Nat×I)):gp ao ((s,v)::ts)=if ao.contains s=true then (s,v)::gp ao ts else gp ao ts:=rfl
theorem CC(ao:List Nat)(t:Nat):∀ ts,cw (gp ao ts) t=.cV∨cw (gp ao ts) t=cw ts t
 | []=>.inl rfl
 |(s,v)::ts=>by
  simp only[gp];have ih:=CC ao t ts;by_cases hs:ao.contains s=true
  ·rw[if_pos hs];simp only[cw];split
   ·exact .inr rfl
   ·exact ih
  ·rw[if_neg hs];simp only[cw];split
   ·rename_i e;subst e
    left
    have:∀ ts,cw (gp ao ts) t=.cV:=by
     intro ts
     induction ts with
     |nil=>rfl
     |cons q ts ih2 =>
      obtain ⟨s',v'⟩:=q;simp only[gp];split
      ·rename_i h';simp only[cw];have:t≠s':=fun e=>hs (e▸h');rw[if_neg this];exact ih2
      ·exact ih2
    exact this ts
   ·exact ih
theorem U.qx(ao:List Nat){c:ct}{x:bh}{Q:Exit→ab→Prop}{ts:List (Nat×I)}{os:List (Nat×ai)}(h:U c x Q (al (gp ao ts) os)):U c x Q (al ts os):=by
 refine U.sub ?_ h;rintro cc a w ⟨D,E,hs⟩;refine ⟨D,E,hs.sz,hs.ef,fun t =>?_,hs.c8,hs.cO,hs.cQ,hs.bx,hs.cG,hs.df,hs.eO,hs.cE,hs.fh,hs.fm⟩;simp only[al];rcases CC ao t ts with e | e
 ·rw[e];simp[aQ]
 ·rw[e];exact hs.dn t
theorem Cf:(∀ ao,gp ao []=[])∧(∀ ao s v ts,gp ao ((s,v)::ts)=if ao.contains s=true then (s,v)::gp ao ts else gp ao ts)∧(∀ (a:Nat) l b,(a::l).contains b=(b==a||l.contains b))∧(∀ b:Nat,([]:List Nat).contains b=false)∧(∀ b,(false||b)=b)∧(∀ b,(true||b)=true)∧(∀ b,(b||true)=true)∧(∀ b,(b||false)=b)∧((false=true)=False) :=
 ⟨YN,YM,fun _ _ _=>List.contains_cons,fun _=>rfl,fun _=>rfl,fun _=>rfl,fun b=>by cases b <;>rfl,fun b=>by cases b <;>rfl,by simp⟩
end Go.Abs
namespace Go.Abs
open Go Go.RowKit
open Enc (enc)
def wa:Option ai→Option (List I×List I)
 |some (.b8 ks vs)=>some (ks,vs)
 |_=>none
noncomputable def wk(A:ab)(n:Nat)(rest:List aC):Option (List I×List I)→cj
 |some (ks,vs)=>aA rest (A.aN n (.b8 ks vs))
 |none=>.fail
noncomputable def wj(A:ab)(n:Nat)(ty:cm)(k v:I)(rest:List aC):Option ai→cj
 |some (.b8 ks vs)=>wk A n rest (lJ ty k v ks vs)
 |_=>.fail
noncomputable def wi(A:ab)(ty:cm)(k v:I)(rest:List aC):I→cj
 | .mref n=>wj A n ty k v rest (A.o n)
 |_=>.fail
noncomputable def wh(A:ab)(d:Nat)(rest:List aC):Option ai→cj
 |none=>aA rest ((A.aN d (.b8 [] [])).put d (.mref d))
 |some _=>.fail
open Classical in
noncomputable def tf(A:ab)(d bytes:Nat)(z:I)(rest:List aC):I→cj
 | .int _ n=>if 0≤n∧n.toNat*bytes≤281474976710656∧n.toNat≤maxLen then aA rest ((A.aN d (.box (.agg (List.replicate n.toNat z)))).put d (.view d [] 1 0 n.toNat)) else .fail
 |_=>.fail
noncomputable def te(A:ab)(d bytes:Nat)(z n:I)(rest:List aC):Option ai→cj
 |none=>tf A d bytes z rest n
 |some _=>.fail
noncomputable def wY(A:ab)(d:Nat)(rest:List aC):I→cj
 | .cu ks vs=>aA rest ((A.aN d (.it ks vs (List.range ks.length) none)).put d (.cU d))
 |_=>.fail
noncomputable def tT(A:ab)(d:Nat)(x:I)(rest:List aC):Option ai→cj
 |none=>wY A d rest x
 |some _=>.fail
def vl:Option ai→Option I
 |some (.it ks vs _ cur)=>sa ks vs cur
 |_=>none
def vk(A:ab):I→Option I
 | .cU n=>vl (A.o n)
 |_=>none
open Classical in
noncomputable def CO(A:ab)(d:Option Nat)(n:Nat)(rest:List aC):Option ai→cj
 |some (.it ks vs left _)=>if left=[] then aA rest (A.aP d (.tuple [.bool false])) else
   .any (fun i=>i∈left) fun i=>match ks[i]?,vs[i]? with
    |some kk,some x=>aA rest ((A.aN n (.it ks vs (left.filter (· != i)) (some i))).aP d (.tuple [.bool true,kk,x]))
    |_,_=>.fail
 |_=>.fail
noncomputable def wo(A:ab)(d:Option Nat)(rest:List aC):I→cj
 | .cU n=>CO A d n rest (A.o n)
 |_=>.fail
section
variable (d:Option Nat) (rest:List aC) (A:ab)
theorem Z7(x:aF):bq A d (.nilC x) rest=cv (nw (af A x)) (cK d rest A):=rfl
theorem aab(neg:Bool)(x y:aF):bq A d (.ptrE neg x y) rest=cv (mO neg (ir (af A x)) (ir (af A y))) (cK d rest A):=rfl
theorem Z1(ty:cm)(z:I)(ok:Bool)(m k:aF):bq A d (.lk ty z ok m k) rest=cv (qB ty z ok (af A k) (fY A (af A m))) (cK d rest A):=rfl
theorem Zj(n:Nat):fY A (.mref n)=wa (A.o n):=by
 simp only[fY];cases A.o n with
 |none=>rfl
 |some y=>cases y <;>rfl
theorem Z5(ty:cm)(m k v:aF):bq A none (.jm ty m k v) rest=wi A ty (af A k) (af A v) rest (af A m):=by
 simp only[bq,aY];cases af A m <;>rfl
theorem Z3(d:Nat):bq A (some d) .jK rest=wh A d rest (A.o d):=by
 simp only[bq,aY];cases A.o d <;>rfl
theorem Z4(d e bytes:Nat)(z:I)(n:aF):bq A (some d) (.jl e bytes z n) rest=te A d bytes z (af A n) rest (A.o d):=by
 simp only[bq,aY];cases A.o d with
 |some _=>rfl
 |none=>simp only[te];cases af A n <;>rfl
theorem aac(d:Nat)(x:aF):bq A (some d) (.kh x) rest=tT A d (af A x) rest (A.o d):=by
 simp only[bq,aY];cases A.o d with
 |some _=>rfl
 |none=>simp only[tT];cases af A x <;>rfl
theorem ZQ(x:aF):bq A d (.ent x) rest=cv (vk A (af A x)) (cK d rest A):=by
 simp only[bq,aY,aZ];cases af A x <;>rfl
theorem Z9(x:aF):bq A d (.j8 x) rest=wo A d rest (af A x):=by
 simp only[bq,aY];cases af A x <;>rfl
end
theorem eN :
  (∀ d rest A x,bq A d (.nilC x) rest=cv (nw (af A x)) (cK d rest A))∧(∀ n p,nw (.ptr n p)=some (.ptr n p))∧(∀ x,nw (.ref x)=some (.ref x)) ∧
  (∀ d rest A neg x y,bq A d (.ptrE neg x y) rest=cv (mO neg (ir (af A x)) (ir (af A y))) (cK d rest A))∧(ir .nilp=some true)∧(∀ n p,ir (.ptr n p)=some false)∧(∀ x,ir (.ref x)=some false) ∧
  (mO false (some true) (some true)=some (.bool true))∧(mO false (some false) (some true)=some (.bool false))∧(mO true (some true) (some true)=some (.bool false))∧(mO true (some false) (some true)=some (.bool true)) ∧
  (∀ d rest A ty z ok m k,bq A d (.lk ty z ok m k) rest=cv (qB ty z ok (af A k) (fY A (af A m))) (cK d rest A))∧(∀ A n,fY A (.mref n)=wa (A.o n))∧(∀ A ks vs,fY A (.cu ks vs)=some (ks,vs))∧(∀ ks vs,wa (some (.b8 ks vs))=some (ks,vs)) ∧
  (∀ ty z ok k ks vs,qB ty z ok k (some (ks,vs))=qC ok (jI ty z k ks vs))∧(∀ v b,qC false (some (v,b))=some v)∧(∀ v b,qC true (some (v,b))=some (.tuple [v,.bool b])) ∧
  (∀ rest A ty m k v,bq A none (.jm ty m k v) rest=wi A ty (af A k) (af A v) rest (af A m))∧(∀ A ty k v rest n,wi A ty k v rest (.mref n)=wj A n ty k v rest (A.o n))∧(∀ A n ty k v rest ks vs,wj A n ty k v rest (some (.b8 ks vs))=wk A n rest (lJ ty k v ks vs)) ∧
  (∀ A n rest ks vs,wk A n rest (some (ks,vs))=aA rest (A.aN n (.b8 ks vs))) ∧
  (∀ rest A d,bq A (some d) .jK rest=wh A d rest (A.o d))∧(∀ A d rest,wh A d rest none=aA rest ((A.aN d (.b8 [] [])).put d (.mref d))) ∧
  (∀ rest A d e bytes z n,bq A (some d) (.jl e bytes z n) rest=te A d bytes z (af A n) rest (A.o d))∧(∀ A d bytes z n rest,te A d bytes z n rest none=tf A d bytes z rest n) ∧
  (∀ rest A d x,bq A (some d) (.kh x) rest=tT A d (af A x) rest (A.o d))∧(∀ A d x rest,tT A d x rest none=wY A d rest x)∧(∀ A d rest ks vs,wY A d rest (.cu ks vs)=aA rest ((A.aN d (.it ks vs (List.range ks.length) none)).put d (.cU d))) ∧
  (∀ d rest A x,bq A d (.ent x) rest=cv (vk A (af A x)) (cK d rest A))∧(∀ A n,vk A (.cU n)=vl (A.o n))∧(∀ ks vs l cur,vl (some (.it ks vs l cur))=sa ks vs cur) ∧
  (∀ d rest A x,bq A d (.j8 x) rest=wo A d rest (af A x))∧(∀ A d rest n,wo A d rest (.cU n)=CO A d n rest (A.o n)) :=
 ⟨Z7,fun _ _=>rfl,fun _=>rfl,aab,rfl,fun _ _=>rfl,fun _=>rfl,rfl,rfl,rfl,rfl,Z1,Zj,fun _ _ _=>rfl,fun _ _=>rfl,fun _ _ _ _ _ _=>rfl,fun _ _=>rfl,fun _ _=>rfl,
  fun rest A ty m k v=>Z5 rest A ty m k v,fun _ _ _ _ _ _=>rfl,fun _ _ _ _ _ _ _ _=>rfl,fun _ _ _ _ _=>rfl,fun rest A d=>Z3 rest A d,fun _ _ _=>rfl,fun rest A d e bytes z n=>Z4 rest A d e bytes z n,fun _ _ _ _ _ _=>rfl,
  fun rest A d x=>aac rest A d x,fun _ _ _ _=>rfl,fun _ _ _ _ _=>rfl,ZQ,fun _ _=>rfl,fun _ _ _ _=>rfl,Z9,fun _ _ _ _=>rfl⟩
theorem aau:(∀ n p z lo k,bT none (.view n p z lo k)=true)∧(∀ n,bT none (.mref n)=true)∧(∀ n p,bT none (.ptr n p)=true)∧(∀ x,bT none (.ref x)=true)∧bT none .nilp=true∧bT none .cZ=true∧bT none (.raw (.map none))=true∧(∀ ks vs,bT none (.cu ks vs)=true)∧(∀ {α:Type} [Enc α] (l:List α),bT none (enc l)=true) :=
 ⟨fun _ _ _ _ _=>rfl,fun _=>rfl,fun _ _=>rfl,fun _=>rfl,rfl,rfl,rfl,fun _ _=>rfl,fun l=>by simp[vi,AL]⟩
theorem qF{A:ab}{d bytes:Nat}{z:I}{rest:List aC}{n:Nat}(h1:n*bytes≤281474976710656)(h2:n≤maxLen):tf A d bytes z rest (.int .i64 n)=aA rest ((A.aN d (.box (.agg (List.replicate n z)))).put d (.view d [] 1 0 n)):=by
 simp only[tf,zw8];rw[if_pos ⟨Int.natCast_nonneg n,h1,h2⟩]
section
variable {α:Type} [Enc α] [DecidableEq α] {ty:cm}
theorem vA(az:∀ x y:α,bV ty (enc x) (enc y)=some (decide (x=y)))(k:α):∀ (ks:List α) (i:Nat),gC ty (enc k) (ks.map enc) i=some ((ks.findIdx? fun x=>decide (k=x)).map (· + i))
 | [],i=>rfl
 |x::ks,i=>by
  simp only[zz7,gC,az,List.findIdx?_cons];by_cases h:k=x
  ·simp[h]
  ·simp only[h,decide_false,zz4,if_false];rw[vA az k ks (i+1)];cases ks.findIdx? fun x=>decide (k=x) with
   |none=>rfl
   |some j=>simp;omega
theorem sV(az:∀ x y:α,bV ty (enc x) (enc y)=some (decide (x=y)))(z:I)(k:α)(ks:List α)(vs:List I) :
  jI ty z (enc k) (ks.map enc) vs=match ks.findIdx? fun x=>decide (k=x) with
   |some i=>(vs[i]?).map fun v=>(v,true)
   |none=>some (z,false):=by
 simp only[jI,az,Option.isSome_some,if_true,vA az];cases ks.findIdx? fun x=>decide (k=x) <;>rfl
theorem CK(az:∀ x y:α,bV ty (enc x) (enc y)=some (decide (x=y)))(k:α)(v:I)(hv:v.cn=true)(ks:List α)(vs:List I) :
  lJ ty (enc k) v (ks.map enc) vs=match ks.findIdx? fun x=>decide (k=x) with
   |some i=>some (ks.map enc,vs.set i v)
   |none=>some ((ks++[k]).map enc,vs++[v]):=by
 simp only[lJ,az,Option.isSome_some,hv,qu (gN k),and_self,if_true,vA az];cases ks.findIdx? fun x=>decide (k=x) with
 |none=>simp
 |some i=>rfl
omit [Enc α] in
theorem Bc{k:α}{ks:List α} : (ks.findIdx? fun x=>decide (k=x)).isSome=decide (k∈ks):=by
 induction ks with
 |nil=>rfl
 |cons x ks ih =>
  simp only[List.findIdx?_cons,zw5];by_cases h:k=x
  ·simp[h]
  ·simp only[h,decide_false,zz4,if_false,Option.isSome_map,ih,false_or]
theorem Zd(az:∀ x y:α,bV ty (enc x) (enc y)=some (decide (x=y)))(k:α)(ks:List α):jI ty (.bool false) (enc k) (ks.map enc) (List.replicate ks.length (.bool true))=some (.bool (decide (k∈ks)),decide (k∈ks)):=by
 rw[sV az,←Bc];cases h:ks.findIdx? fun x=>decide (k=x) with
 |none=>rfl
 |some i =>
  have:=(List.findIdx?_eq_some_iff_getElem.1 h).1;simp[this]
def eM{α:Type}[DecidableEq α](ks:List α)(k:α):List α:=if k∈ks then ks else ks++[k]
omit [Enc α] in
theorem Zn{ks:List α}{k x:α} : x∈eM ks k↔x=k∨x∈ks:=by
 unfold eM;split
 ·rename_i h;exact ⟨.inr,fun h2=>h2.elim (fun e=>e▸h) id⟩
 ·simp[or_comm]
theorem Zu(az:∀ x y:α,bV ty (enc x) (enc y)=some (decide (x=y)))(k:α)(ks:List α):lJ ty (enc k) (.bool true) (ks.map enc) (List.replicate ks.length (.bool true))=some ((eM ks k).map enc,List.replicate (eM ks k).length (.bool true)):=by
 rw[CK az k _ rfl];have hm:=Bc (k:=k) (ks:=ks);cases h:ks.findIdx? fun x=>decide (k=x) with
 |none =>
  rw[h] at hm;have:k∉ks:=by simpa using hm.symm
  simp only[eM,if_neg this]
  congr 2
  rw[zz1,List.length_singleton,List.replicate_succ']
 |some i =>
  rw[h] at hm;have:k∈ks:=by simpa using hm.symm
  simp only[eM,if_pos this]
  congr 2
  have:=(List.findIdx?_eq_some_iff_getElem.1 h).1;exact List.ext_getElem (by simp) fun j h1 h2=>by
   simp only[List.getElem_set,List.getElem_replicate];split <;>rfl
end
section
variable {α:Type} [Enc α]
theorem uN{xs:List α}{i:Nat}(d:α)(h:i<xs.length):jA i [] (some (xs.map enc))=some (enc (xs.getD i d)):=by
 simp[jA,mZ,h,I.at,zz6]
theorem FM{A:ab}{n i:Nat}{xs:List α}(v u:α){rest:List aC}(hA:Enc.gn α=false)(h:i<xs.length):dT A none n [i] (.agg (xs.map enc)) (enc v) rest (some (enc u))=aA rest (A.aN n (.box (.agg ((xs.set i v).map enc)))):=by
 rw[fg (eW v) (by rw[vi,hA];rfl) ((eh v).trans (eh u).symm)];have h2:(xs.map (enc (α:=α)))[i]?=some (enc (xs[i])):=by simp[h]
 simp only[I.dm,h2,List.map_set]
end
theorem FN{A:ab}{n i:Nat}{xs:List Bool}(h:i<xs.length)(v u:Bool)(rest:List aC):dT A none n [i] (.agg (xs.map enc)) (.bool v) rest (some (.bool u))=aA rest (A.aN n (.box (.agg ((xs.set i v).map enc)))):=FM v u rfl h
theorem uO{xs:List Bool}{i:Nat}(h:i<xs.length):jA i [] (some (xs.map enc))=some (.bool (xs.getD i false)):=uN false h
theorem sL{m sz lo l i:Nat}{fs:List I}(h:i<l):kI m [] sz lo l sz (i:Int) (some fs)=some (.ptr m [lo+i]):=by rw[YH h];rfl
theorem ov:(∀ {α:Type} [Enc α] (x:α),(enc x).bw=true)∧(∀ n p z lo k,(I.view n p z lo k).bw=false)∧(∀ n,(I.mref n).bw=false)∧(∀ n p,(I.ptr n p).bw=false)∧(∀ n k,(I.own n k).bw=false) :=
 ⟨@gN,fun _ _ _ _ _=>rfl,fun _=>rfl,fun _ _=>rfl,fun _ _=>rfl⟩
end Go.Abs
namespace Go.Abs
open Go Go.RowKit
def r2(on:List (List Nat)):List Nat:=on.foldl (fun acc ks=>acc++[nY acc ks]) []
def vg(d:Option (List (List Nat)))(gs:List aC):Bool:=match d with
 |none=>true
 |some on=>r9 on gs (r2 on)
section
variable {c:ct} {Q:Exit→ab→Prop} {A:ab} {d:Option (List (List Nat))} {on:List (List Nat)} {gs:List aC}
theorem U.fQ(hd:vg d gs=true)(h:∀ K:ab→Prop,(∀ B,Q .normal B→K B)→ba c.P c.Y d.isSome K (aA gs A)):U c (.bW d gs) Q A:=by
 cases d with
 |none=>exact U.bW (cl:=[]) rfl h
 |some on=>exact U.bW (cl:=r2 on) hd h
theorem U.di{y:bh}(hd:vg d gs=true)(h:∀ K:ab→Prop,(∀ B,U c y Q B→K B)→ba c.P c.Y d.isSome K (aA gs A)):U c (.seq (.bW d gs) y) Q A :=
 U.seq (U.fQ hd h)
theorem U.lN(hs:List FuncId)(ao:ec)(σ:List Nat)(hd:tC hs ao on gs (r2 on) σ=true)(hi:dB ao A)(h:∀ K:ab→Prop,(∀ B,Q .normal B→K B)→bR c.P c.Y hs K (aA (kc σ gs) A)):U c (.bW (some on) gs) Q A :=
 U.abb hs ao (r2 on) σ hd hi h
def fT(c:ct):bh→(Exit→ab→Prop)→ab→Prop
 | .seq x y,Q,A=>fT c x (cg (fun B=>U c y Q B) Q) A
 | .block id x,Q,A=>fT c x (iJ id Q) A
 | .skip,Q,A=>Q .normal A
 | .exit id,Q,A=>Q (.exit id) A
 | .ret,Q,A=>Q .ret A
 | .cond b x y,Q,A=>aj (af A b) (U c x Q A) (U c y Q A)
 |x,Q,A=>U c x Q A
def YF:bh→Bool
 | .seq _ _ | .block _ _ | .skip | .exit _ | .ret | .cond _ _ _=>true
 |_=>false
theorem fT.uQ:∀ (x:bh) {Q:Exit→ab→Prop} {A:ab},fT c x Q A→U c x Q A
 | .seq x y,_,_,h=>U.seq (fT.uQ x h)
 | .block id x,_,_,h=>U.block (fT.uQ x h)
 | .skip,_,_,h=>U.skip h
 | .exit _,_,_,h=>U.exit h
 | .ret,_,_,h=>U.ret h
 | .cond _ _ _,_,_,h=>U.fM h
 | .bW _ _,_,_,h | .loop _,_,_,h | .scope _,_,_,h | .label,_,_,h | .pQ,_,_,h | .jN _ _ _ _,_,_,h=>h
theorem U.of{x:bh}(_:YF x=true)(h:fT c x Q A):U c x Q A:=fT.uQ x h
theorem av :
  (∀ c x y Q A,fT c (.seq x y) Q A=fT c x (cg (fun B=>U c y Q B) Q) A)∧(∀ c id x Q A,fT c (.block id x) Q A=fT c x (iJ id Q) A)∧(∀ c Q A,fT c .skip Q A=Q .normal A)∧(∀ c id Q A,fT c (.exit id) Q A=Q (.exit id) A)∧(∀ c Q A,fT c .ret Q A=Q .ret A) ∧
  (∀ c b x y Q A,fT c (.cond b x y) Q A=aj (af A b) (U c x Q A) (U c y Q A))∧(∀ c d gs Q A,fT c (.bW d gs) Q A=U c (.bW d gs) Q A)∧(∀ c x Q A,fT c (.loop x) Q A=U c (.loop x) Q A)∧(∀ c f ps x y Q A,fT c (.jN f ps x y) Q A=U c (.jN f ps x y) Q A) ∧
  (∀ k Q A,cg k Q .normal A=k A)∧(∀ k Q A,cg k Q .ret A=Q .ret A)∧(∀ k Q A i,cg k Q (.exit i) A=Q (.exit i) A)∧(∀ i Q A,iJ i Q .normal A=Q .normal A)∧(∀ i Q A,iJ i Q .ret A=Q .ret A)∧(∀ i Q A j,iJ i Q (.exit j) A=if j=i then Q .normal A else Q (.exit j) A) ∧
  (∀ p q,aj (.bool true) p q=p)∧(∀ p q,aj (.bool false) p q=q)∧(type_of% @Cf) :=
 ⟨fun _ _ _ _ _=>rfl,fun _ _ _ _ _=>rfl,fun _ _ _=>rfl,fun _ _ _ _=>rfl,fun _ _ _=>rfl,fun _ _ _ _ _ _=>rfl,fun _ _ _ _ _=>rfl,fun _ _ _ _=>rfl,fun _ _ _ _ _ _ _=>rfl,fun _ _ _=>rfl,fun _ _ _=>rfl,fun _ _ _ _=>rfl,fun _ _ _=>rfl,fun _ _ _=>rfl,fun _ _ _ _=>rfl,
  fun p q=>by simp[aj],fun p q=>by simp[aj],Cf⟩
theorem aj.ar{t:Bool}{p q:Prop}(h1:t=true→p)(h2:t=false→q):aj (.bool t) p q:=⟨h1,h2⟩
theorem U.au{g:aC}{r:List aC}(hd:vg d gs=true)(e:gs=g::r)(h:∀ K:ab→Prop,(∀ B,Q .normal B→K B)→ba c.P c.Y d.isSome K (aA (g::r) A)):U c (.bW d gs) Q A :=
 U.fQ hd (e▸h)
theorem ba.aq(ao:List Nat){P:Program}{Y:Value→List I→List (Nat×ai)→cd→Prop}{dr:Bool}{x:bh}{K:ab→Prop}{ts:List (Nat×I)}{os:List (Nat×ai)}(hK:∀ B,U c x Q B→K B)(h:U c x Q (al (gp ao ts) os)):ba P Y dr K (.done (al ts os)) :=
 .done (hK _ (U.qx ao h))
theorem bR.aq(ao:List Nat){P:Program}{Y:Value→List I→List (Nat×ai)→cd→Prop}{hs:List FuncId}{x:bh}{K:ab→Prop}{ts:List (Nat×I)}{os:List (Nat×ai)}(hK:∀ B,U c x Q B→K B)(h:U c x Q (al (gp ao ts) os)):bR P Y hs K (.done (al ts os)) :=
 .done (hK _ (U.qx ao h))
end
section
variable {c:ct} {A:ab} {o:Oper}
theorem Aa{P:Program}{m:Nat}{bl:Array Oper}{l:List Oper}{gs:List aC}(h:fC P m bl (o::l)=some gs):∃ g gs',gs=g::gs'∧lq P m bl o=some g∧fC P m bl l=some gs':=by
 simp only[fC] at h;split at h
 ·rename_i g gs' h1 h2;simp only[v6] at h;exact ⟨g,gs',h.symm,h1,h2⟩
 ·cases h
end
def tV(P:Program)(f:FuncId)(ch:List PanicEntry)(vs:Array Value)(w:World)(R:Ending→World→Prop):Prop :=
 Calls P f vs w fun e w'=>e=.panicked ch∧R (.returned (.tuple #[])) w'
theorem tV.mono{P:Program}{f:FuncId}{ch:List PanicEntry}{vs:Array Value}{w:World}{R R':Ending→World→Prop}(h:tV P f ch vs w R)(hr:∀ e w',R e w'→R' e w'):tV P f ch vs w R' :=
 Calls.mono h fun _ _ q=>⟨q.1,hr _ _ q.2⟩
def pb(post:List (Nat×ai)→Prop):cd:=fun r os'=>r=.tuple []∧post os'
def pD(P:Program)(f:FuncId)(ch:List PanicEntry)(args:List I)(os:List (Nat×ai))(post:List (Nat×ai)→Prop):Prop :=
 dH P f=true∧me (tV P f ch) (fun w _ E=>eK P w (bU E)) args os (pb post)
def wH(ch:List PanicEntry)(post:List (Nat×ai)→Prop):Exit→ab→Prop
 | .panic ch',A=>ch'=ch∧iZ [] (pb post) A
 |_,_=>False
theorem Cs{P:Program}{n:Nat}{w:World}{D:aJ}{E:aO}{Y:Value→List I→List (Nat×ai)→cd→Prop}{post:List (Nat×ai)→Prop}{fn:Func}{A:ab}{D':aJ}{E':aO}{ch:List PanicEntry}(h:iZ [] (pb post) A){R:World→Prop}(hR:∀ v w',lh w D E (pb post) v w'→R w') :
  ∀ (ds:List Deferred) (a:Act) (w':World),a.defers=ds→aM ⟨P,w,D,n,bU E,E,Y,none,none⟩ A a w' D' E'→LeavesInM Fence.wide 9 P fn a.tmps (fun e w'=>e=.panicked ch∧R w') ds (.panicking ch) w'
 | [],a,w',_,hs=>by
  obtain ⟨v,h1,h2⟩:=hs.sR (fn := { fn with results := #[] }) (rs:=[]) rfl h;exact ⟨rfl,hR v w' h2⟩
 |d::ds,a,w',hd,hs=>by
  obtain ⟨Bs,h1,_⟩:=hs.ef;rw[hd] at h1;cases Bs with
  |nil=>cases h1
  |cons B Bs =>
   simp only[zz7,zy6] at h1;obtain ⟨rfl,rfl⟩:=h1;obtain ⟨k1,k2⟩:=hs.Ao rfl hd;exact ⟨by simp,.inl ⟨B,_,rfl,run_takeDeferred k1,Cs h hR _ { a with defers:=Bs.map _ } _ rfl k2⟩⟩
theorem Y6{w:World}{D:aJ}{E:aO}{post:List (Nat×ai)→Prop}{v:Value}{w':World}(h:lh w D E (pb post) v w'):∃ v' D' E' r os',Ending.returned (.tuple #[])=.returned v'∧pb post r os'∧aQ w' D' E' r v'∧iX (fun b=>w.heap.size≤b∨bU E b) w' D' E' (aG os') ∧
   eb (fun b=>w.heap.size≤b∨bU E b) w w'∧(∀ b o,D b o→D' b o)∧(∀ b o,D' b o→b<w'.heap.size)∧(∀ b o,D' b o→b<w.heap.size→¬ bU E b→D b o) ∧
   (∀ n e,E n=some e→aw os' n=true→∃ e',E' n=some e'∧e.fA e')∧fS w D w':=by
 obtain ⟨D',E',r,os',h1,h2,h3⟩:=h;refine ⟨_,D',E',r,os',rfl,h1,?_,h3⟩;obtain ⟨rfl,_⟩:=h1;simp only[aQ];exact ⟨[],by simp,by simp[aB]⟩
theorem pD.mk{P:Program}{f:FuncId}{fn:Func}{x:bh}{ch:List PanicEntry}{args:List I}{os:List (Nat×ai)}{post:List (Nat×ai)→Prop}(hf:P.funcs[f]?=some fn)(hcall:dH P f=true)(hc:(fn.body.bind (dG P fn.ntmps))=some x)
  (hn:args.length≤fn.ntmps) (hn2:fn.ntmps≤1000000) (hos:∀ m,aw os m=true→1000000≤m) (h:I.gJ args→∀ (w:World) (D:aJ) (E:aO),U ⟨P,w,D,fn.ntmps,bU E,E,e8,none,none⟩ x (wH ch post) (al (bA 0 args) os)):pD P f ch args os post:=by
 obtain ⟨body,hb,hc'⟩:=zw4.1 hc;refine ⟨hcall,fun w D E vs hl hD ho hv =>?_⟩;have hlen:=pj hv;have hsim:=xz (P:=P) (n:=fn.ntmps) (Y:=e8) hD ho hv (by omega) (fun m hm=>⟨Nat.le_trans hn2 (hos m hm),hos m hm⟩) (pC hl);refine (callsIn_wide (n:=9)).1 (callsIn_of_wp_marks hf hb trivial ?_);refine wpIn_mono (((h (pk _ _ hv) w D E).sub (ud args os)) body hc' _ w ⟨D,E,hsim⟩) ?_;rintro e a w' ⟨A,hq,D',E',hs⟩;cases e <;>simp only[wH] at hq
 obtain ⟨rfl,hq⟩:=hq;exact Cs hq (fun v w' h=>Y6 h) a.defers a w' rfl hs
section
variable {c:ct} {A:ab} {Q:Exit→ab→Prop}
theorem sB{dr:Bool}{K:ab→Prop}{bl:Array Oper}{Q:Exit→Act→World→Prop}{l2:List Oper}(hQ:∀ B a w,K B→bG c B a w→wpListIn c.bj 9 c.P bl Q l2 a w):∀ (l:List Oper) (gs:List aC) (A:ab) (a:Act) (w:World),fC c.P c.n bl l=some gs→ba c.P c.Y dr K (aA gs A) →
  bG c A a w→wpListIn c.bj 9 c.P bl Q (l++l2) a w
 | [],gs,A,a,w,hc,hwp,hs=>by
  simp only[fC,v6] at hc;subst hc;simp only[aA] at hwp;cases hwp with
  |done hk=>exact hQ A a w hk hs
 |o::l,gs,A,a,w,hc,hwp,hs=>by
  simp only[fC] at hc;split at hc
  case h_2=>cases hc
  rename_i g gs' hg hgs;simp only[v6] at hc;subst hc;obtain ⟨h1,h2,h3,h4⟩:=ou hg;have step:ba c.P c.Y dr K (aY A g.dst g.op gs' (aA gs'))→o.wpIn c.bj 9 c.P a w (wpListIn c.bj 9 c.P bl Q (l++l2)) Q:=fun h =>
   sw h1 h2.symm (by rw[h2];exact h3) h hs (fun B a' w' hw hs'=>sB hQ l gs' B a' w' hgs hw hs')
  simp only[zy2,wpListIn];simp only[aA] at hwp;rcases h4 with ⟨h5,h6⟩ | ⟨j,b,t,h5,h6,h7⟩
  ·rw[h6] at hwp;have hw:Region.wanted o (yielded bl a.tmps)=true:=by simp[Region.wanted,h5]
   rw[hw,if_pos rfl];exact step hwp
  ·rw[h7] at hwp;simp only at hwp;split at hwp
   ·rename_i b' hb';rw[sD hs h5 h6 hb'];split at hwp
    ·rename_i hbb;subst hbb;simp only[BEq.rfl,if_true];exact step hwp
    ·rename_i hbb;have:(b'==b)=false:=by simpa using hbb
     rw[this];simp only[zz4,if_false];exact ⟨fun f _=>lC c f,sB hQ l gs' _ _ w hgs hwp (by rw[h2];exact hs.mP h3)⟩
   ·rename_i hb';rw[sE hs h5 h6 hb'];simp only[zz4,if_false];exact ⟨fun f _=>lC c f,sB hQ l gs' _ _ w hgs hwp (by rw[h2];exact hs.mP h3)⟩
   ·cases hwp
theorem z8{P:Program}{m:Nat}{bl:Array Oper}{g:aC}{gs2:List aC} : ∀ {l:List Oper} {gs1:List aC},fC P m bl l=some (gs1++g::gs2)→∃ l1 o l2,l=l1++o::l2∧fC P m bl l1=some gs1∧lq P m bl o=some g
 | [],gs1,h=>by simp[fC] at h
 |o::l,[],h=>by
  obtain ⟨g',gs',e,h1,h2⟩:=Aa h;simp only[zy4,zy6] at e;obtain ⟨rfl,rfl⟩:=e;exact ⟨[],o,l,rfl,rfl,h1⟩
 |o::l,k::gs1,h=>by
  obtain ⟨g',gs',e,h1,h2⟩:=Aa h;simp only[zy2,zy6] at e;obtain ⟨rfl,rfl⟩:=e;obtain ⟨l1,o',l2,rfl,q1,q2⟩:=z8 h2;exact ⟨o::l1,o',l2,rfl,by simp only[fC,h1,q1],q2⟩
inductive pK (P:Program) (Q:Exit→ab→Prop) (f:FuncId) (avs:List I):ab→Prop where
 |mk {ts:List (Nat×I)} {os0:List (Nat×ai)} (aE:Bool) (ρ:List (Nat×Nat)) (os:List (Nat×ai)) (cargs:List I) (ch:List PanicEntry) (post:List (Nat×ai)→Prop):pD P f ch cargs os post→eF ρ os os0→gi aE (al ts (dw (iP ρ os) os0)) ρ os avs cargs →
  (∀ os',post os'→dj aE ρ os os0 (.tuple []) os')→(∀ os',post os'→Q (.panic ch) (al ts (cD ρ os'++os0)))→pK P Q f avs (al ts os0)
inductive mf (P:Program) (Q:Exit→ab→Prop):bz→ab→Prop where
 |call {f:FuncId} {args:List aF} {A:ab} : pK P Q f (args.map (af A)) A→mf P Q (.call f args) A
 |eV {x:aF} {args:List aF} {f:Nat} {caps:List I} {A:ab} : af A x=.func f caps→pK P Q (kE f) (gR f (args.map (af A)) caps) A→mf P Q (.eV x args) A
 |kO {x:aF} {t:TypeId} {A:ab} : af A x=.iface t (.agg [])→Q (.panic [{ v:=.iface t (.agg #[]),recovered:=false }]) A→mf P Q (.prim .kO [x]) A
theorem wI{o:Oper}{g:bz}{f:FuncId}{avs:List I}{vs:List Value}{a:Act}{w:World}{D:aJ}{E:aO}{Kw:Act→World→Prop}(hop0:cF c.P o=some g)(h:pK c.P Q f avs A)(hs:aM c A a w D E)(hall:dX (aQ w D E) avs vs)
  (hrun:dH c.P f=true→(execOp a.eval o).run c.P w=.ok (.enter f vs.toArray) w):o.wpIn c.bj 9 c.P a w Kw (qz c Q):=by
 cases h with
 |mk aE ρ os cargs ch post hspec hgv ha hb hrest =>
  have hu:=hspec.2.use hs aE (fun h=>h.mono) ⟨fun _ _=>hs.nr,fun _=>hs.nr⟩ hgv ha (fun r os' hp=>by obtain ⟨rfl,hp⟩:=hp;exact hb os' hp) hall;refine ⟨jy,?_⟩;rw[jR hop0,hrun hspec.1,Oper.uponIn_enter];refine ⟨ve c,Aj (Calls.mono hu ?_)⟩;rintro e w' ⟨rfl,v,r,os',D2,E2,he,⟨rfl,hp⟩,hs',hv,_⟩;exact ⟨_,hrest os' hp,D2,E2,hs'⟩
theorem aaF{o:Oper}{g:bz}{a:Act}{w:World}{Kw:Act→World→Prop}(hop:cF c.P o=some g)(h:mf c.P Q g A)(hsim:bG c A a w):o.wpIn c.bj 9 c.P a w Kw (qz c Q):=by
 have hop0:=hop;obtain ⟨D,E,hs⟩:=hsim;cases h with
 |call h =>
  unfold cF at hop;split at hop <;>try (first | (simp at hop;done) | ((repeat' split at hop) <;>simp at hop;done))
  rename_i f' xs ts ho;split at hop
  case isFalse=>simp at hop
  simp only[t8,bz.call.injEq] at hop;obtain ⟨ys,hys,rfl,rfl⟩:=hop;have e:xs.map a.eval=(xs.toList.map a.eval).toArray:=by apply Array.ext';simp
  refine wI (vs:=xs.toList.map a.eval) hop0 h hs (kr hs xs.toList ts.toList ys hys) fun hc =>?_;simp only[execOp,ho,resolve,Act.eval,Deferred.ofValue,Sem.run_bind,Sem.run_pure,Result.andThen_ok,invoke,Array.append_empty,Array.empty_append,lR hc];rw[←e]
 |eV hx h =>
  rename_i x args f caps;unfold cF at hop;split at hop <;>try (first | (simp at hop;done) | ((repeat' split at hop) <;>simp at hop;done))
  rename_i y xs ts _ ho;split at hop
  case h_2=>cases hop
  rename_i y' ys h1 h2;simp only[v6,bz.eV.injEq] at hop;obtain ⟨rfl,rfl⟩:=hop;have hv:=br hs h1;rw[hx] at hv;obtain ⟨cs,q1,q2⟩:=hv;simp only[ae] at q2;obtain ⟨vs,q3,q4⟩:=q2;have hval:a.eval y=je f vs:=by simpa[bd,I.isAgg,q3] using q1.symm
  have e:xs.map a.eval=(xs.toList.map a.eval).toArray:=by apply Array.ext';simp
  have hargs:=kr hs xs.toList ts.toList ys h2;rcases Nat.lt_or_ge f 1000000 with hf | hf
  ·rw[vt hf,vr hf] at h;rw[lB hf] at hval;refine wI (vs:=xs.toList.map a.eval++vs) hop0 h hs (hargs.append (nO q4)) fun hc =>?_;simp only[execOp,ho,resolve,hval,Deferred.ofValue,Sem.run_bind,Sem.run_pure,Result.andThen_ok,invoke,Array.empty_append,lR hc];rw[e];simp
  ·obtain ⟨g,rfl⟩:∃ g:Nat,f=g+1000000:=⟨Nat.sub f 1000000,(Nat.sub_add_cancel hf).symm⟩
   rw[A2,A1] at h;rw[qg] at hval;refine wI (vs:=vs++xs.toList.map a.eval) hop0 h hs ((nO q4).append hargs) fun hc =>?_;simp only[execOp,ho,resolve,hval,Deferred.ofValue,Sem.run_bind,Sem.run_pure,Result.andThen_ok,invoke,Array.append_empty,lR hc];rw[e];simp

 |kO hx hq =>
  rename_i x t;unfold cF at hop;split at hop <;>try (first | (simp at hop;done) | ((repeat' split at hop) <;>simp at hop;done))
  rename_i x0 ho;simp only[t8,bz.prim.injEq,zy6,and_true,true_and] at hop;obtain ⟨y,hy,rfl⟩:=hop;have hv:=br hs hy;rw[hx] at hv;obtain ⟨cs,q1,q2⟩:=hv;simp only[ae] at q2;obtain ⟨u,cs',q3,q4,q5⟩:=q2;simp only[aI] at q5;subst q5;have hu:u=.agg #[]:=by simpa[bd,I.isAgg] using q4
  have hval:a.eval x0=.iface t (.agg #[]):=by simpa[bd,I.isAgg,q3,hu] using q1.symm
  have hrun:(execOp a.eval o).run c.P w=.halt (.panic (.iface t (.agg #[]))) w:=by simp[execOp,ho,hval,Instr.panic,goPanic]
  refine ⟨jy,?_⟩;rw[jR hop0,hrun,Oper.uponIn_panic];exact ⟨A,hq,D,E,hs⟩
theorem U.aba{gs:List aC}(k:Nat){g:bz}{dst:Option Nat}(hk:gs=gs.take k++⟨dst,g,none⟩::gs.drop (k+1))(h:∀ K:ab→Prop,(∀ B,mf c.P Q g B→K B)→ba c.P c.Y false K (aA (gs.take k) A)):U c (.bW none gs) Q A:=by
 intro code hc a w hs;cases code <;>simp only[dG] at hc <;>try (first | (cases hc;done) | ((repeat' split at hc) <;>cases hc;done))
 rename_i id bl draw;split at hc
 case h_2=>cases hc
 rename_i gs' hgs;split at hc
 case isFalse=>cases hc
 simp only[v6,bh.bW.injEq] at hc;obtain ⟨hdr,rfl⟩:=hc;cases draw with
 |true=>simp at hdr
 |false =>
  refine wpIn_region_list ?_;rw[hk] at hgs;obtain ⟨l1,o,l2,hl,h1,h2⟩:=z8 hgs;rw[hl];refine sB (K:=mf c.P Q g) (fun B a' w' hp hs' =>?_) l1 _ A a w h1 (h _ fun _ hb=>hb) hs;obtain ⟨q1,q2,q3,q4⟩:=ou h2;have wn:Region.wanted o (yielded bl a'.tmps)=true:=by
   rcases q4 with ⟨a5,_⟩ | ⟨_,_,_,_,_,a5⟩
   ·simp[Region.wanted,a5]
   ·simp at a5
  simp only[wpListIn,wn,if_true];exact aaF q1 hp hs'
theorem U.lO{gs gs1 gs2:List aC}{g:bz}{dst:Option Nat}(e:gs=gs1++⟨dst,g,none⟩::gs2)(h:∀ K:ab→Prop,(∀ B,mf c.P Q g B→K B)→ba c.P c.Y false K (aA gs1 A)):U c (.bW none gs) Q A:=by
 subst e;refine U.aba gs1.length (g:=g) (dst:=dst) ?_ fun K hK =>?_
 ·simp
 ·simpa using h K hK
end
end Go.Abs
